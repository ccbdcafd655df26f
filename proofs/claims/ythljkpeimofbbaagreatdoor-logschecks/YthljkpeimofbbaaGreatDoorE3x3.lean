/- Lemmas of the claim LogsChecks, printed by a program of the claimant and by hand. No statement of the seat is proved here. -/
import Derived.Test.YthljkpeimofbbaaGreatDoorE3x2
set_option linter.unusedVariables false
set_option linter.unusedSimpArgs false
set_option linter.unusedSectionVars false
set_option maxHeartbeats 4000000
set_option maxRecDepth 100000
namespace Go.Proofs.YthljkpeimofbbaaGreatDoor
def D2 (N : Nat) (x0 : UO) : Option Bool :=
 ((bif ((x0.length : Int) == 1) then ((JG x0 0).bind fun c33 => ((DM N c33).bind fun r36 => some r36)) else some false).bind fun j24 => (bif j24 then some true else (((DL N x0).bind fun r55 => (bif r55 then ((Cu N (x0.length : Int) 1 4).bind fun r66 => (bif r66 then ((Gv N x0).bind fun r77 => some (r77 == 0)) else some false)) else some false)).bind fun j50 => some j50)))
theorem Hg : Af Tryz.prog 232 := fun _ _ => by kernel_rfl
theorem Ib (N : Nat) (w0 : World) (F0 : Mem) (hF : UQ w0 F0) (x0 : UO) (r : Bool) (h : D2 N x0 = some r) :
  Calls Tryz.prog 232 ([(sv x0)] : List Value).toArray w0 (AA w0 F0 fun F' v => v = (.bool r)) := by
 have hs0 := Uv hF
 refine Go 23 Tryz.func232 <| Sq (Rg [0] ?_)
 refine Vs 1 <| Nss <| Sq (Rg (rG 8) ?_)
 obtain ⟨j24, hj28, h29⟩ := bind_some h
 refine Uz (fun f w => ∃ (F1 : Mem), HS w0 F0 w F1 [] /\ Ut F0 F1 /\ FI f [] [(0, (sv x0)), (10, (.bool j24))]) ?_ ?_
 ·refine Vs 4 ?_
  refine Sp hj28 (fun hb30 h31 => ?_) (fun hb30 h32 => ?_)
  ·refine Vgs hb30 1 ?_
   obtain ⟨c33, hr34, h35⟩ := bind_some h31
   refine Vg 8 5 3 true 6 hb30 (DW (t := 9) (x := (.tmp 7)) (y := (.const (vi 0))) (a := x0) (k := .i64) (i := 0) (v := c33) rfl rfl (by kernel_rfl) hr34) ?_
   obtain ⟨r36, hr37, h38⟩ := bind_some h35
   refine Cg hb30 Fq hs0 (Gn N w0 F0 hs0.pers c33 _ hr37) ?_
   rintro _ F2 w40 hs41 le42 rfl
   refine Pk1 hb30 ?_
   obtain rfl := Aa h38
   exact Up ⟨rfl, F2, hs41, le42, fI⟩
  ·refine Ss hb30 3 ?_
   refine Pk0 hb30 ?_
   obtain rfl := Aa h32
   exact Up ⟨rfl, F0, hs0, (Uu _), fI⟩
 ·rintro f w21 ⟨F1, hs22, le23, ⟨_, rfl⟩⟩
  refine Ab <| Cd h29 (fun hb44 h45 => ?_) (fun hb44 h46 => ?_)
  ·refine Sq (Rg [0] ?_)
   refine Vs 1 <| Nt <| Rt <| Ae ?_
   obtain rfl := Aa h45
   exact Re [(.bool true)] hs22 rfl
  ·refine Sc ?_
   refine Ab <| Sq (Rg (rG 13) ?_)
   obtain ⟨j50, hj53, h54⟩ := bind_some h46
   refine Uz (fun f w => ∃ (F3 : Mem), HS w0 F0 w F3 [] /\ Ut F1 F3 /\ FI f [] [(2, (.bool j50))]) ?_ ?_
   ·refine Vs 1 ?_
    obtain ⟨r55, hr56, h57⟩ := bind_some hj53
    refine Cl' Fp hs22 (Gm N w21 F1 hs22.pers x0 _ hr56) ?_
    rintro _ F4 w59 hs60 le61 rfl
    refine Vs 1 <| Sp h57 (fun hb63 h64 => ?_) (fun hb63 h65 => ?_)
    ·refine Vgs hb63 2 ?_
     obtain ⟨r66, hr67, h68⟩ := bind_some h64
     refine Cg hb63 CA hs60 (CZ N w59 F4 hs60.pers ((x0.length : Int)) 1 4 _ hr67) ?_
     rintro _ F5 w70 hs71 le72 rfl
     refine Pk1 hb63 <| Vs 1 <| Sp h68 (fun hb74 h75 => ?_) (fun hb74 h76 => ?_)
     ·refine Vgs hb74 1 ?_
      obtain ⟨r77, hr78, h79⟩ := bind_some h75
      refine Cg hb74 J2 hs71 (LA N w70 F5 hs71.pers x0 _ hr78) ?_
      rintro _ F6 w81 hs82 le83 rfl
      refine Vgs hb74 1 <| Pk1 hb74 <| Vs 1 ?_
      obtain rfl := Aa h79
      exact Up ⟨rfl, F6, hs82, ((le61.t le72).trans le83), fI⟩
     ·refine Ss hb74 3 ?_
      refine Pk0 hb74 <| Vs 1 ?_
      obtain rfl := Aa h76
      exact Up ⟨rfl, F5, hs71, (le61.t le72), fI⟩
    ·refine Ss hb63 3 ?_
     refine Pk0 hb63 <| Vs 1 <| Ss (rfl : false = false) 3 <| Pk0 (rfl : false = false) <| Vs 1 ?_
     obtain rfl := Aa h65
     exact Up ⟨rfl, F4, hs60, le61, fI⟩
   ·rintro f w47 ⟨F3, hs48, le49, ⟨_, rfl⟩⟩
    refine Ab <| Rt ?_
    obtain rfl := Aa h54
    exact Re [(.bool j50)] hs48 rfl
def FL (N : Nat) (x0 : UO) : Option (UO × UO × UO × Bool) :=
 (bif (decide ((x0.length : Int) > 16)) then some (([] : UO), ([] : UO), ([] : UO), false) else ((E0 N x0).bind fun r24 => ((bif ((r24.length : Int) == 1) then ((idx r24 0).bind fun x44 => ((DG N x44).bind fun r58 => some r58)) else some false).bind fun j35 => (bif j35 then (((idx r24 0).bind fun x82 => some x82).bind fun j74 => some (([] : UO), j74, ([] : UO), true)) else ((bif ((r24.length : Int) == 2) then ((idx r24 0).bind fun x110 => ((Fh N x110).bind fun r124 => (bif r124 then ((idx r24 1).bind fun x135 => ((DG N x135).bind fun r141 => (bif r141 then ((idx r24 0).bind fun x152 => ((idx r24 1).bind fun x158 => some (decide ((x152.length : Int) < (x158.length : Int))))) else some false))) else some false))) else some false).bind fun j101 => (bif j101 then (((idx r24 0).bind fun x180 => ((idx r24 1).bind fun x194 => some (x180, x194))).bind fun j172 => some (j172.1, j172.2, ([] : UO), true)) else ((bif ((r24.length : Int) == 2) then ((idx r24 0).bind fun x212 => ((DG N x212).bind fun r226 => (bif r226 then ((idx r24 1).bind fun x237 => ((D2 N x237).bind fun r243 => some r243)) else some false))) else some false).bind fun j203 => (bif j203 then (((idx r24 0).bind fun x267 => ((idx r24 1).bind fun x281 => some (x267, x281))).bind fun j259 => some (([] : UO), j259.1, j259.2, true)) else ((bif ((r24.length : Int) == 3) then ((idx r24 0).bind fun x299 => ((Fh N x299).bind fun r313 => (bif r313 then ((idx r24 1).bind fun x324 => ((DG N x324).bind fun r330 => (bif r330 then ((idx r24 2).bind fun x341 => ((D2 N x341).bind fun r347 => some r347)) else some false))) else some false))) else some false).bind fun j290 => (bif j290 then (((idx r24 0).bind fun x371 => ((idx r24 1).bind fun x385 => ((idx r24 2).bind fun x391 => some (x371, x385, x391)))).bind fun j363 => some (j363.1, j363.2.1, j363.2.2, true)) else some (([] : UO), ([] : UO), ([] : UO), false)))))))))))
theorem MI : Af Tryz.prog 185 := fun _ _ => by kernel_rfl
theorem Np (N : Nat) (w0 : World) (F0 : Mem) (hF : UQ w0 F0) (x0 : UO) (r : (UO × UO × UO × Bool)) (h : FL N x0 = some r) :
  Calls Tryz.prog 185 ([(sv x0)] : List Value).toArray w0 (AA w0 F0 fun F' v => v = (.tuple #[(sv r.1), (sv r.2.1), (sv r.2.2.1), (.bool r.2.2.2)])) := by
 have hs0 := Uv hF
 refine Go 107 Tryz.func185 <| Sq (Rg (rG 4) ?_)
 refine Vs 4 <| Nss <| Sq (Rg [0, 1, 2] ?_)
 refine Vs 3 <| Nt <| Cd h (fun hb21 h22 => ?_) (fun hb21 h23 => ?_)
 ·refine Sq (Rg (rG 4) ?_)
  refine Vs 4 <| Nt <| Rt <| Ae ?_
  obtain rfl := Aa h22
  exact Re [(sv (([] : UO))), (sv (([] : UO))), (sv (([] : UO))), (.bool false)] hs0 rfl
 ·refine Sc ?_
  refine Ab <| Sq (Rg [0, 1, 2] ?_)
  refine Vs 1 ?_
  obtain ⟨r24, hr25, h26⟩ := bind_some h23
  refine Cl' LQ hs0 (MU N w0 F0 hs0.pers x0 _ hr25) ?_
  rintro _ F1 w28 hs29 le30 ⟨ar24_0_0, nr24_0_0, rfl, hbr24_0_0, hsr24_0_0⟩
  refine Vs 1 <| Nss <| Sq (Rg (rG 9) ?_)
  obtain ⟨j35, hj39, h40⟩ := bind_some h26
  refine Uz (fun f w => ∃ (F2 : Mem), HS w0 F0 w F2 [] /\ Ut F1 F2 /\ FI f [] [(6, (.slice ar24_0_0 r24.length nr24_0_0)), (20, (.bool j35))]) ?_ ?_
  ·refine Vs 4 ?_
   refine Sp hj39 (fun hb41 h42 => ?_) (fun hb41 h43 => ?_)
   ·refine Vgs hb41 1 ?_
    obtain ⟨x44, hx45, h47⟩ := bind_some h42
    obtain ⟨hi46, hx45'⟩ := Ak hx45
    obtain ⟨b48, o49, C50, E51, fz52, rfl, hF54, hE55⟩ := UB hsr24_0_0 hx45'
    have hc57 := hE55 _ _ hx45'
    refine Ixg hb41 hi46 <| Lxg hb41 0 (hs29.pers _ _ hF54) hc57 ?_
    obtain ⟨r58, hr59, h60⟩ := bind_some h47
    refine Cg hb41 Ew hs29 (E5 N w28 F1 hs29.pers x44 _ hr59) ?_
    rintro _ F3 w62 hs63 le64 rfl
    refine Pk1 hb41 ?_
    obtain rfl := Aa h60
    exact Up ⟨rfl, F3, hs63, le64, fI⟩
   ·refine Ss hb41 4 ?_
    refine Pk0 hb41 ?_
    obtain rfl := Aa h43
    exact Up ⟨rfl, F1, hs29, (Uu _), fI⟩
  ·rintro f w32 ⟨F2, hs33, le34, ⟨_, rfl⟩⟩
   refine Ab <| Cd h40 (fun hb66 h67 => ?_) (fun hb66 h68 => ?_)
   ·refine Sq ?_
    obtain ⟨j74, hj80, h81⟩ := bind_some h67
    refine RD 7 7 [] [] hs33 (fun f w => ∃ (F4 : Mem), HS w0 F0 w F4 [] /\ Ut F2 F4 /\ FI f [] [(2, (sv (([] : UO)))), (3, (sv j74)), (4, (sv (([] : UO)))), (5, (.bool true))]) (fun wd69 hw70 => ?_) ?_
    ·refine Dv [0] ?_
     obtain ⟨x82, hx83, h85⟩ := bind_some hj80
     obtain ⟨hi84, hx83'⟩ := Ak hx83
     obtain ⟨b86, o87, C88, E89, fz90, rfl, hF92, hE93⟩ := UB (Uw hsr24_0_0 le34) hx83'
     have hc95 := hE93 _ _ hx83'
     refine Di 1 hi84 <| Dx 2 0 (fun _ hq => hq.1.1 _ _ hF92) hc95 <| Dv [3, 4, 5, 6] ?_
     obtain rfl := Aa h85
     exact UG (by kernel_rfl) ⟨F2, hw70, (Uu _), fI⟩
    ·rintro f w71 ⟨F4, hs72, le73, ⟨_, rfl⟩⟩
     refine Ab <| Rt <| Ae ?_
     obtain rfl := Aa h81
     exact Re [(sv (([] : UO))), (sv j74), (sv (([] : UO))), (.bool true)] hs72 rfl
   ·refine Sc ?_
    refine Ab <| Sq <| Sq ?_
    obtain ⟨j101, hj105, h106⟩ := bind_some h68
    refine RD 26 26 [] [] hs33 (fun f w => ∃ (F5 : Mem), HS w0 F0 w F5 [] /\ Ut F2 F5 /\ FI f [] [(6, (.slice ar24_0_0 r24.length nr24_0_0)), (49, (.bool j101))]) (fun wd96 hw97 => ?_) ?_
    ·refine Dvl [0, 1, 2, 3] (tf 4 22) ?_
     refine Sd hj105 (fun hb107 h108 => ?_) (fun hb107 h109 => ?_)
     ·refine Dgl 4 28 55 _ (tf 5 21) 3 true 27 hb107 (fun _ hq => mv 6 (.slice ar24_0_0 r24.length nr24_0_0)) ?_
      obtain ⟨x110, hx111, h113⟩ := bind_some h108
      obtain ⟨hi112, hx111'⟩ := Ak hx111
      obtain ⟨b114, o115, C116, E117, fz118, rfl, hF120, hE121⟩ := UB (Uw hsr24_0_0 le34) hx111'
      have hc123 := hE121 _ _ hx111'
      refine Dgl 5 29 0 (.pointer (some ⟨b114, (o115 + (0 : Int).toNat * 1), none⟩)) (tf 6 20) 3 true 27 hb107 (fun _ hq => Bv (t := 55) (x := (.tmp 28)) (y := (.const (vi 0))) (b := b114) (o := o115) (E := 9) (s := 1) (by_ := 16) rfl rfl (by kernel_rfl) hi112) <| Dgl 6 30 9 _ (tf 7 19) 3 true 27 hb107 (fun _ hq => lx 9 29 0 1 false 1 (sv x110) (hq.1.1 _ _ hF120) hc123) <| D1 7 ?_
      obtain ⟨r124, hr125, h126⟩ := bind_some h113
      refine UF (l' := [true, true, true, true, true, true, true, true, false, false, false, false, false, false, false, false, false, false, false, false, false, false, false, false, false, false]) (zd := true) (by kernel_rfl) (by kernel_rfl) (by kernel_rfl) (dst := (some 31)) (ty := 4) (g := (some (3, true))) (by kernel_rfl) (Ge (d := 27) (by kernel_rfl) rfl hb107) (f0 := (.func 231)) (aos := #[(.tmp 30)]) (ats := #[9]) (fid := 231) (first := #[]) (cap := #[]) (args := [(sv x110)]) rfl I2 rfl hw97 (Kd N wd96 F2 hw97.pers x110 _ hr125) ?_
      rintro _ F6 w128 hs129 le130 rfl
      refine Dtl 8 32 4 _ (tf 9 17) (fun _ hq => p1 27 (.tmp 31) (.const (.bool false)) (.bool r124) hb107) <| Dvl [9] (tf 10 16) <| Sd h126 (fun hb132 h133 => ?_) (fun hb132 h134 => ?_)
      ·refine Dgl 10 34 55 _ (tf 11 15) 9 true 33 hb132 (fun _ hq => mv 6 (.slice (some ⟨b114, o115, none⟩) r24.length nr24_0_0)) ?_
       obtain ⟨x135, hx136, h138⟩ := bind_some h133
       obtain ⟨hi137, hx136'⟩ := Ak hx136
       have hc140 := hE121 _ _ hx136'
       refine Dgl 11 35 0 (.pointer (some ⟨b114, (o115 + (1 : Int).toNat * 1), none⟩)) (tf 12 14) 9 true 33 hb132 (fun _ hq => Bv (t := 55) (x := (.tmp 34)) (y := (.const (vi 1))) (b := b114) (o := o115) (E := 9) (s := 1) (by_ := 16) rfl rfl (by kernel_rfl) hi137) <| Dgl 12 36 9 _ (tf 13 13) 9 true 33 hb132 (fun _ hq => lx 9 35 0 1 false 1 (sv x135) (hq.1.1 _ _ hF120) hc140) <| D1 13 ?_
       obtain ⟨r141, hr142, h143⟩ := bind_some h138
       refine UF (l' := [true, true, true, true, true, true, true, true, true, true, true, true, true, true, false, false, false, false, false, false, false, false, false, false, false, false]) (zd := true) (by kernel_rfl) (by kernel_rfl) (by kernel_rfl) (dst := (some 37)) (ty := 4) (g := (some (9, true))) (by kernel_rfl) (Ge (d := 33) (by kernel_rfl) rfl hb132) (f0 := (.func 230)) (aos := #[(.tmp 36)]) (ats := #[9]) (fid := 230) (first := #[]) (cap := #[]) (args := [(sv x135)]) rfl Ew rfl hs129 (E5 N w128 F6 hs129.pers x135 _ hr142) ?_
       rintro _ F7 w145 hs146 le147 rfl
       refine Dtl 14 38 4 _ (tf 15 11) (fun _ hq => p1 33 (.tmp 37) (.const (.bool false)) (.bool r141) hb132) <| Dvl [15] (tf 16 10) <| Sd h143 (fun hb149 h150 => ?_) (fun hb149 h151 => ?_)
       ·refine Dgl 16 40 55 _ (tf 17 9) 15 true 39 hb149 (fun _ hq => mv 6 (.slice (some ⟨b114, o115, none⟩) r24.length nr24_0_0)) ?_
        obtain ⟨x152, hx153, h155⟩ := bind_some h150
        obtain ⟨hi154, hx153'⟩ := Ak hx153
        have hc157 := hE121 _ _ hx153'
        refine Dgl 17 41 0 (.pointer (some ⟨b114, (o115 + (0 : Int).toNat * 1), none⟩)) (tf 18 8) 15 true 39 hb149 (fun _ hq => Bv (t := 55) (x := (.tmp 40)) (y := (.const (vi 0))) (b := b114) (o := o115) (E := 9) (s := 1) (by_ := 16) rfl rfl (by kernel_rfl) hi154) <| Dgl 18 42 9 _ (tf 19 7) 15 true 39 hb149 (fun _ hq => lx 9 41 0 1 false 1 (sv x152) (hq.1.1 _ _ hF120) hc157) <| Dgl 19 43 3 (vi (x152.length : Int)) (tf 20 6) 15 true 39 hb149 (fun _ hq => HA (x := (.tmp 42)) (ats := #[9]) (t := 9) (a := x152) rfl rfl (by kernel_rfl)) <| Dgl 20 44 55 _ (tf 21 5) 15 true 39 hb149 (fun _ hq => mv 6 (.slice (some ⟨b114, o115, none⟩) r24.length nr24_0_0)) ?_
        obtain ⟨x158, hx159, h161⟩ := bind_some h155
        obtain ⟨hi160, hx159'⟩ := Ak hx159
        have hc163 := hE121 _ _ hx159'
        refine Dgl 21 45 0 (.pointer (some ⟨b114, (o115 + (1 : Int).toNat * 1), none⟩)) (tf 22 4) 15 true 39 hb149 (fun _ hq => Bv (t := 55) (x := (.tmp 44)) (y := (.const (vi 1))) (b := b114) (o := o115) (E := 9) (s := 1) (by_ := 16) rfl rfl (by kernel_rfl) hi160) <| Dgl 22 46 9 _ (tf 23 3) 15 true 39 hb149 (fun _ hq => lx 9 45 0 1 false 1 (sv x158) (hq.1.1 _ _ hF120) hc163) <| Dgl 23 47 3 (vi (x158.length : Int)) (tf 24 2) 15 true 39 hb149 (fun _ hq => HA (x := (.tmp 46)) (ats := #[9]) (t := 9) (a := x158) rfl rfl (by kernel_rfl)) <| Dgl 24 48 4 (.bool (decide ((x152.length : Int) < (x158.length : Int)))) (tf 25 1) 15 true 39 hb149 (fun _ hq => GT (t := 3) (t' := 3) (x := (.tmp 43)) (y := (.tmp 47)) (k := .i64) (a := (x152.length : Int)) (b := (x158.length : Int)) rfl rfl) <| Dtl 25 49 4 _ (tf 26 0) (fun _ hq => p1 39 (.tmp 48) (.const (.bool false)) (.bool (decide ((x152.length : Int) < (x158.length : Int)))) hb149) ?_
        obtain rfl := Aa h161
        exact UG (by kernel_rfl) ⟨F7, hs146, (le130.t le147), fI⟩
       ·refine Dkl [(16, 40), (17, 41), (18, 42), (19, 43), (20, 44), (21, 45)] 15 true 39 hb149 (tf 22 4) ?_
        refine Dkl [(22, 46), (23, 47), (24, 48)] 15 true 39 hb149 (tf 25 1) <| Dtl 25 49 4 _ (tf 26 0) (fun _ hq => p0 39 (.tmp 48) (.const (.bool false)) (.bool false) hb149) ?_
        obtain rfl := Aa h151
        exact UG (by kernel_rfl) ⟨F7, hs146, (le130.t le147), fI⟩
      ·refine Dkl [(10, 34), (11, 35), (12, 36), (13, 37)] 9 true 33 hb132 (tf 14 12) ?_
       refine Dtl 14 38 4 _ (tf 15 11) (fun _ hq => p0 33 (.tmp 37) (.const (.bool false)) (.bool false) hb132) <| Dvl [15] (tf 16 10) <| Dkl [(16, 40), (17, 41), (18, 42), (19, 43), (20, 44), (21, 45)] 15 true 39 rfl (tf 22 4) <| Dkl [(22, 46), (23, 47), (24, 48)] 15 true 39 rfl (tf 25 1) <| Dtl 25 49 4 _ (tf 26 0) (fun _ hq => p0 39 (.tmp 48) (.const (.bool false)) (.bool false) rfl) ?_
       obtain rfl := Aa h134
       exact UG (by kernel_rfl) ⟨F6, hs129, le130, fI⟩
     ·refine Dkl [(4, 28), (5, 29), (6, 30), (7, 31)] 3 true 27 hb107 (tf 8 18) ?_
      refine Dtl 8 32 4 _ (tf 9 17) (fun _ hq => p0 27 (.tmp 31) (.const (.bool false)) (.bool false) hb107) <| Dvl [9] (tf 10 16) <| Dkl [(10, 34), (11, 35), (12, 36), (13, 37)] 9 true 33 rfl (tf 14 12) <| Dtl 14 38 4 _ (tf 15 11) (fun _ hq => p0 33 (.tmp 37) (.const (.bool false)) (.bool false) rfl) <| Dvl [15] (tf 16 10) <| Dkl [(16, 40), (17, 41), (18, 42), (19, 43), (20, 44), (21, 45)] 15 true 39 rfl (tf 22 4) <| Dkl [(22, 46), (23, 47), (24, 48)] 15 true 39 rfl (tf 25 1) <| Dtl 25 49 4 _ (tf 26 0) (fun _ hq => p0 39 (.tmp 48) (.const (.bool false)) (.bool false) rfl) ?_
      obtain rfl := Aa h109
      exact UG (by kernel_rfl) ⟨F2, hw97, (Uu _), fI⟩
    ·rintro f w98 ⟨F5, hs99, le100, ⟨_, rfl⟩⟩
     refine Ab <| Cd h106 (fun hb164 h165 => ?_) (fun hb164 h166 => ?_)
     ·refine Sq ?_
      obtain ⟨j172, hj178, h179⟩ := bind_some h165
      refine RD 10 10 [] [] hs99 (fun f w => ∃ (F8 : Mem), HS w0 F0 w F8 [] /\ Ut F5 F8 /\ FI f [] [(2, (sv j172.1)), (3, (sv j172.2)), (4, (sv (([] : UO)))), (5, (.bool true))]) (fun wd167 hw168 => ?_) ?_
      ·refine Dv [0] ?_
       obtain ⟨x180, hx181, h183⟩ := bind_some hj178
       obtain ⟨hi182, hx181'⟩ := Ak hx181
       obtain ⟨b184, o185, C186, E187, fz188, rfl, hF190, hE191⟩ := UB (Uw hsr24_0_0 (le34.t le100)) hx181'
       have hc193 := hE191 _ _ hx181'
       refine Di 1 hi182 <| Dx 2 0 (fun _ hq => hq.1.1 _ _ hF190) hc193 <| Dv [3] ?_
       obtain ⟨x194, hx195, h197⟩ := bind_some h183
       obtain ⟨hi196, hx195'⟩ := Ak hx195
       have hc199 := hE191 _ _ hx195'
       refine Di 4 hi196 <| Dx 5 0 (fun _ hq => hq.1.1 _ _ hF190) hc199 <| Dv [6, 7, 8, 9] ?_
       obtain rfl := Aa h197
       exact UG (by kernel_rfl) ⟨F5, hw168, (Uu _), fI⟩
      ·rintro f w169 ⟨F8, hs170, le171, ⟨_, rfl⟩⟩
       refine Ab <| Rt <| Ae ?_
       obtain rfl := Aa h179
       exact Re [(sv j172.1), (sv j172.2), (sv (([] : UO))), (.bool true)] hs170 rfl
     ·refine Sc ?_
      refine Ab <| Sq <| Sq (Rg (rG 15) ?_)
      obtain ⟨j203, hj207, h208⟩ := bind_some h166
      refine Uz (fun f w => ∃ (F9 : Mem), HS w0 F0 w F9 [] /\ Ut F5 F9 /\ FI f [] [(6, (.slice ar24_0_0 r24.length nr24_0_0)), (70, (.bool j203))]) ?_ ?_
      ·refine Vs 4 ?_
       refine Sp hj207 (fun hb209 h210 => ?_) (fun hb209 h211 => ?_)
       ·refine Vgs hb209 1 ?_
        obtain ⟨x212, hx213, h215⟩ := bind_some h210
        obtain ⟨hi214, hx213'⟩ := Ak hx213
        obtain ⟨b216, o217, C218, E219, fz220, rfl, hF222, hE223⟩ := UB (Uw hsr24_0_0 (le34.t le100)) hx213'
        have hc225 := hE223 _ _ hx213'
        refine Ixg hb209 hi214 <| Lxg hb209 0 (hs99.pers _ _ hF222) hc225 ?_
        obtain ⟨r226, hr227, h228⟩ := bind_some h215
        refine Cg hb209 Ew hs99 (E5 N w98 F5 hs99.pers x212 _ hr227) ?_
        rintro _ F10 w230 hs231 le232 rfl
        refine Pk1 hb209 <| Vs 1 <| Sp h228 (fun hb234 h235 => ?_) (fun hb234 h236 => ?_)
        ·refine Vgs hb234 1 ?_
         obtain ⟨x237, hx238, h240⟩ := bind_some h235
         obtain ⟨hi239, hx238'⟩ := Ak hx238
         have hc242 := hE223 _ _ hx238'
         refine Ixg hb234 hi239 <| Lxg hb234 0 (hs231.pers _ _ (le232 _ _ hF222)) hc242 ?_
         obtain ⟨r243, hr244, h245⟩ := bind_some h240
         refine Cg hb234 Hg hs231 (Ib N w230 F10 hs231.pers x237 _ hr244) ?_
         rintro _ F11 w247 hs248 le249 rfl
         refine Pk1 hb234 ?_
         obtain rfl := Aa h245
         exact Up ⟨rfl, F11, hs248, (le232.t le249), fI⟩
        ·refine Ss hb234 4 ?_
         refine Pk0 hb234 ?_
         obtain rfl := Aa h236
         exact Up ⟨rfl, F10, hs231, le232, fI⟩
       ·refine Ss hb209 4 ?_
        refine Pk0 hb209 <| Vs 1 <| Ss (rfl : false = false) 4 <| Pk0 (rfl : false = false) ?_
        obtain rfl := Aa h211
        exact Up ⟨rfl, F5, hs99, (Uu _), fI⟩
      ·rintro f w200 ⟨F9, hs201, le202, ⟨_, rfl⟩⟩
       refine Ab <| Cd h208 (fun hb251 h252 => ?_) (fun hb251 h253 => ?_)
       ·refine Sq ?_
        obtain ⟨j259, hj265, h266⟩ := bind_some h252
        refine RD 10 10 [] [] hs201 (fun f w => ∃ (F12 : Mem), HS w0 F0 w F12 [] /\ Ut F9 F12 /\ FI f [] [(2, (sv (([] : UO)))), (3, (sv j259.1)), (4, (sv j259.2)), (5, (.bool true))]) (fun wd254 hw255 => ?_) ?_
        ·refine Dv [0] ?_
         obtain ⟨x267, hx268, h270⟩ := bind_some hj265
         obtain ⟨hi269, hx268'⟩ := Ak hx268
         obtain ⟨b271, o272, C273, E274, fz275, rfl, hF277, hE278⟩ := UB (Uw hsr24_0_0 ((le34.t le100).trans le202)) hx268'
         have hc280 := hE278 _ _ hx268'
         refine Di 1 hi269 <| Dx 2 0 (fun _ hq => hq.1.1 _ _ hF277) hc280 <| Dv [3] ?_
         obtain ⟨x281, hx282, h284⟩ := bind_some h270
         obtain ⟨hi283, hx282'⟩ := Ak hx282
         have hc286 := hE278 _ _ hx282'
         refine Di 4 hi283 <| Dx 5 0 (fun _ hq => hq.1.1 _ _ hF277) hc286 <| Dv [6, 7, 8, 9] ?_
         obtain rfl := Aa h284
         exact UG (by kernel_rfl) ⟨F9, hw255, (Uu _), fI⟩
        ·rintro f w256 ⟨F12, hs257, le258, ⟨_, rfl⟩⟩
         refine Ab <| Rt <| Ae ?_
         obtain rfl := Aa h266
         exact Re [(sv (([] : UO))), (sv j259.1), (sv j259.2), (.bool true)] hs257 rfl
       ·refine Sc ?_
        refine Ab <| Sq <| Sq (Rg (rG 21) ?_)
        obtain ⟨j290, hj294, h295⟩ := bind_some h253
        refine Uz (fun f w => ∃ (F13 : Mem), HS w0 F0 w F13 [] /\ Ut F9 F13 /\ FI f [] [(6, (.slice ar24_0_0 r24.length nr24_0_0)), (97, (.bool j290))]) ?_ ?_
        ·refine Vs 4 ?_
         refine Sp hj294 (fun hb296 h297 => ?_) (fun hb296 h298 => ?_)
         ·refine Vgs hb296 1 ?_
          obtain ⟨x299, hx300, h302⟩ := bind_some h297
          obtain ⟨hi301, hx300'⟩ := Ak hx300
          obtain ⟨b303, o304, C305, E306, fz307, rfl, hF309, hE310⟩ := UB (Uw hsr24_0_0 ((le34.t le100).trans le202)) hx300'
          have hc312 := hE310 _ _ hx300'
          refine Ixg hb296 hi301 <| Lxg hb296 0 (hs201.pers _ _ hF309) hc312 ?_
          obtain ⟨r313, hr314, h315⟩ := bind_some h302
          refine Cg hb296 I2 hs201 (Kd N w200 F9 hs201.pers x299 _ hr314) ?_
          rintro _ F14 w317 hs318 le319 rfl
          refine Pk1 hb296 <| Vs 1 <| Sp h315 (fun hb321 h322 => ?_) (fun hb321 h323 => ?_)
          ·refine Vgs hb321 1 ?_
           obtain ⟨x324, hx325, h327⟩ := bind_some h322
           obtain ⟨hi326, hx325'⟩ := Ak hx325
           have hc329 := hE310 _ _ hx325'
           refine Ixg hb321 hi326 <| Lxg hb321 0 (hs318.pers _ _ (le319 _ _ hF309)) hc329 ?_
           obtain ⟨r330, hr331, h332⟩ := bind_some h327
           refine Cg hb321 Ew hs318 (E5 N w317 F14 hs318.pers x324 _ hr331) ?_
           rintro _ F15 w334 hs335 le336 rfl
           refine Pk1 hb321 <| Vs 1 <| Sp h332 (fun hb338 h339 => ?_) (fun hb338 h340 => ?_)
           ·refine Vgs hb338 1 ?_
            obtain ⟨x341, hx342, h344⟩ := bind_some h339
            obtain ⟨hi343, hx342'⟩ := Ak hx342
            have hc346 := hE310 _ _ hx342'
            refine Ixg hb338 hi343 <| Lxg hb338 0 (hs335.pers _ _ ((le319.t le336) _ _ hF309)) hc346 ?_
            obtain ⟨r347, hr348, h349⟩ := bind_some h344
            refine Cg hb338 Hg hs335 (Ib N w334 F15 hs335.pers x341 _ hr348) ?_
            rintro _ F16 w351 hs352 le353 rfl
            refine Pk1 hb338 ?_
            obtain rfl := Aa h349
            exact Up ⟨rfl, F16, hs352, ((le319.t le336).trans le353), fI⟩
           ·refine Ss hb338 4 ?_
            refine Pk0 hb338 ?_
            obtain rfl := Aa h340
            exact Up ⟨rfl, F15, hs335, (le319.t le336), fI⟩
          ·refine Ss hb321 4 ?_
           refine Pk0 hb321 <| Vs 1 <| Ss (rfl : false = false) 4 <| Pk0 (rfl : false = false) ?_
           obtain rfl := Aa h323
           exact Up ⟨rfl, F14, hs318, le319, fI⟩
         ·refine Ss hb296 4 ?_
          refine Pk0 hb296 <| Vs 1 <| Ss (rfl : false = false) 4 <| Pk0 (rfl : false = false) <| Vs 1 <| Ss (rfl : false = false) 4 <| Pk0 (rfl : false = false) ?_
          obtain rfl := Aa h298
          exact Up ⟨rfl, F9, hs201, (Uu _), fI⟩
        ·rintro f w287 ⟨F13, hs288, le289, ⟨_, rfl⟩⟩
         refine Ab <| Cd h295 (fun hb355 h356 => ?_) (fun hb355 h357 => ?_)
         ·refine Sq ?_
          obtain ⟨j363, hj369, h370⟩ := bind_some h356
          refine RD 13 13 [] [] hs288 (fun f w => ∃ (F17 : Mem), HS w0 F0 w F17 [] /\ Ut F13 F17 /\ FI f [] [(2, (sv j363.1)), (3, (sv j363.2.1)), (4, (sv j363.2.2)), (5, (.bool true))]) (fun wd358 hw359 => ?_) ?_
          ·refine Dv [0] ?_
           obtain ⟨x371, hx372, h374⟩ := bind_some hj369
           obtain ⟨hi373, hx372'⟩ := Ak hx372
           obtain ⟨b375, o376, C377, E378, fz379, rfl, hF381, hE382⟩ := UB (Uw hsr24_0_0 (((le34.t le100).trans le202).trans le289)) hx372'
           have hc384 := hE382 _ _ hx372'
           refine Di 1 hi373 <| Dx 2 0 (fun _ hq => hq.1.1 _ _ hF381) hc384 <| Dv [3] ?_
           obtain ⟨x385, hx386, h388⟩ := bind_some h374
           obtain ⟨hi387, hx386'⟩ := Ak hx386
           have hc390 := hE382 _ _ hx386'
           refine Di 4 hi387 <| Dx 5 0 (fun _ hq => hq.1.1 _ _ hF381) hc390 <| Dv [6] ?_
           obtain ⟨x391, hx392, h394⟩ := bind_some h388
           obtain ⟨hi393, hx392'⟩ := Ak hx392
           have hc396 := hE382 _ _ hx392'
           refine Di 7 hi393 <| Dx 8 0 (fun _ hq => hq.1.1 _ _ hF381) hc396 <| Dv [9, 10, 11, 12] ?_
           obtain rfl := Aa h394
           exact UG (by kernel_rfl) ⟨F13, hw359, (Uu _), fI⟩
          ·rintro f w360 ⟨F17, hs361, le362, ⟨_, rfl⟩⟩
           refine Ab <| Rt <| Ae ?_
           obtain rfl := Aa h370
           exact Re [(sv j363.1), (sv j363.2.1), (sv j363.2.2), (.bool true)] hs361 rfl
         ·refine Sc ?_
          refine Ab <| Sq (Rg (rG 4) ?_)
          refine Vs 4 <| Nt <| Rt ?_
          obtain rfl := Aa h357
          exact Re [(sv (([] : UO))), (sv (([] : UO))), (sv (([] : UO))), (.bool false)] hs288 rfl
def DA (N : Nat) (x0 : UO) : Option Bool :=
 ((FL N x0).bind fun r21 => some r21.2.2.2)
theorem Jm : Af Tryz.prog 144 := fun _ _ => by kernel_rfl
theorem Ke (N : Nat) (w0 : World) (F0 : Mem) (hF : UQ w0 F0) (x0 : UO) (r : Bool) (h : DA N x0 = some r) :
  Calls Tryz.prog 144 ([(sv x0)] : List Value).toArray w0 (AA w0 F0 fun F' v => v = (.bool r)) := by
 have hs0 := Uv hF
 refine Go 15 Tryz.func144 <| Sq (Rg [0] ?_)
 refine Vs 1 <| Nss (Rg (rG 11) ?_)
 refine Vs 1 ?_
 obtain ⟨r21, hr22, h23⟩ := bind_some h
 refine Cl' MI hs0 (Np N w0 F0 hs0.pers x0 _ hr22) ?_
 rintro _ F1 w25 hs26 le27 rfl
 refine Vs 9 <| Nss (Rg [0, 1] ?_)
 refine Vs 2 <| Nt <| Rt ?_
 obtain rfl := Aa h23
 exact Re [(.bool r21.2.2.2)] hs26 rfl
def Bb (N : Nat) (x0 : (List Line)) (x1 : Int) (x2 : (Line -> Int -> Option Int)) : (Int × Int) -> Option (Ba (Int × Bool) (Int × Int)) := fun s24 =>
 (bif (decide (s24.1 < s24.2)) then ((idx x0 (W64 (Int.fdiv (IntKind.u64.wrap (W64 (s24.1 + s24.2))) (2 ^ min (1 : Int).toNat IntKind.u64.bits)))).bind fun x54 => ((x2 x54 x1).bind fun r68 => (bif (decide (r68 < 0)) then none else some (.next (s24.1, (W64 (Int.fdiv (IntKind.u64.wrap (W64 (s24.1 + s24.2))) (2 ^ min (1 : Int).toNat IntKind.u64.bits)))))))) else some (.done (s24.1, s24.2)))
def Bh (N : Nat) (x0 : (List Line)) (x1 : Int) (x2 : (Line -> Int -> Option Int)) : Option (Int × Bool) :=
 ((AO (Bb N x0 x1 x2) N (0, (x0.length : Int))).bind fun o => o.k (fun r => some r) (fun s35 => (bif (decide (s35.1 < (x0.length : Int))) then ((idx x0 s35.1).bind fun x85 => ((x2 x85 x1).bind fun r99 => some (s35.1, (r99 == 0)))) else none)))
theorem B0 : Af Tryz.prog 252 := fun _ _ => by kernel_rfl
theorem Ca (N : Nat) (w0 : World) (F0 : Mem) (hF : UQ w0 F0) (x0 : (List Line)) (a0_0 : UP) (n0_0 : Nat) (hb0_0 : LC x0.length n0_0) (hs0_0 : SlA AF F0 a0_0 x0) (x1 : Int) (gx2 : FuncId) (fx2 kx2 : List Value) (x2 : Line -> Int -> Option Int) (hox2 : Af Tryz.prog gx2) (hpx2 : Qw F0 gx2 fx2 kx2 x2) (r : (Int × Bool)) (h : Bh N x0 x1 x2 = some r) :
  Calls Tryz.prog 252 ([(.slice a0_0 x0.length n0_0), (vi x1), (.func (.func gx2) fx2.toArray kx2.toArray)] : List Value).toArray w0 (AA w0 F0 fun F' v => v = (.tuple #[(vi r.1), (.bool r.2)])) := by
 have hs0 := Uv hF
 refine Go 49 Tryz.func252 <| Sq (Rg [0, 1] ?_)
 refine Vs 2 <| Nss (Rg [0, 1, 2] ?_)
 refine Vs 3 <| Nss (Rg [0, 1, 2] ?_)
 refine Vs 3 <| Nss ?_
 obtain ⟨o21, ho22, h23⟩ := bind_some h
 refine UA (fun f w => ∃ (s35 : (Int × Int)) (F2 : Mem), o21 = .done s35 /\ HS w0 F0 w F2 [] /\ Ut F0 F2 /\ FI f [] [(0, (.slice a0_0 x0.length n0_0)), (1, (vi x1)), (2, (.func (.func gx2) fx2.toArray kx2.toArray)), (8, (vi (x0.length : Int))), (9, (vi s35.1))]) ?_ ?_
 ·refine Bk ?_
  refine Us (by kernel_rfl) (fun m f w => ∃ (s24 : (Int × Int)) (F1 : Mem), AO (Bb N x0 x1 x2) m s24 = some o21 /\ HS w0 F0 w F1 [] /\ Ut F0 F1 /\ FI f [] [(0, (.slice a0_0 x0.length n0_0)), (1, (vi x1)), (2, (.func (.func gx2) fx2.toArray kx2.toArray)), (8, (vi (x0.length : Int))), (9, (vi s24.1)), (10, (vi s24.2))]) N ⟨(0, (x0.length : Int)), F0, ho22, hs0, (Uu _), fI⟩ ?_
  rintro m45 f w25 ⟨s24, F1, hit46, hs26, le27, ⟨_, rfl⟩⟩
  obtain ⟨m47, fl48, rfl, hb49, hnx50⟩ := AD hit46
  refine Sq <| Sq (Rg [0, 1, 2] ?_)
  refine Vs 3 <| Nt <| Cd hb49 (fun hb51 h52 => ?_) (fun hb51 h53 => ?_)
  ·refine Sc ?_
   refine Ab <| Bk <| Sq (Rg (rG 7) ?_)
   refine Vs 4 <| V 22 222 (Sm (t := 222) (t' := 222) (x := (.tmp 21)) (y := (.const (.int .u64 1))) (k := .u64) (q := .u64) (a := (IntKind.u64.wrap (W64 (s24.1 + s24.2)))) (b := 1) rfl rfl (by decide)) <| Vs 2 <| Nss (Rg (rG 8) ?_)
   refine Vs 3 ?_
   obtain ⟨x54, hx55, h57⟩ := bind_some h52
   obtain ⟨hi56, hx55'⟩ := Ak hx55
   obtain ⟨b58, o59, C60, E61, fz62, rfl, hF64, hE65⟩ := UB (Uw hs0_0 le27) hx55'
   have hc67 := hE65 _ _ hx55'
   refine Ix hi56 <| Lx 0 (hs26.pers _ _ hF64) hc67 <| Vs 1 ?_
   obtain ⟨r68, hr69, h70⟩ := bind_some h57
   refine Cq hox2 hs26 (hpx2 w25 F1 x54 x1 _ le27 hs26.pers hr69) ?_
   rintro _ F3 w72 hs73 le74 rfl
   refine Vs 1 <| Nt <| Cd h70 (fun hb76 h77 => ?_) (fun hb76 h78 => ?_)
   ·cases h77
   ·refine Rg [0, 1] ?_
    refine Vs 2 <| Up <| Aq ?_
    have hn79 := AJ h78 hnx50
    exact ⟨m47, Nat.lt_succ_self _, (s24.1, (W64 (Int.fdiv (IntKind.u64.wrap (W64 (s24.1 + s24.2))) (2 ^ min (1 : Int).toNat IntKind.u64.bits)))), F3, hn79, hs73, (le27.t le74), fI⟩
  ·refine Ex ?_
   refine Ao <| Ao <| Ay rfl ?_
   have ho80 := AE h53 hnx50
   exact .inl ⟨rfl, (s24.1, s24.2), F1, ho80, hs26, le27, fI⟩
 ·rintro f w36 ⟨s35, F2, rfl, hs37, le38, ⟨_, rfl⟩⟩
  have h81 := Bc h23
  refine Ab <| Sq (Rg (rG 16) ?_)
  refine Vs 5 <| Sp h81 (fun hb82 h83 => ?_) (fun hb82 h84 => ?_)
  ·refine Vgs hb82 3 ?_
   obtain ⟨x85, hx86, h88⟩ := bind_some h83
   obtain ⟨hi87, hx86'⟩ := Ak hx86
   obtain ⟨b89, o90, C91, E92, fz93, rfl, hF95, hE96⟩ := UB (Uw hs0_0 le38) hx86'
   have hc98 := hE96 _ _ hx86'
   refine Ixg hb82 hi87 <| Lxg hb82 0 (hs37.pers _ _ hF95) hc98 <| Vgs hb82 1 ?_
   obtain ⟨r99, hr100, h101⟩ := bind_some h88
   refine RWP.call (dst := (some 46)) (ty := 3) (g := (some (4, true))) (by kernel_rfl) (Ge (d := 39) (by kernel_rfl) rfl hb82) (f0 := (.tmp 40)) (aos := #[(.tmp 44), (.tmp 45)]) (ats := #[34, 3]) (fid := gx2) (first := fx2.toArray) (cap := kx2.toArray) (args := (fx2 ++ (([(.agg (BN x85)), (vi x1)] : List Value) ++ kx2))) rfl hox2 (DN (l := [(.agg (BN x85)), (vi x1)]) (fi := fx2) (k := kx2) rfl) hs37 (hpx2 w36 F2 x85 x1 _ le38 hs37.pers hr100) ?_
   rintro _ F4 w103 hs104 le105 rfl
   refine Vgs hb82 1 <| Pk1 hb82 <| Vs 2 <| Nt <| Rt ?_
   obtain rfl := Aa h101
   exact Re [(vi s35.1), (.bool (r99 == 0))] hs104 rfl
  ·cases h84
def Gl (N : Nat) (x0 : Int) : Option Bool :=
 some (x0 != x0)
theorem GI : Af Tryz.prog 281 := fun _ _ => by kernel_rfl
theorem Ho (N : Nat) (w0 : World) (F0 : Mem) (hF : UQ w0 F0) (x0 : Int) (r : Bool) (h : Gl N x0 = some r) :
  Calls Tryz.prog 281 ([(vi x0)] : List Value).toArray w0 (AA w0 F0 fun F' v => v = (.bool r)) := by
 have hs0 := Uv hF
 refine Go 6 Tryz.func281 <| Sq (Rg [0] ?_)
 refine Vs 1 <| Nss (Rg (rG 4) ?_)
 refine Vs 4 <| Nt <| Rt ?_
 obtain rfl := Aa h
 exact Re [(.bool (x0 != x0))] hs0 rfl
def Hl (N : Nat) (x0 : Int) (x1 : Int) : Option Int :=
 ((Gl N x0).bind fun r21 => ((Gl N x1).bind fun r29 => (bif r21 then none else (bif r29 then none else (bif (decide (x0 < x1)) then none else (bif (decide (x0 > x1)) then none else some 0))))))
theorem Jp : Af Tryz.prog 254 := fun _ _ => by kernel_rfl
theorem Kj (N : Nat) (w0 : World) (F0 : Mem) (hF : UQ w0 F0) (x0 : Int) (x1 : Int) (r : Int) (h : Hl N x0 x1 = some r) :
  Calls Tryz.prog 254 ([(vi x0), (vi x1)] : List Value).toArray w0 (AA w0 F0 fun F' v => v = (vi r)) := by
 have hs0 := Uv hF
 refine Go 20 Tryz.func254 <| Sq (Rg [0] ?_)
 refine Vs 1 <| Nss (Rg [0, 1, 2] ?_)
 refine Vs 1 ?_
 obtain ⟨r21, hr22, h23⟩ := bind_some h
 refine Cl' GI hs0 (Ho N w0 F0 hs0.pers x0 _ hr22) ?_
 rintro _ F1 w25 hs26 le27 rfl
 refine Vs 1 <| Nss (Rg [0, 1, 2] ?_)
 refine Vs 1 ?_
 obtain ⟨r29, hr30, h31⟩ := bind_some h23
 refine Cl' GI hs26 (Ho N w25 F1 hs26.pers x1 _ hr30) ?_
 rintro _ F2 w33 hs34 le35 rfl
 refine Vs 1 <| Nss <| Sq (Rg [0] ?_)
 refine Vs 1 <| Nt <| Cd h31 (fun hb37 h38 => ?_) (fun hb37 h39 => ?_)
 ·cases h38
 ·refine Sc ?_
  refine Ab <| Sq <| Sq (Rg [0] ?_)
  refine Vs 1 <| Nt <| Cd h39 (fun hb40 h41 => ?_) (fun hb40 h42 => ?_)
  ·cases h41
  ·refine Sc ?_
   refine Ab <| Sq <| Sq (Rg [0, 1, 2] ?_)
   refine Vs 3 <| Nt <| Cd h42 (fun hb43 h44 => ?_) (fun hb43 h45 => ?_)
   ·cases h44
   ·refine Sc ?_
    refine Ab <| Sq <| Sq (Rg [0, 1, 2] ?_)
    refine Vs 3 <| Nt <| Cd h45 (fun hb46 h47 => ?_) (fun hb46 h48 => ?_)
    ·cases h47
    ·refine Sc ?_
     refine Ab <| Sq (Rg [0] ?_)
     refine Vs 1 <| Nt <| Rt ?_
     obtain rfl := Aa h48
     exact Re [(vi 0)] hs34 rfl

end Go.Proofs.YthljkpeimofbbaaGreatDoor

namespace Go.Proofs.YthljkpeimofbbaaGreatDoor
def isL (b : UInt8) : Bool := decide (65 <= b.toNat) && decide (b.toNat <= 90)
def isD (b : UInt8) : Bool := decide (48 <= b.toNat) && decide (b.toNat <= 57)
def isE (b : UInt8) : Bool := isL b || isD b
theorem RH {b : UInt8} (h : 128 <= b.toNat) : isL b = false := by unfold isL; simp; omega
theorem RI {b : UInt8} (h : 128 <= b.toNat) : isD b = false := by unfold isD; simp; omega
theorem Tx {b : UInt8} (h : 128 <= b.toNat) : isE b = false := by unfold isE; rw [RH h, RI h]; rfl
theorem Oi {b : UInt8} (h : isE b = true) : b.toNat < 128 := by unfold isE isL isD at h; simp at h; omega
theorem Ug {b : UInt8} (h : isL b = true) : isD b = false := by unfold isL at h; unfold isD; simp at h ⊢; omega
theorem OZ (N : Nat) (b : UInt8) : BG N (b.toNat : Int) = some (isL b) := by
 unfold BG isL
 congr 2 <;> (rw [decide_eq_decide]; omega)
theorem Qh (N : Nat) (b : UInt8) : A9 N (b.toNat : Int) = some (isD b) := by
 unfold A9 isD
 congr 2 <;> (rw [decide_eq_decide]; omega)
theorem NP (N : Nat) (b : UInt8) : D3 N (b.toNat : Int) = some (isL b) := by
 unfold D3 isL
 congr 2 <;> (rw [decide_eq_decide]; omega)
theorem Mv (N : Nat) (b : UInt8) : DM N (b.toNat : Int) = some (isD b) := by
 unfold DM isD
 congr 2 <;> (rw [decide_eq_decide]; omega)
theorem JN (N : Nat) {n : Nat} (h : 128 <= n) : BG N (n : Int) = some false := by
 unfold BG
 have : decide ((n : Int) <= 90) = false := by rw [decide_eq_false_iff_not]; omega
 rw [this, Bool.and_false]
theorem Ln (N : Nat) {n : Nat} (h : 128 <= n) : A9 N (n : Int) = some false := by
 unfold A9
 have : decide ((n : Int) <= 57) = false := by rw [decide_eq_false_iff_not]; omega
 rw [this, Bool.and_false]
theorem RA (N : Nat) (b : UInt8) : C7 N (b.toNat : Int) = some (isE b) := by
 unfold C7 isE
 rw [OZ, Qh]
 cases isL b <;> rfl
theorem Oh (N : Nat) {n : Nat} (h : 128 <= n) : C7 N (n : Int) = some false := by
 unfold C7
 rw [JN N h, Ln N h]
 rfl
theorem Mu (N : Nat) (a b c : Int) : Fx N a b c = some (decide (b <= a) && decide (a <= c)) := rfl
theorem Gx (N : Nat) (a b c : Int) : Cu N a b c = some (decide (b <= a) && decide (a <= c)) := rfl
structure FC (p : Int -> Option Bool) (P : UInt8 -> Bool) : Prop where
 lo : ∀ b : UInt8, b.toNat < 128 -> p (b.toNat : Int) = some (P b)
 hi : ∀ n : Nat, 128 <= n -> p (n : Int) = some false
 big : ∀ b : UInt8, 128 <= b.toNat -> P b = false
theorem Rn (N : Nat) : FC (fun y0 => BG N y0) isL := ⟨fun b _ => OZ N b, fun _ h => JN N h, fun _ h => RH h⟩
theorem P9 (N : Nat) : FC (fun y0 => A9 N y0) isD := ⟨fun b _ => Qh N b, fun _ h => Ln N h, fun _ h => RI h⟩
theorem TV (N : Nat) : FC (fun y0 => C7 N y0) isE := ⟨fun b _ => RA N b, fun _ h => Oh N h, fun _ h => Tx h⟩
theorem FC.some {p : Int -> Option Bool} {P : UInt8 -> Bool} (h : FC p P) (n : Nat) : (p (n : Int)).isSome = true := by
 rcases Nat.lt_or_ge n 128 with h' | h'
 ·have := h.lo (UInt8.ofNat n) (by rw [UInt8.toNat_ofNat']; omega)
  have e : (UInt8.ofNat n).toNat = n := by rw [UInt8.toNat_ofNat']; omega
  rw [e] at this
  rw [this]; rfl
 ·rw [h.hi n h']; rfl
theorem FC.all {p : Int -> Option Bool} {P : UInt8 -> Bool} (h : FC p P) : JJ p = true := HE.2 fun n _ => h.some n
theorem Gw {p : Int -> Option Bool} {P : UInt8 -> Bool} (hp : FC p P) {N : Nat} (s : UO) (most : Int) (hN : s.length < N) :
  EN N s most p = some (s.all P && (decide (1 <= (s.length : Int)) && decide ((s.length : Int) <= most))) := by
 have key := E3 (body := EM N s most p) s.length (fun i (st : Nat) => st = i /\ (s.take i).all P = true)
  (fun o => (s.all P = true /\ o = .done s.length) \/ (s.all P = false /\ o = .ret false)) (by
   rintro i st hi ⟨rfl, hall⟩
   by_cases h : st < s.length
   ·have hget : s[st]? = some s[st] := List.getElem?_eq_getElem h
    unfold EM
    simp only [h, decide_true, cond_true]
    have htake : s.take (st + 1) = s.take st ++ [s[st]] := by rw [List.take_add_one, hget]; rfl
    have hfalse : P s[st] = false -> s.all P = false := fun hP => by
     rw [List.all_eq_false]; exact ⟨s[st], List.getElem_mem h, by rw [hP]; simp⟩
    rcases Nat.lt_or_ge s[st].toNat 128 with hb | hb
    ·rw [Mg hget hb, hp.lo _ hb]
     simp only [Option.bind_some]
     cases hP : P s[st] with
     | true => exact .inl ⟨st + 1, rfl, ⟨rfl, by rw [htake, List.all_append, hall]; simp [hP]⟩, trivial⟩
     | false => exact .inr ⟨.ret false, rfl, (fun _ e => by cases e), .inr ⟨hfalse hP, rfl⟩⟩
    ·have hs := Pr hget hb
     rw [hp.hi _ hs.1]
     simp only [Option.bind_some]
     exact .inr ⟨.ret false, rfl, (fun _ e => by cases e), .inr ⟨hfalse (hp.big _ hb), rfl⟩⟩
   ·have : st = s.length := by omega
    subst this
    unfold EM
    simp only [Nat.lt_irrefl, decide_false, cond_false]
    exact .inr ⟨_, rfl, (fun _ e => by cases e), .inl ⟨by simpa using hall, rfl⟩⟩) s.length N 0 0 (by omega) ⟨rfl, rfl⟩ hN
 obtain ⟨o, ho, hR⟩ := key
 unfold EN
 rw [ho]
 rcases hR with ⟨h1, rfl⟩ | ⟨h1, rfl⟩
 ·simp only [Option.bind_some, Ba.k, Mu, h1, Bool.true_and]
 ·simp only [Option.bind_some, Ba.k, h1, Bool.false_and]
theorem NJ {p : Int -> Option Bool} {P : UInt8 -> Bool} (hp : FC p P) {b : UInt8} (h : b.toNat < 128) : EP p b.toNat = P b := by unfold EP; rw [hp.lo b h]; rfl
theorem JT {p : Int -> Option Bool} {P : UInt8 -> Bool} (hp : FC p P) (s : UO) (ha : ∀ b, b ∈ s -> b.toNat < 128) : ∀ (f i : Nat), s.length <= i + f -> i <= s.length ->
  (0 <= Go.Lib.idxFuncFrom (EP p) true ⟨s.toArray⟩ f i ↔ (s.drop i).any P = true)
 | 0, i, h1, h2 => by
  have : i = s.length := by omega
  subst this
  simp [Go.Lib.idxFuncFrom]
 | f + 1, i, h1, h2 => by
  unfold Go.Lib.idxFuncFrom
  have hsz : (⟨s.toArray⟩ : ByteArray).size = s.length := by simp [ByteArray.size]
  rw [hsz]
  by_cases h : i < s.length
  ·rw [if_pos h]
   have hget : s[i]? = some s[i] := List.getElem?_eq_getElem h
   have hd : Utf8.decode ⟨s.toArray⟩ i = (s[i].toNat, 1) := Mg hget (ha _ (List.getElem_mem h))
   rw [hd]
   simp only
   rw [NJ hp (ha _ (List.getElem_mem h)), List.drop_eq_getElem_cons h, List.any_cons]
   cases hP : P s[i] with
   | true => simp
   | false =>
    simp only [Bool.false_eq_true, if_false, Bool.false_or]
    exact JT hp s ha f (i + 1) (by omega) (by omega)
  ·have : i = s.length := by omega
   subst this
   simp
theorem QR {p : Int -> Option Bool} {P : UInt8 -> Bool} (hp : FC p P) {N : Nat} (s : UO) (ha : ∀ b, b ∈ s -> b.toNat < 128) : ∃ r, B6 N s p = some r /\ decide (r >= 0) = s.any P := by
 refine ⟨_, by unfold B6; rw [if_pos hp.all], ?_⟩
 have := JT hp s ha s.length 0 (by omega) (by omega)
 have hsz : (⟨s.toArray⟩ : ByteArray).size = s.length := by simp [ByteArray.size]
 unfold Go.Lib.idxFunc
 rw [hsz]
 rw [List.drop_zero] at this
 cases hs : s.any P with
 | true => rw [hs] at this; exact decide_eq_true (this.2 rfl)
 | false =>
  rw [hs] at this
  exact decide_eq_false fun h => by have := this.1 h; cases this
def IA : UO -> Nat
 | [] => 0
 | b :: r => if isD b then r.length + 1 else IA r
def Be (s : UO) : Nat := IA s.reverse
theorem Pc : Be [] = 0 := rfl
theorem NT (l : UO) (b : UInt8) : Be (l ++ [b]) = if isD b then l.length + 1 else Be l := by
 unfold Be
 rw [List.reverse_append]
 simp [IA]
theorem L4 : ∀ l : UO, IA l <= l.length
 | [] => Nat.le_refl _
 | b :: r => by
  unfold IA
  split
  ·exact Nat.le_refl _
  ·exact Nat.le_succ_of_le (L4 r)
theorem Oo (s : UO) : Be s <= s.length := by unfold Be; have := L4 s.reverse; simpa using this
theorem NS : ∀ l : UO, ∀ b, b ∈ l.take (l.length - IA l) -> isD b = false
 | [], b, h => by simp at h
 | c :: r, b, h => by
  unfold IA at h
  split at h
  ·simp at h
  ·rename_i hc
   have hc' : isD c = false := by simpa using hc
   have := L4 r
   rw [show (c :: r).length - IA r = (r.length - IA r) + 1 by simp; omega, List.take_succ_cons] at h
   rcases List.mem_cons.1 h with rfl | h
   ·exact hc'
   ·exact NS r b h
theorem NU (s : UO) : ∀ b, b ∈ s.drop (Be s) -> isD b = false := by
 intro b hb
 have h := NS s.reverse b
 have e : s.reverse.take (s.reverse.length - IA s.reverse) = (s.drop (Be s)).reverse := by
  rw [List.reverse_drop, List.length_reverse]; rfl
 rw [e] at h
 exact h (by simpa using hb)
theorem Qo : ∀ l : UO, 0 < IA l -> ∃ b, l[l.length - IA l]? = some b /\ isD b = true
 | [], h => by simp [IA] at h
 | c :: r, h => by
  unfold IA at h ⊢
  by_cases hc : isD c = true
  ·rw [if_pos hc]
   exact ⟨c, by simp, hc⟩
  ·rw [if_neg hc] at h ⊢
   obtain ⟨b, h1, h2⟩ := Qo r h
   have := L4 r
   refine ⟨b, ?_, h2⟩
   rw [show (c :: r).length - IA r = (r.length - IA r) + 1 by simp; omega, List.getElem?_cons_succ]
   exact h1
theorem S3 (s : UO) (h : 0 < Be s) : ∃ b, s[Be s - 1]? = some b /\ isD b = true := by
 obtain ⟨b, h1, h2⟩ := Qo s.reverse h
 refine ⟨b, ?_, h2⟩
 have hle := Oo s
 rw [List.length_reverse, List.getElem?_reverse (by show s.length - Be s < s.length; omega)] at h1
 rw [<- h1]
 congr 1
 show Be s - 1 = s.length - 1 - (s.length - Be s)
 omega
theorem IY (N : Nat) (s : UO) (ha : ∀ b, b ∈ s -> b.toNat < 128) : ∀ (f i : Nat), i <= f -> i <= s.length ->
  Go.Lib.lastIdxFuncFrom (EP fun y0 => A9 N y0) true ⟨s.toArray⟩ f i + 1 = (Be (s.take i) : Int)
 | 0, i, h1, h2 => by
  have : i = 0 := by omega
  subst this
  simp [Go.Lib.lastIdxFuncFrom, Pc]
 | f + 1, 0, h1, h2 => by simp [Go.Lib.lastIdxFuncFrom, Pc]
 | f + 1, i + 1, h1, h2 => by
  unfold Go.Lib.lastIdxFuncFrom
  rw [if_pos (Nat.succ_pos i)]
  have h : i < s.length := by omega
  have htake : s.take (i + 1) = s.take i ++ [s[i]] := by rw [List.take_add_one, List.getElem?_eq_getElem h]; rfl
  have hb := ha _ (List.getElem_mem h)
  have hdl : Go.Lib.decodeLastL (s.take (i + 1)) = (s[i].toNat, 1) := by
   unfold Go.Lib.decodeLastL
   rw [if_neg (fun e => by have h9 := congrArg List.length e; rw [List.length_take, List.length_nil] at h9; omega)]
   have hlen : (s.take (i + 1)).length - 1 = i := by rw [List.length_take]; omega
   have hg : (s.take (i + 1)).getD i 0 = s[i] := by
    rw [List.getD_eq_getElem?_getD, List.getElem?_take, if_pos (by omega), List.getElem?_eq_getElem h]; rfl
   rw [hlen, hg, if_pos hb]
  simp only [List.toList_toArray] at *
  rw [hdl]
  simp only
  rw [NJ (P9 N) hb, htake, NT]
  cases hP : isD s[i] with
  | true =>
   simp only [if_true]
   rw [List.length_take, Nat.min_eq_left (by omega)]
   simp
  | false =>
   simp only [Bool.false_eq_true, if_false]
   rw [show i + 1 - 1 = i by omega]
   exact IY N s ha f i (by omega) (by omega)
theorem Iz (i : Nat) (h : i < 4611686018427387904) : W64 ((i : Int) + 1) = ((i + 1 : Nat) : Int) := by
 rw [ET (by omega) (by omega)]; omega
def pcs (c : UInt8) : UO -> List UO
 | [] => [[]]
 | b :: s => if b = c then [] :: pcs c s else match pcs c s with
  | p :: r => (b :: p) :: r
  | [] => [[b]]
theorem Rq (c : UInt8) : ∀ s, pcs c s ≠ []
 | [] => by simp [pcs]
 | b :: s => by
  unfold pcs
  split
  ·simp
  ·split <;> simp
theorem HF {c : UInt8} : ∀ {a : UO}, c ∉ a -> pcs c a = [a]
 | [], _ => rfl
 | b :: s, h => by
  have h1 : ¬ b = c := fun e => h (by rw [e]; exact List.mem_cons_self)
  have h2 : c ∉ s := fun hm => h (List.mem_cons_of_mem _ hm)
  unfold pcs
  rw [if_neg h1, HF h2]
theorem JL {c : UInt8} : ∀ {a t : UO}, c ∉ a -> pcs c (a ++ c :: t) = a :: pcs c t
 | [], t, _ => by simp [pcs]
 | b :: s, t, h => by
  have h1 : ¬ b = c := fun e => h (by rw [e]; exact List.mem_cons_self)
  have h2 : c ∉ s := fun hm => h (List.mem_cons_of_mem _ hm)
  rw [List.cons_append]
  conv => lhs; unfold pcs
  rw [if_neg h1, JL h2]
theorem DV {c : UInt8} : ∀ {s : UO}, c ∈ s -> ∃ a t, s = a ++ c :: t /\ c ∉ a
 | b :: s, h => by
  by_cases hb : b = c
  ·exact ⟨[], s, by rw [hb]; rfl, by simp⟩
  ·rcases List.mem_cons.1 h with e | h
   ·exact absurd e.symm hb
   ·obtain ⟨a, t, h1, h2⟩ := DV h
    exact ⟨b :: a, t, by rw [h1]; rfl, fun hm => by
     rcases List.mem_cons.1 hm with e | hm
     ·exact hb e.symm
     ·exact h2 hm⟩
theorem HQ {c : UInt8} : ∀ {s : UO}, c ∉ s -> Go.Lib.index s [c] = -1
 | [], _ => rfl
 | b :: s, h => by
  have h1 : ¬ c = b := fun e => h (by rw [e]; exact List.mem_cons_self)
  have h2 : c ∉ s := fun hm => h (List.mem_cons_of_mem _ hm)
  unfold Go.Lib.index
  rw [if_neg (by simp [List.isPrefixOf]; exact h1), HQ h2]
  rfl
theorem HP {c : UInt8} : ∀ {a t : UO}, c ∉ a -> Go.Lib.index (a ++ c :: t) [c] = (a.length : Int)
 | [], t, _ => by
  show Go.Lib.index (c :: t) [c] = 0
  unfold Go.Lib.index
  rw [if_pos (by simp [List.isPrefixOf])]
 | b :: s, t, h => by
  have h1 : ¬ c = b := fun e => h (by rw [e]; exact List.mem_cons_self)
  have h2 : c ∉ s := fun hm => h (List.mem_cons_of_mem _ hm)
  rw [List.cons_append]
  unfold Go.Lib.index
  rw [if_neg (by simp [List.isPrefixOf]; exact h1), HP h2, if_neg (by simp <;> omega)]
  simp
theorem Me {c : UInt8} : ∀ (n f : Nat) (s : UO), s.length <= n -> s.length < f -> Go.Lib.splitK [c] 0 (Go.Lib.countFrom [c] f s) s = pcs c s
 | _, 0, s, _, h => by omega
 | n, f + 1, s, h1, h2 => by
  by_cases hc : c ∈ s
  ·obtain ⟨a, t, rfl, ha⟩ := DV hc
   have hi := HP (t := t) ha
   unfold Go.Lib.countFrom
   rw [hi, if_neg (by simp <;> omega), Nat.add_comm 1]
   unfold Go.Lib.splitK
   rw [hi, if_neg (by simp <;> omega)]
   have hdrop : (a ++ c :: t).drop (((a.length : Int)).toNat + [c].length) = t := by
    simp
   have htake : (a ++ c :: t).take (((a.length : Int)).toNat + 0) = a := by simp
   rw [hdrop, htake, JL ha]
   have hl : t.length < n := by simp at h1; omega
   obtain ⟨n', rfl⟩ : ∃ n', n = n' + 1 := ⟨n - 1, by omega⟩
   rw [Me n' f t (by omega) (by simp at h2; omega)]
  ·rw [HF hc]
   unfold Go.Lib.countFrom
   rw [HQ hc, if_pos (by simp)]
   rfl
theorem OM (c : UInt8) (s : UO) : N1 s [c] = pcs c s := by
 unfold N1
 rw [Go.Lib.splitB_data]
 have : Go.Lib.countB ⟨s.toArray⟩ ⟨[c].toArray⟩ = Go.Lib.countFrom [c] (s.length + 1) s := by
  rfl
 rw [this]
 exact Me s.length (s.length + 1) s (Nat.le_refl _) (Nat.lt_succ_self _)
theorem Qj {N : Nat} {s : UO} (c : UInt8) (h : s.length < 4294967281) : strings_Split N s [c] = some (pcs c s) := by
 unfold strings_Split
 rw [if_pos ⟨h, by simp⟩, OM]
theorem RT {c : UInt8} {s : UO} (h : c ∉ s) : Go.Lib.cut s [c] = (s, [], false) := by
 unfold Go.Lib.cut
 rw [HQ h, if_neg (by decide)]
theorem RS {c : UInt8} {a t : UO} (h : c ∉ a) : Go.Lib.cut (a ++ c :: t) [c] = (a, t, true) := by
 unfold Go.Lib.cut
 rw [HP h, if_pos (by omega)]
 simp only [Int.toNat_natCast, List.length_singleton]
 rw [List.drop_append]
 simp
theorem S5 (b c : UInt8) (z : Int) (h : z = (c.toNat : Int)) : ((b.toNat : Int) == z) = decide (b = c) := by
 subst h
 rw [Bool.eq_iff_iff]
 simp only [beq_iff_eq, decide_eq_true_eq]
 constructor
 ·intro h
  exact UInt8.toNat_inj.1 (by omega)
 ·rintro rfl
  rfl
theorem QM {N : Nat} (s : UO) (hs : s.length < 4294967290) (hN : s.length < N) : E0 N s = some (pcs 47 s) := by
 have key := E3 (body := Dz N s) s.length (fun i st => ∃ (out : List UO) (fr : Nat), st = (out, (fr : Int), (i : Int)) /\ fr <= i /\ out.length <= i /\ pcs 47 s = out ++ pcs 47 (s.drop fr) /\ (47 : UInt8) ∉ (s.drop fr).take (i - fr))
  (fun o => ∃ (out : List UO) (fr : Nat), o = .done (out, (fr : Int), (s.length : Int)) /\ fr <= s.length /\ out.length <= s.length /\ pcs 47 s = out ++ [s.drop fr]) (by
   rintro i st hi ⟨out, fr, rfl, h1, h2, h3, h4⟩
   unfold Dz
   simp only
   by_cases h : i < s.length
   ·have hget : s[i]? = some s[i] := List.getElem?_eq_getElem h
    have e1 : decide ((i : Int) < (s.length : Int)) = true := decide_eq_true (by omega)
    rw [e1, cond_true, Gr h, Option.bind_some, S5 _ 47 47 rfl, Iz i (by omega)]
    have hdi : s.drop fr = (s.drop fr).take (i - fr) ++ s[i] :: s.drop (i + 1) := by
     have e2 : s.drop fr = (s.drop fr).take (i - fr) ++ (s.drop fr).drop (i - fr) := (List.take_append_drop _ _).symm
     rw [List.drop_drop, show fr + (i - fr) = i by omega, List.drop_eq_getElem_cons h] at e2
     exact e2
    by_cases hc : s[i] = 47
    ·rw [decide_eq_true hc, cond_true, Hy h1 (by omega), Option.bind_some, OG (by simp; omega), Option.bind_some, Option.bind_some]
     refine .inl ⟨_, rfl, ⟨out ++ [(s.drop fr).take (i - fr)], i + 1, rfl, by omega, by simp; omega, ?_, by simp⟩, h⟩
     rw [h3]
     conv => lhs; rw [hdi, hc, JL h4]
     simp
    ·rw [decide_eq_false hc, cond_false, Option.bind_some]
     refine .inl ⟨_, rfl, ⟨out, fr, rfl, by omega, by omega, h3, ?_⟩, h⟩
     rw [show i + 1 - fr = (i - fr) + 1 by omega, List.take_add_one, List.getElem?_drop, show fr + (i - fr) = i by omega, hget]
     intro hm
     rcases List.mem_append.1 hm with hm | hm
     ·exact h4 hm
     ·simp at hm; exact hc hm.symm
   ·have : i = s.length := by omega
    subst this
    rw [decide_eq_false (by omega), cond_false]
    refine .inr ⟨_, rfl, (fun _ e => by cases e), out, fr, rfl, h1, h2, ?_⟩
    rw [h3, HF]
    rw [List.take_of_length_le (by simp)] at h4
    exact h4) s.length N 0 ([], 0, 0) (by omega) ⟨[], 0, rfl, Nat.le_refl _, Nat.le_refl _, by simp, by simp⟩ hN
 obtain ⟨o, ho, out, fr, rfl, h1, h2, h3⟩ := key
 unfold E0
 rw [ho]
 simp only [Option.bind_some, Ba.k]
 rw [Hy h1 (Nat.le_refl _), Option.bind_some, OG (by simp; omega), h3, List.take_of_length_le (by simp)]
 rfl
theorem Iu {α ρ τ : Type} {body : Int -> Option (Ba ρ Int)} {l : List α} (ok : α -> Bool) (bad : ρ) (hb : ∀ i (h : i < l.length), body (i : Int) = some (bif ok l[i] then .next ((i + 1 : Nat) : Int) else .ret bad))
  (he : body (l.length : Int) = some (.done (l.length : Int))) {N : Nat} (hN : l.length < N) (fd : Int -> Option τ) (fr : ρ -> Option τ) : ((AO body N 0).bind fun o => o.k fr fd) = bif l.all ok then fd l.length else fr bad := by
 obtain ⟨o, ho, hR⟩ := E3 (body := body) l.length (fun i s => s = (i : Int) /\ (l.take i).all ok = true) (fun o => (l.all ok = true /\ o = .done (l.length : Int)) \/ (l.all ok = false /\ o = .ret bad)) (by
  rintro i s hi ⟨rfl, hk⟩
  by_cases h : i < l.length
  ·rw [hb i h]
   cases e : ok l[i] with
   | true => exact .inl ⟨_, rfl, ⟨rfl, by rw [List.take_add_one, List.getElem?_eq_getElem h, List.all_append, hk]; simp [e]⟩, h⟩
   | false => exact .inr ⟨_, rfl, (fun _ h => by cases h), .inr ⟨by rw [List.all_eq_false]; exact ⟨l[i], List.getElem_mem h, by rw [e]; simp⟩, rfl⟩⟩
  ·have : i = l.length := by omega
   subst this
   rw [he]
   exact .inr ⟨_, rfl, (fun _ h => by cases h), .inl ⟨by simpa using hk, rfl⟩⟩) l.length N 0 0 (by omega) ⟨rfl, rfl⟩ hN
 rw [ho]
 rcases hR with ⟨h1, rfl⟩ | ⟨h1, rfl⟩ <;> rw [h1] <;> rfl
section
variable {N : Nat} {s : UO}
theorem EQ {i n : Nat} (h : i < n) : decide ((i : Int) < (n : Int)) = true := decide_eq_true (by omega)
theorem DC {n : Nat} : decide ((n : Int) < (n : Int)) = false := decide_eq_false (by omega)
theorem Og (hs : s.length < 4611686018427387904) (hN : s.length < N) : DL N s = some (s.all isE) := by
 have hb : ∀ i (h : i < s.length), Ce N s (i : Int) = some (bif isE s[i] then .next ((i + 1 : Nat) : Int) else .ret false) := fun i h => by
  unfold Ce
  rw [EQ h, cond_true, Gr h, Option.bind_some, NP, Option.bind_some, Iz i (by omega), Option.bind_some, Mv]
  unfold isE
  cases isL s[i] <;> cases isD s[i] <;> rfl
 have he : Ce N s (s.length : Int) = some (.done (s.length : Int)) := by
  unfold Ce
  rw [DC, cond_false]
 unfold DL
 rw [Iu (l := s) isE false hb he hN]
 cases s.all isE <;> rfl
theorem Qs : ∀ s : UO, s.all (fun b => !isL b) = !s.any isL
 | [] => rfl
 | b :: s => by rw [List.all_cons, List.any_cons, Qs s]; cases isL b <;> rfl
theorem My (hs : s.length < 4611686018427387904) (hN : s.length < N) : CW N s = some (s.any isL) := by
 have hb : ∀ i (h : i < s.length), BM N s (i : Int) = some (bif (!isL s[i]) then .next ((i + 1 : Nat) : Int) else .ret true) := fun i h => by
  unfold BM
  rw [EQ h, cond_true, Gr h, Option.bind_some, NP, Option.bind_some, Iz i (by omega)]
  cases isL s[i] <;> rfl
 have he : BM N s (s.length : Int) = some (.done (s.length : Int)) := by
  unfold BM
  rw [DC, cond_false]
 unfold CW
 rw [Iu (l := s) (fun b => !isL b) true hb he hN]
 rw [Qs]
 cases s.any isL <;> rfl
theorem Tf (hs : s.length < 4611686018427387904) (hN : s.length < N) : Gv N s = some (Be s : Int) := by
 obtain ⟨o, ho, rfl⟩ := E3 (body := E1 N s) s.length (fun i st => st = ((Be (s.take i) : Int), (i : Int))) (fun o => o = .done ((Be s : Int), (s.length : Int))) (by
  rintro i st hi rfl
  unfold E1
  simp only
  by_cases h : i < s.length
  ·rw [EQ h, cond_true, Gr h, Option.bind_some, Mv, Option.bind_some, Iz i (by omega)]
   refine .inl ⟨_, rfl, ?_, h⟩
   rw [List.take_add_one, List.getElem?_eq_getElem h]
   show _ = (((Be (s.take i ++ [s[i]]) : Nat) : Int), _)
   rw [NT, List.length_take, Nat.min_eq_left (by omega)]
   cases isD s[i] <;> rfl
  ·have : i = s.length := by omega
   subst this
   rw [DC, cond_false, List.take_length]
   exact .inr ⟨_, rfl, (fun _ e => by cases e), rfl⟩) s.length N 0 (0, 0) (by omega) rfl hN
 unfold Gv
 rw [ho]
 rfl
def wiB (n lo hi : Nat) : Bool := decide (lo <= n) && decide (n <= hi)
def El (s : UO) : Bool := s.all isE && wiB s.length 1 4 && s.any isL
def Bq (s : UO) : Bool := s.all isE && wiB (Be s) 1 4 && (s.take (Be s)).any isL && wiB (s.length - Be s) 1 4
def CM (s : UO) : Bool := (s.all isL && wiB s.length 1 4) || (s.all isD && wiB s.length 1 1)
theorem GQ (n lo hi : Nat) : (decide (((lo : Nat) : Int) <= (n : Int)) && decide ((n : Int) <= ((hi : Nat) : Int))) = wiB n lo hi := by
 unfold wiB
 congr 1 <;> (rw [decide_eq_decide]; omega)
theorem w14 (n : Nat) : (decide ((1 : Int) <= (n : Int)) && decide ((n : Int) <= (4 : Int))) = wiB n 1 4 := GQ n 1 4
theorem w11 (n : Nat) : (decide ((1 : Int) <= (n : Int)) && decide ((n : Int) <= (1 : Int))) = wiB n 1 1 := GQ n 1 1
theorem PI (hs : s.length < 4611686018427387904) (hN : s.length < N) : EO N s = some (El s) := by
 unfold EO El
 rw [Gw (TV N) s 4 hN, Option.bind_some, w14]
 cases h : (s.all isE && wiB s.length 1 4) with
 | false => rfl
 | true =>
  rw [Bool.and_eq_true] at h
  obtain ⟨r, h1, h2⟩ := QR (N := N) (Rn N) s (fun b hb => Oi (List.all_eq_true.1 h.1 b hb))
  rw [cond_true, h1, Option.bind_some, h2]
  rfl
theorem Qf (hs : s.length < 4611686018427387904) (hN : s.length < N) : Fh N s = some (El s) := by
 unfold Fh El
 rw [Og hs hN, Option.bind_some, My hs hN, Gx, w14]
 cases s.all isE <;> cases wiB s.length 1 4 <;> rfl
theorem OY (hs : s.length < 4611686018427387904) (hN : s.length < N) : DJ N s = some (CM s) := by
 unfold DJ CM
 rw [Gw (Rn N) s 4 hN, Gw (P9 N) s 1 hN, w14, w11]
 cases s.all isL && wiB s.length 1 4 <;> rfl
theorem QT : ∀ {s : UO}, Be s = 0 ↔ s.any isD = false := by
 intro s
 constructor
 ·intro h
  have := NU s
  rw [h, List.drop_zero] at this
  rw [List.any_eq_false]
  intro b hb
  rw [this b hb]; simp
 ·intro h
  rcases Nat.eq_zero_or_pos (Be s) with h0 | h0
  ·exact h0
  ·obtain ⟨b, h1, h2⟩ := S3 s h0
   rw [List.any_eq_false] at h
   exact absurd h2 (h b (List.mem_of_getElem? h1))
theorem M2 (s : UO) : s.all isL = (s.all isE && !s.any isD) := by
 induction s with
 | nil => rfl
 | cons b s ih =>
  simp only [List.all_cons, List.any_cons, ih, isE]
  cases hL : isL b with
  | true => rw [Ug hL]; simp
  | false => cases isD b <;> cases s.all isE <;> cases s.any isD <;> rfl
theorem NO (hs : s.length < 4611686018427387904) (hN : s.length < N) : D2 N s = some (CM s) := by
 unfold D2 CM
 rw [Og hs hN, Gx, w14, Tf hs hN, M2]
 have hz : ((Be s : Int) == 0) = !s.any isD := by
  rw [Bool.eq_iff_iff]
  simp only [beq_iff_eq, Bool.not_eq_true', <- QT]
  omega
 match s with
 | [] => rfl
 | [b] =>
  have e1 : (([b] : UO).length : Int) == 1 := rfl
  rw [e1, cond_true, show JG [b] 0 = some (b.toNat : Int) from rfl, Option.bind_some, Mv, Option.bind_some, Option.bind_some]
  simp only [Option.bind_some, hz]
  simp only [List.all_cons, List.all_nil, List.any_cons, List.any_nil, isE, Bool.and_true, Bool.or_false]
  cases isL b <;> cases isD b <;> rfl
 | b :: c :: t =>
  have e1 : (((b :: c :: t).length : Int) == 1) = false := by rw [beq_eq_false_iff_ne]; simp; omega
  simp only [e1, cond_false, Option.bind_some, hz]
  have e2 : wiB (b :: c :: t).length 1 1 = false := by unfold wiB; simp
  rw [e2, Bool.and_false, Bool.or_false]
  cases (b :: c :: t).all isE <;> cases wiB (b :: c :: t).length 1 4 <;> cases (b :: c :: t).any isD <;> rfl
theorem L0 (hs : s.length < 4611686018427387904) (hN : s.length < N) : DG N s = some (Bq s) := by
 have hk := Oo s
 unfold DG Bq
 rw [Tf hs hN, Option.bind_some, Og hs hN, Option.bind_some, Gx, w14]
 have e1 : JE s 0 (Be s : Int) = some (s.take (Be s)) := by
  have := Hy (a := s) (lo := 0) (hi := Be s) (Nat.zero_le _) hk
  simpa using this
 have e2 : W64 ((s.length : Int) - (Be s : Int)) = ((s.length - Be s : Nat) : Int) := by rw [ET (by omega) (by omega)]; omega
 rw [e1, e2, Gx, w14]
 have e3 := My (N := N) (s := s.take (Be s)) (by rw [List.length_take]; omega) (by rw [List.length_take]; omega)
 simp only [Option.bind_some, e3]
 cases s.all isE <;> cases wiB (Be s) 1 4 <;> cases (s.take (Be s)).any isL <;> rfl
theorem RE (p : Nat -> Bool) (tr : Bool) (s : UO) : ∀ (f i : Nat), i <= s.length -> Go.Lib.lastIdxFuncFrom p tr ⟨s.toArray⟩ f i = -1 \/ (0 <= Go.Lib.lastIdxFuncFrom p tr ⟨s.toArray⟩ f i /\ Go.Lib.lastIdxFuncFrom p tr ⟨s.toArray⟩ f i < (i : Int))
 | 0, _, _ => .inl rfl
 | f + 1, i, hi => by
  unfold Go.Lib.lastIdxFuncFrom
  split
  ·rename_i h0
   have hw := Go.Lib.decodeLastL_width (s.take i) (by rw [List.length_take]; omega)
   simp only [List.toList_toArray] at *
   split
   ·exact .inr ⟨by omega, by omega⟩
   ·rcases RE p tr s f (i - (Go.Lib.decodeLastL (s.take i)).2) (by omega) with h | h
    ·exact .inl h
    ·exact .inr ⟨h.1, by omega⟩
  ·exact .inl rfl
theorem Ts (hs : s.length < 4611686018427387904) (hN : s.length < N) : ∃ x y, Kn N s = some (x, y, Bq s) /\ (Bq s = true -> x = s.take (Be s) /\ y = s.drop (Be s)) := by
 have hr : ∃ k : Nat, BC N s (fun y0 => A9 N y0) = some ((k : Int) - 1) /\ k <= s.length /\ ((∀ b, b ∈ s -> b.toNat < 128) -> k = Be s) := by
  have hsz : (⟨s.toArray⟩ : ByteArray).size = s.length := by simp [ByteArray.size]
  have e : BC N s (fun y0 => A9 N y0) = some (Go.Lib.lastIdxFunc (EP fun y0 => A9 N y0) true ⟨s.toArray⟩) := by
   unfold BC BX
   rw [if_pos ⟨(P9 N).all, by omega⟩]
   rfl
  rw [e]
  unfold Go.Lib.lastIdxFunc
  rw [hsz]
  have hrange := RE (EP fun y0 => A9 N y0) true s s.length s.length (Nat.le_refl _)
  refine ⟨(Go.Lib.lastIdxFuncFrom (EP fun y0 => A9 N y0) true ⟨s.toArray⟩ s.length s.length + 1).toNat, ?_, ?_, fun ha => ?_⟩
  ·exact congrArg some (by rcases hrange with h | ⟨h, _⟩ <;> omega)
  ·rcases hrange with h | ⟨h1, h2⟩
   ·omega
   ·omega
  ·have := IY N s ha s.length s.length (Nat.le_refl _) (Nat.le_refl _)
   rw [List.take_length] at this
   omega
 obtain ⟨k, h1, h2, h3⟩ := hr
 have e1 : W64 ((k : Int) - 1 + 1) = (k : Int) := by rw [ET (by omega) (by omega)]; omega
 have e2 : JE s 0 (k : Int) = some (s.take k) := by
  have := Hy (a := s) (lo := 0) (hi := k) (Nat.zero_le _) h2
  simpa using this
 have e3 : JE s (k : Int) (s.length : Int) = some (s.drop k) := by
  rw [Hy h2 (Nat.le_refl _), List.take_of_length_le (by simp)]
 have e4 := PI (N := N) (s := s.take k) (by rw [List.length_take]; omega) (by rw [List.length_take]; omega)
 have e5 := Gw (Rn N) (s.drop k) 4 (N := N) (by rw [List.length_drop]; omega)
 refine ⟨s.take k, s.drop k, ?_, ?_⟩
 ·unfold Kn
  rw [h1, Option.bind_some, e1, e2, Option.bind_some, e3, Option.bind_some, Option.bind_some, e4, Option.bind_some, e5, w14]
  have hbase : (decide ((k : Int) > 0) && (El (s.take k) && ((s.drop k).all isL && wiB (s.drop k).length 1 4))) = Bq s := by
   by_cases ha : s.all isE = true
   ·have hk : k = Be s := h3 fun b hb => Oi (List.all_eq_true.1 ha b hb)
    subst hk
    have hle := Oo s
    have e6 : (s.take (Be s)).all isE = true := List.all_eq_true.2 fun b hb => List.all_eq_true.1 ha b (List.mem_of_mem_take hb)
    have e7 : (s.drop (Be s)).all isL = true := by
     rw [M2]
     rw [Bool.and_eq_true]
     refine ⟨List.all_eq_true.2 fun b hb => List.all_eq_true.1 ha b (List.mem_of_mem_drop hb), ?_⟩
     rw [Bool.not_eq_true', List.any_eq_false]
     intro b hb
     rw [NU s b hb]; simp
    unfold El Bq
    rw [ha, e6, e7, List.length_take, Nat.min_eq_left hle, List.length_drop]
    have e8 : (decide ((Be s : Int) > 0) && wiB (Be s) 1 4) = wiB (Be s) 1 4 := by
     unfold wiB
     cases hd : decide (1 <= Be s) with
     | false => simp
     | true => rw [decide_eq_true (by have := of_decide_eq_true hd; omega)]; rfl
    rw [<- e8]
    cases decide ((Be s : Int) > 0) <;> cases wiB (Be s) 1 4 <;> cases (s.take (Be s)).any isL <;> rfl
   ·have ha' : s.all isE = false := by simpa using ha
    unfold El Bq
    rw [ha']
    have e9 : (s.take k).all isE = false \/ (s.drop k).all isL = false := by
     rw [<- List.take_append_drop k s, List.all_append] at ha'
     cases h5 : (s.take k).all isE with
     | false => exact .inl rfl
     | true =>
      right
      rw [h5, Bool.true_and] at ha'
      rw [M2, ha']
      rfl
    rcases e9 with e9 | e9 <;> rw [e9] <;> simp
  rw [<- hbase]
  cases decide ((k : Int) > 0) <;> cases El (s.take k) <;> rfl
 ·intro hb
  have ha : s.all isE = true := by
   unfold Bq at hb
   simp only [Bool.and_eq_true] at hb
   exact hb.1.1.1
  rw [h3 fun b hb => Oi (List.all_eq_true.1 ha b hb)]
  exact ⟨rfl, rfl⟩
end
theorem PJ {α ρ τ : Type} {body : Int -> Option (Ba ρ Int)} {l : List α} (f : α -> Option ρ) (hb : ∀ i (h : i < l.length), body (i : Int) = some ((f l[i]).elim (.next ((i + 1 : Nat) : Int)) .ret))
  (he : body (l.length : Int) = some (.done (l.length : Int))) {N : Nat} (hN : l.length < N) (fd : Int -> Option τ) (fr : ρ -> Option τ) : ((AO body N 0).bind fun o => o.k fr fd) = (l.findSome? f).elim (fd l.length) fr := by
 obtain ⟨o, ho, hR⟩ := E3 (body := body) l.length (fun i s => s = (i : Int) /\ l.findSome? f = (l.drop i).findSome? f) (fun o => (l.findSome? f = none /\ o = .done (l.length : Int)) \/ ∃ r, l.findSome? f = some r /\ o = .ret r) (by
  rintro i s hi ⟨rfl, hk⟩
  by_cases h : i < l.length
  ·rw [hb i h]
   rw [List.drop_eq_getElem_cons h, List.findSome?_cons] at hk
   cases e : f l[i] with
   | some r => rw [e] at hk; exact .inr ⟨_, rfl, (fun _ h => by cases h), .inr ⟨r, hk, rfl⟩⟩
   | none => rw [e] at hk; exact .inl ⟨_, rfl, ⟨rfl, hk⟩, h⟩
  ·have : i = l.length := by omega
   subst this
   rw [he]
   rw [List.drop_length] at hk
   exact .inr ⟨_, rfl, (fun _ h => by cases h), .inl ⟨hk, rfl⟩⟩) l.length N 0 0 (by omega) ⟨rfl, by rw [List.drop_zero]⟩ hN
 rw [ho]
 rcases hR with ⟨h1, rfl⟩ | ⟨r, h1, rfl⟩ <;> rw [h1] <;> rfl
theorem Od (c : UInt8) : ∀ s p, p ∈ pcs c s -> p.length <= s.length
 | [], p, h => by simp [pcs] at h; subst h; simp
 | b :: s, p, h => by
  have ih := Od c s
  unfold pcs at h
  by_cases hb : b = c
  ·rw [if_pos hb] at h
   rcases List.mem_cons.1 h with rfl | h
   ·simp
   ·exact Nat.le_succ_of_le (ih p h)
  ·rw [if_neg hb] at h
   cases hp : pcs c s with
   | nil => exact absurd hp (Rq c s)
   | cons q r =>
    rw [hp] at h ih
    simp only at h
    rcases List.mem_cons.1 h with rfl | h
    ·exact Nat.succ_le_succ (ih q List.mem_cons_self)
    ·exact Nat.le_succ_of_le (ih p (List.mem_cons_of_mem _ h))
def zp : A6 := { Area := [], Prefix := [], Suffix := [], Stroke := [] }
abbrev Tri := UO × UO × UO
def IP (ws : List UO) : Option Tri := match ws with
 | [w] => if Bq w then some ([], w, []) else none
 | [a, b] => if El a && Bq b && decide (a.length < b.length) then some (a, b, []) else if Bq a && CM b then some ([], a, b) else none
 | [a, b, c] => if El a && Bq b && CM c then some (a, b, c) else none
 | _ => none
def callB (s : UO) : Option Tri := if s.length <= 16 then IP (pcs 47 s) else none
def Qd (t : Tri) : A6 := { Area := t.1, Prefix := t.2.1.take (Be t.2.1), Suffix := t.2.1.drop (Be t.2.1), Stroke := t.2.2 }
def Po (s : UO) : A6 × Bool := match callB s with
 | some t => (Qd t, true)
 | none => (zp, false)
section
variable {N : Nat}
theorem JO {w : UO} (hs : w.length < 4611686018427387904) (hN : w.length < N) : ∃ x y, AB N w = some ({ Area := [], Prefix := x, Suffix := y, Stroke := [] }, Bq w) /\ (Bq w = true -> x = w.take (Be w) /\ y = w.drop (Be w)) := by
 obtain ⟨x, y, h1, h2⟩ := Ts hs hN
 exact ⟨x, y, by unfold AB; rw [h1]; rfl, h2⟩
theorem TJ {w : UO} {z0 : UO -> Option (A6 × Bool)} {p : A6} {ok : Bool} (h1 : z0 w = some (p, ok)) : C6 N [w] z0 = some (p, ok) := by
 unfold C6
 have i0 : idx [w] 0 = some w := rfl
 simp only [i0, Option.bind_some, h1]
theorem TI {a b : UO} {z0 : UO -> Option (A6 × Bool)} {x y u v : UO} {A ok : Bool} (h1 : z0 b = some ({ Area := u, Prefix := x, Suffix := y, Stroke := v }, ok)) (h3 : EO N a = some A) : C5 N [a, b] z0 = some ({ Area := a, Prefix := x, Suffix := y, Stroke := v }, ok && A && decide (a.length < b.length)) := by
 unfold C5
 have e : decide ((a.length : Int) < (b.length : Int)) = decide (a.length < b.length) := by rw [decide_eq_decide]; omega
 have i0 : idx [a, b] 0 = some a := rfl
 have i1 : idx [a, b] 1 = some b := rfl
 rw [i0, i1]
 simp only [Option.bind_some, h1, h3]
 clear h1 h3
 rw [e]
 generalize decide (a.length < b.length) = D
 cases ok <;> cases A <;> rfl
theorem TH {a b : UO} {z0 : UO -> Option (A6 × Bool)} {x y u v : UO} {A ok : Bool} (h1 : z0 a = some ({ Area := u, Prefix := x, Suffix := y, Stroke := v }, ok)) (h3 : DJ N b = some A) : C4 N [a, b] z0 = some ({ Area := u, Prefix := x, Suffix := y, Stroke := b }, ok && A) := by
 unfold C4
 have i0 : idx [a, b] 0 = some a := rfl
 have i1 : idx [a, b] 1 = some b := rfl
 rw [i0, i1]
 simp only [Option.bind_some, h1, h3]
 clear h1 h3
 cases ok <;> cases A <;> rfl
theorem TG {a b c : UO} {z0 : UO -> Option (A6 × Bool)} {x y u v : UO} {A B ok : Bool} (h1 : z0 b = some ({ Area := u, Prefix := x, Suffix := y, Stroke := v }, ok)) (h3 : EO N a = some A) (h4 : DJ N c = some B) : C3 N [a, b, c] z0 = some ({ Area := a, Prefix := x, Suffix := y, Stroke := c }, ok && A && B) := by
 unfold C3
 have i0 : idx [a, b, c] 0 = some a := rfl
 have i1 : idx [a, b, c] 1 = some b := rfl
 have i2 : idx [a, b, c] 2 = some c := rfl
 rw [i0, i1, i2]
 simp only [Option.bind_some, h1, h3, h4]
 clear h1 h3 h4
 cases ok <;> cases A <;> cases B <;> rfl
theorem SU {w : UO} (hs : w.length <= 16) (hN : 16 < N) : ∃ x y, C6 N [w] (fun y0 => AB N y0) = some ({ Area := [], Prefix := x, Suffix := y, Stroke := [] }, Bq w) /\ (Bq w = true -> x = w.take (Be w) /\ y = w.drop (Be w)) := by
 obtain ⟨x, y, h1, h2⟩ := JO (w := w) (N := N) (by omega) (by omega)
 exact ⟨x, y, TJ (z0 := fun y0 => AB N y0) h1, h2⟩
theorem ST {a b : UO} (ha : a.length <= 16) (hb : b.length <= 16) (hN : 16 < N) : ∃ x y, C5 N [a, b] (fun y0 => AB N y0) = some ({ Area := a, Prefix := x, Suffix := y, Stroke := [] }, Bq b && El a && decide (a.length < b.length)) /\ (Bq b = true -> x = b.take (Be b) /\ y = b.drop (Be b)) := by
 obtain ⟨x, y, h1, h2⟩ := JO (w := b) (N := N) (by omega) (by omega)
 exact ⟨x, y, TI (z0 := fun y0 => AB N y0) h1 (PI (N := N) (s := a) (by omega) (by omega)), h2⟩
theorem SS {a b : UO} (ha : a.length <= 16) (hb : b.length <= 16) (hN : 16 < N) : ∃ x y, C4 N [a, b] (fun y0 => AB N y0) = some ({ Area := [], Prefix := x, Suffix := y, Stroke := b }, Bq a && CM b) /\ (Bq a = true -> x = a.take (Be a) /\ y = a.drop (Be a)) := by
 obtain ⟨x, y, h1, h2⟩ := JO (w := a) (N := N) (by omega) (by omega)
 exact ⟨x, y, TH (z0 := fun y0 => AB N y0) h1 (OY (N := N) (s := b) (by omega) (by omega)), h2⟩
theorem SR {a b c : UO} (ha : a.length <= 16) (hb : b.length <= 16) (hc : c.length <= 16) (hN : 16 < N) : ∃ x y, C3 N [a, b, c] (fun y0 => AB N y0) = some ({ Area := a, Prefix := x, Suffix := y, Stroke := c }, Bq b && El a && CM c) /\ (Bq b = true -> x = b.take (Be b) /\ y = b.drop (Be b)) := by
 obtain ⟨x, y, h1, h2⟩ := JO (w := b) (N := N) (by omega) (by omega)
 exact ⟨x, y, TG (z0 := fun y0 => AB N y0) h1 (PI (N := N) (s := a) (by omega) (by omega)) (OY (N := N) (s := c) (by omega) (by omega)), h2⟩
def Pm (ws : List UO) (fm : Br) : Option (A6 × Bool) := if fm.words_ = (ws.length : Int) then match fm.split_ ws with
 | some (p, true) => some (p, true)
 | _ => none
 else none
theorem Pn {s : UO} {ws : List UO} (hle : ∀ w, w ∈ ws -> w.length <= 16) (hN : 4 < N) (f2 f3 f4 f5 : List UO -> Option (A6 × Bool))
  (H2 : ∀ w : UO, w.length <= 16 -> ∃ x y, f2 [w] = some ({ Area := [], Prefix := x, Suffix := y, Stroke := [] }, Bq w) /\ (Bq w = true -> x = w.take (Be w) /\ y = w.drop (Be w)))
  (H3 : ∀ a b : UO, a.length <= 16 -> b.length <= 16 -> ∃ x y, f3 [a, b] = some ({ Area := a, Prefix := x, Suffix := y, Stroke := [] }, Bq b && El a && decide (a.length < b.length)) /\ (Bq b = true -> x = b.take (Be b) /\ y = b.drop (Be b)))
  (H4 : ∀ a b : UO, a.length <= 16 -> b.length <= 16 -> ∃ x y, f4 [a, b] = some ({ Area := [], Prefix := x, Suffix := y, Stroke := b }, Bq a && CM b) /\ (Bq a = true -> x = a.take (Be a) /\ y = a.drop (Be a)))
  (H5 : ∀ a b c : UO, a.length <= 16 -> b.length <= 16 -> c.length <= 16 -> ∃ x y, f5 [a, b, c] = some ({ Area := a, Prefix := x, Suffix := y, Stroke := c }, Bq b && El a && CM c) /\ (Bq b = true -> x = b.take (Be b) /\ y = b.drop (Be b))) :
  ((AO (Cz N s ws [({ words_ := 1, split_ := f2 } : Br), { words_ := 2, split_ := f3 }, { words_ := 2, split_ := f4 }, { words_ := 3, split_ := f5 }]) N 0).bind fun o => o.k (fun r => some r) (fun _ => some (zp, false))) = some (match IP ws with | some t => (Qd t, true) | none => (zp, false)) := by
 generalize hF : ([_, _, _, _] : List Br) = F
 have htot : ∀ fm, fm ∈ F -> fm.words_ = (ws.length : Int) -> ∃ r, fm.split_ ws = some r := by
  subst hF
  intro fm hfm hw
  simp only [List.mem_cons, List.not_mem_nil, or_false] at hfm
  rcases hfm with rfl | rfl | rfl | rfl <;> simp only at hw ⊢
  ·match ws, hw with
   | [w], _ => obtain ⟨_, _, h, _⟩ := H2 w (hle w (by simp)); exact ⟨_, h⟩
  ·match ws, hw with
   | [a, b], _ => obtain ⟨_, _, h, _⟩ := H3 a b (hle a (by simp)) (hle b (by simp)); exact ⟨_, h⟩
  ·match ws, hw with
   | [a, b], _ => obtain ⟨_, _, h, _⟩ := H4 a b (hle a (by simp)) (hle b (by simp)); exact ⟨_, h⟩
  ·match ws, hw with
   | [a, b, c], _ => obtain ⟨_, _, h, _⟩ := H5 a b c (hle a (by simp)) (hle b (by simp)) (hle c (by simp)); exact ⟨_, h⟩
 have hlen : F.length = 4 := by subst hF; rfl
 have hb : ∀ i (h : i < F.length), Cz N s ws F (i : Int) = some ((Pm ws F[i]).elim (.next ((i + 1 : Nat) : Int)) .ret) := by
  intro i h
  unfold Cz
  have hi : idx F (i : Int) = some F[i] := by unfold idx; rw [if_pos (by omega)]; simp [h]
  rw [EQ h, cond_true, hi, Option.bind_some, Iz i (by omega)]
  have htt := htot _ (List.getElem_mem h)
  generalize F[i] = fm at htt
  unfold Pm
  by_cases hw : fm.words_ = (ws.length : Int)
  ·obtain ⟨⟨p, ok⟩, hr⟩ := htt hw
   rw [if_pos hw, show (fm.words_ != (ws.length : Int)) = false by simp [hw], cond_false, hr]
   cases ok <;> rfl
  ·rw [if_neg hw, show (fm.words_ != (ws.length : Int)) = true by simp [hw], cond_true]
   rfl
 have he : Cz N s ws F (F.length : Int) = some (.done (F.length : Int)) := by
  unfold Cz
  rw [DC, cond_false]
 rw [PJ (l := F) (Pm ws) hb he (by omega)]
 subst hF
 match ws, hle with
 | [], _ => rfl
 | [w], hle =>
  obtain ⟨x, y, h1, h2⟩ := H2 w (hle w (by simp))
  unfold IP
  have e : (([w] : List UO).length : Int) = 1 := rfl
  simp only [List.findSome?_cons, List.findSome?_nil, Pm, e, h1]
  cases hB : Bq w with
  | false => rfl
  | true => obtain ⟨rfl, rfl⟩ := h2 hB; rfl
 | [a, b], hle =>
  have ha := hle a (by simp)
  have hb := hle b (by simp)
  obtain ⟨x, y, h1, h2⟩ := H3 a b ha hb
  obtain ⟨x', y', h3, h4⟩ := H4 a b ha hb
  unfold IP
  have e : (([a, b] : List UO).length : Int) = 2 := rfl
  simp only [List.findSome?_cons, List.findSome?_nil, Pm, e, h1, h3]
  clear h1 h3 H2 H3 H4 H5 htot hlen hb he
  generalize decide (a.length < b.length) = D
  generalize El a = A
  generalize CM b = S
  cases hB : Bq b with
  | false =>
   cases hA : Bq a with
   | false => cases A <;> cases D <;> rfl
   | true =>
    obtain ⟨rfl, rfl⟩ := h4 hA
    cases A <;> cases D <;> cases S <;> rfl
  | true =>
   obtain ⟨rfl, rfl⟩ := h2 hB
   cases hA : Bq a with
   | false => cases A <;> cases D <;> rfl
   | true =>
    obtain ⟨rfl, rfl⟩ := h4 hA
    cases A <;> cases D <;> cases S <;> rfl
 | [a, b, c], hle =>
  have ha := hle a (by simp)
  have hb := hle b (by simp)
  have hc := hle c (by simp)
  obtain ⟨x, y, h1, h2⟩ := H5 a b c ha hb hc
  unfold IP
  have e : (([a, b, c] : List UO).length : Int) = 3 := rfl
  simp only [List.findSome?_cons, List.findSome?_nil, Pm, e, h1]
  clear h1 H2 H3 H4 H5 htot hlen hb he
  generalize El a = A
  generalize CM c = S
  cases hB : Bq b with
  | false => cases A <;> cases S <;> rfl
  | true =>
   obtain ⟨rfl, rfl⟩ := h2 hB
   cases A <;> cases S <;> rfl
 | a :: b :: c :: d :: t, _ =>
  unfold IP
  have e : ∀ k : Int, k <= 3 -> ¬ k = ((a :: b :: c :: d :: t).length : Int) := by intro k hk; simp only [List.length_cons]; omega
  simp only [List.findSome?_cons, List.findSome?_nil, Pm, if_neg (e 1 (by decide)), if_neg (e 2 (by decide)), if_neg (e 3 (by decide))]
  rfl
theorem SO (s : UO) (hN : 4294967300 < N) : Iy N s = some (Po s) := by
 unfold Iy Po callB
 by_cases hl : s.length <= 16
 ·rw [decide_eq_false (by omega), cond_false, if_pos hl, Qj 47 (by omega), Option.bind_some]
  have hle := Od 47 s
  generalize pcs 47 s = ws at hle
  unfold La
  rw [Option.bind_some]
  exact Pn (fun w h => Nat.le_trans (hle w h) hl) (by omega) _ _ _ _ (fun w h => SU h (by omega)) (fun a b h h' => ST h h' (by omega)) (fun a b h h' => SS h h' (by omega)) (fun a b c h h' h'' => SR h h' h'' (by omega))
 ·rw [decide_eq_true (by omega), cond_true, if_neg hl]
  rfl
def Tj (s : UO) : UO × UO × UO × Bool := match callB s with
 | some t => (t.1, t.2.1, t.2.2, true)
 | none => ([], [], [], false)
theorem Rz (s : UO) (hN : 4294967300 < N) : FL N s = some (Tj s) := by
 unfold FL Tj callB
 by_cases hl : s.length <= 16
 ·rw [decide_eq_false (by omega), cond_false, if_pos hl, QM s (by omega) (by omega), Option.bind_some]
  have hle := Od 47 s
  generalize pcs 47 s = ws at hle
  match ws, hle with
  | [], _ => rfl
  | [w], hle =>
   have hw := hle w (by simp)
   have h1 := L0 (N := N) (s := w) (by omega) (by omega)
   simp only [show ((([w] : List UO).length : Int) == 1) = true from rfl, show ((([w] : List UO).length : Int) == 2) = false from rfl, show ((([w] : List UO).length : Int) == 3) = false from rfl, cond_true, cond_false, show idx [w] 0 = some w from rfl, Option.bind_some, h1, IP]
   cases Bq w <;> rfl
  | [a, b], hle =>
   have ha := hle a (by simp)
   have hb := hle b (by simp)
   have h1 := L0 (N := N) (s := a) (by omega) (by omega)
   have h2 := L0 (N := N) (s := b) (by omega) (by omega)
   have h3 := Qf (N := N) (s := a) (by omega) (by omega)
   have h4 := NO (N := N) (s := b) (by omega) (by omega)
   have e : decide ((a.length : Int) < (b.length : Int)) = decide (a.length < b.length) := by rw [decide_eq_decide]; omega
   simp only [show ((([a, b] : List UO).length : Int) == 1) = false from rfl, show ((([a, b] : List UO).length : Int) == 2) = true from rfl, show ((([a, b] : List UO).length : Int) == 3) = false from rfl, cond_true, cond_false, show idx [a, b] 0 = some a from rfl, show idx [a, b] 1 = some b from rfl, Option.bind_some, h1, h2, h3, h4, e, IP]
   cases El a <;> cases Bq b <;> cases decide (a.length < b.length) <;> cases Bq a <;> cases CM b <;> rfl
  | [a, b, c], hle =>
   have ha := hle a (by simp)
   have hb := hle b (by simp)
   have hc := hle c (by simp)
   have h2 := L0 (N := N) (s := b) (by omega) (by omega)
   have h3 := Qf (N := N) (s := a) (by omega) (by omega)
   have h4 := NO (N := N) (s := c) (by omega) (by omega)
   simp only [show ((([a, b, c] : List UO).length : Int) == 1) = false from rfl, show ((([a, b, c] : List UO).length : Int) == 2) = false from rfl, show ((([a, b, c] : List UO).length : Int) == 3) = true from rfl, cond_true, cond_false, show idx [a, b, c] 0 = some a from rfl, show idx [a, b, c] 1 = some b from rfl, show idx [a, b, c] 2 = some c from rfl, Option.bind_some, h2, h3, h4, IP]
   cases El a <;> cases Bq b <;> cases CM c <;> rfl
  | a :: b :: c :: d :: t, _ =>
   have e : ∀ k : Int, k <= 3 -> (((a :: b :: c :: d :: t).length : Int) == k) = false := by intro k hk; rw [beq_eq_false_iff_ne]; simp; omega
   simp only [e 1 (by decide), e 2 (by decide), e 3 (by decide), cond_false, Option.bind_some, IP]
 ·rw [decide_eq_true (by omega), cond_true, if_neg hl]
end
section
open Go.Lib (decDigits)
def QJ (a : Nat) (l : UO) : Nat := l.foldl (fun a b => 10 * a + (b.toNat - 48)) a
def LH (l : UO) : Nat := QJ 0 l
theorem NN (a : Nat) (b : UInt8) (l : UO) : QJ a (b :: l) = QJ (10 * a + (b.toNat - 48)) l := by unfold QJ; rw [List.foldl_cons]
theorem SW {b : UInt8} (h : isD b = true) : 48 <= b.toNat /\ b.toNat <= 57 := by
 unfold isD at h
 simpa only [Bool.and_eq_true, decide_eq_true_eq] using h
theorem SL (l : UO) : ∀ (a k : Nat), l.all isD = true -> a < 10 ^ k -> QJ a l < 10 ^ (k + l.length) := by
 induction l with
 | nil => intro a k _ h; exact h
 | cons b l ih =>
  intro a k hd h
  rw [NN]
  simp only [List.all_cons, Bool.and_eq_true] at hd
  have hb := SW hd.1
  have hp : 10 ^ (k + 1) = 10 ^ k * 10 := Nat.pow_succ ..
  have := ih (10 * a + (b.toNat - 48)) (k + 1) hd.2 (by omega)
  rw [List.length_cons, show k + (l.length + 1) = k + 1 + l.length by omega]
  exact this
theorem SJ {l : UO} (h : l.all isD = true) : LH l < 10 ^ l.length := by
 have := SL l 0 0 h (by decide)
 simpa [LH] using this
theorem dig {b : UInt8} (h : isD b = true) : Go.Lib.digitVal b = some (b.toNat - 48) := by
 unfold isD at h
 simp only [Bool.and_eq_true, decide_eq_true_eq] at h
 unfold Go.Lib.digitVal
 rw [if_pos h]
theorem JW : ∀ (l : UO) (a : Nat), l.all isD = true -> Go.Lib.decFrom a l = some (QJ a l)
 | [], a, _ => rfl
 | b :: l, a, h => by
  simp only [List.all_cons, Bool.and_eq_true] at h
  unfold Go.Lib.decFrom
  rw [dig h.1, NN, Nat.mul_comm 10 a]
  exact JW l _ h.2
theorem R3 {l : UO} (h : l.all isD = true) (hn : 1 <= l.length) : Go.Lib.atoi l = some (LH l : Int) := by
 match l, h, hn with
 | b :: r, h, _ =>
  have hb := h
  simp only [List.all_cons, Bool.and_eq_true] at hb
  have h1 : (b == 45) = false := by rw [beq_eq_false_iff_ne]; rintro rfl; exact absurd hb.1 (by decide)
  have h2 : (b == 43) = false := by rw [beq_eq_false_iff_ne]; rintro rfl; exact absurd hb.1 (by decide)
  unfold Go.Lib.atoi
  simp only [h1, h2, Bool.false_eq_true, if_false]
  unfold Go.Lib.decNat
  simp only [List.isEmpty_cons, Bool.false_eq_true, if_false]
  rw [JW _ _ h]
  rfl
def Kw (s : UO) : Bool := s.all isD && wiB s.length 1 9
def SK (s : UO) : Int := if Kw s = true then (LH s : Int) else -1
theorem SG {k : Nat} (h : k <= 9) : 10 ^ k <= 1000000000 := Nat.le_trans (Nat.pow_le_pow_right (by decide) h) (by decide)
theorem LZ {s : UO} (h : Kw s = true) : LH s < 1000000000 /\ 1 <= s.length /\ s.length <= 9 /\ s.all isD = true := by
 unfold Kw wiB at h
 simp only [Bool.and_eq_true, decide_eq_true_eq] at h
 exact ⟨Nat.lt_of_lt_of_le (SJ h.1) (SG h.2.2), h.2.1, h.2.2, h.1⟩
section
variable {N : Nat} {s : UO}
theorem Mx (hN : s.length < N) : BW N s = some (SK s) := by
 unfold BW SK
 rw [Gw (P9 N) s 9 hN, Option.bind_some, show (decide ((1 : Int) <= (s.length : Int)) && decide ((s.length : Int) <= (9 : Int))) = wiB s.length 1 9 from GQ _ 1 9]
 have e : (s.all isD && wiB s.length 1 9) = Kw s := rfl
 rw [e]
 cases h : Kw s with
 | false => rfl
 | true =>
  have hl := LZ h
  rw [Bool.not_true, cond_false, if_pos rfl]
  unfold DU
  rw [if_pos (by omega), Go.Lib.atoiAll_short s (by omega), R3 hl.2.2.2 hl.2.1]
  rfl
end
def Pb (d : Nat) : UInt8 := UInt8.ofNat (48 + d)
theorem Pa {d : Nat} (h : d < 10) : (Pb d).toNat = 48 + d := by unfold Pb; rw [UInt8.toNat_ofNat']; omega
theorem Qn {d : Nat} (h : d < 10) : isD (Pb d) = true := by unfold isD; rw [Pa h]; simp; omega
theorem JX {u : Nat} (h : u < 10) : decDigits u = [Pb u] := by rw [decDigits, dif_pos h]; rfl
theorem PP {u : Nat} (h : ¬ u < 10) : decDigits u = decDigits (u / 10) ++ [Pb (u % 10)] := by
 conv => lhs; rw [decDigits, dif_neg h]
 rfl
theorem TL (u : Nat) : 1 <= (decDigits u).length := by
 by_cases h : u < 10
 ·rw [JX h]; simp
 ·rw [PP h]; simp
theorem TM (u : Nat) : (decDigits u).all isD = true := by
 induction u using Nat.strongRecOn with
 | _ u ih =>
  by_cases h : u < 10
  ·rw [JX h]; simp [Qn h]
  ·rw [PP h, List.all_append, ih (u / 10) (by omega)]
   simp [Qn (Nat.mod_lt u (by decide : 0 < 10))]
theorem Om : ∀ (k u : Nat), u < 10 ^ (k + 1) -> (decDigits u).length <= k + 1
 | 0, u, h => by rw [JX (by simpa using h)]; simp
 | k + 1, u, h => by
  by_cases hu : u < 10
  ·rw [JX hu]; simp
  ·rw [PP hu, List.length_append]
   have := Om k (u / 10) (by rw [Nat.pow_succ] at h; omega)
   simp; omega
def dP (k u : Nat) : UO := List.replicate (k - (decDigits u).length) 48 ++ decDigits u
theorem PR (k u : Nat) : (dP k u).all isD = true := by
 unfold dP
 rw [List.all_append, TM, Bool.and_true, List.all_eq_true]
 intro b hb
 rw [List.eq_of_mem_replicate hb]; decide
theorem On (k u : Nat) : k <= (dP k u).length /\ 1 <= (dP k u).length := by
 unfold dP
 have := TL u
 rw [List.length_append, List.length_replicate]
 omega
theorem JY {k j u : Nat} (h : u < 10 ^ (j + 1)) : (dP k u).length <= max k (j + 1) := by
 unfold dP
 have := Om j u h
 rw [List.length_append, List.length_replicate]
 omega
theorem P5 : ∀ n, Go.Lib.repeatL [48] n = List.replicate n 48
 | 0 => rfl
 | n + 1 => by unfold Go.Lib.repeatL; rw [P5 n]; rfl
section
variable {N : Nat}
theorem RB (u : Nat) (h : u <= 1000000000) : strconv_Itoa N (u : Int) = some (decDigits u) := by
 unfold strconv_Itoa
 rw [if_pos (by omega), Go.Lib.itoa_nonneg]
theorem Mw (u k : Nat) (h : u <= 1000000000) (hk : k <= 100) : BF N (u : Int) (k : Int) = some (dP k u) := by
 unfold BF
 rw [RB u h, Option.bind_some]
 have hl : (decDigits u).length <= 10 := Om 9 u (by omega)
 rw [ET (by omega) (by omega)]
 have e : max (0 : Int) ((k : Int) - ((decDigits u).length : Int)) = ((k - (decDigits u).length : Nat) : Int) := by omega
 rw [e]
 unfold strings_Repeat
 rw [if_pos (by simp; omega), Option.bind_some, Int.toNat_natCast, P5]
 rw [Ip (by simp; omega)]
 rfl
end
end
section
open Go.Lib (decDigits)
def S9 (u : Nat) : UO := decDigits (u / 1440 + 1) ++ 32 :: (dP 2 (u / 60 % 24) ++ dP 2 (u % 60))
def GW (x : Int) : UO × Int := if 0 <= x /\ x <= 20000 then (S9 x.toNat, 0) else ([], 1)
theorem Q7 (u k : Nat) (h : u < 4611686018427387904) : W64 (Int.tdiv (u : Int) (k : Int)) = ((u / k : Nat) : Int) := by
 have : Int.tdiv (u : Int) (k : Int) = ((u / k : Nat) : Int) := by rw [Int.tdiv_eq_ediv_of_nonneg (by omega)]; rfl
 have h2 : u / k <= u := Nat.div_le_self _ _
 rw [this]
 generalize u / k = v at h2
 rw [ET (by omega) (by omega)]
theorem Q6 (u k : Nat) : Int.tmod (u : Int) (k : Int) = ((u % k : Nat) : Int) := by
 rw [Int.tmod_eq_emod_of_nonneg (by omega)]; rfl
theorem S2 {u : Nat} (h : u < 100000) : (decDigits u).length <= 5 := Om 4 u (by omega)
theorem Qm {u : Nat} (h : u < 100) : (dP 2 u).length = 2 := by
 have h1 := On 2 u
 have h2 := JY (k := 2) (j := 1) (u := u) (by omega)
 omega
section
variable {N : Nat}
theorem ON (x : Int) : CH N x = some (GW x) := by
 unfold CH GW
 rw [Mu, Option.bind_some]
 by_cases h : 0 <= x /\ x <= 20000
 ·rw [if_pos h, decide_eq_true h.1, decide_eq_true h.2]
  obtain ⟨u, rfl⟩ : ∃ u : Nat, x = u := ⟨x.toNat, by omega⟩
  have hu : u <= 20000 := by omega
  simp only [Bool.and_self, Bool.not_true, cond_false]
  have e1 := Q7 u 1440 (by omega)
  have e2 := Q7 u 60 (by omega)
  simp only [Int.cast_ofNat_Int] at e1 e2
  have e3 := Q6 (u / 60) 24
  have e4 := Q6 u 60
  simp only [Int.cast_ofNat_Int] at e3 e4
  rw [e1, e2, e3, e4, Iz (u / 1440) (by omega), RB _ (by omega), Option.bind_some]
  have hl1 := S2 (u := u / 1440 + 1) (by omega)
  have hl2 := Qm (u := u / 60 % 24) (by omega)
  have hl3 := Qm (u := u % 60) (by omega)
  have p1 := Mw (N := N) (u / 60 % 24) 2 (by omega) (by omega)
  have p2 := Mw (N := N) (u % 60) 2 (by omega) (by omega)
  simp only [Int.cast_ofNat_Int] at p1 p2
  rw [Ip (by simp; omega), Option.bind_some, p1, Option.bind_some, Ip (by simp; omega), Option.bind_some, p2, Option.bind_some, Ip (by simp; omega), Option.bind_some]
  unfold S9
  simp
 ·rw [if_neg h]
  have : (decide (0 <= x) && decide (x <= 20000)) = false := by
   rw [Bool.and_eq_false_iff, decide_eq_false_iff_not, decide_eq_false_iff_not]; omega
  rw [this]; rfl
def M4 (p q : Nat) : Nat := (p - 1) * 1440 + q / 100 * 60 + q % 100
theorem Sj {p q : Nat} (h1 : 1 <= p) (hp : p < 1000000000) (hq : q < 1000000000) : W64 ((W64 ((W64 ((W64 ((p : Int) - 1)) * 1440)) + (W64 ((W64 (Int.tdiv (q : Int) 100)) * 60)))) + (Int.tmod (q : Int) 100)) = (M4 p q : Int) := by
 have e1 := Q7 q 100 (by omega)
 have e2 := Q6 q 100
 simp only [Int.cast_ofNat_Int] at e1 e2
 rw [e1, e2, ET (n := (p : Int) - 1) (by omega) (by omega), ET (n := ((p : Int) - 1) * 1440) (by omega) (by omega), ET (n := ((q / 100 : Nat) : Int) * 60) (by omega) (by omega)]
 rw [ET (n := ((p : Int) - 1) * 1440 + ((q / 100 : Nat) : Int) * 60) (by omega) (by omega), ET (by omega) (by omega)]
 unfold M4
 omega
def Mr (s a b : UO) : Int × Int := if Kw a && Kw b && decide (1 <= LH a) && decide (GW (M4 (LH a) (LH b)) = (s, 0)) then ((M4 (LH a) (LH b) : Int), 0) else (0, 13)
def PG (s : UO) : Int × Int := match pcs 32 s with
 | [a, b] => Mr s a b
 | _ => (0, 13)
theorem QK {s : UO} (h : (32 : UInt8) ∈ s) : Kw s = false := by
 cases hh : Kw s with
 | false => rfl
 | true =>
  have := List.all_eq_true.1 (LZ hh).2.2.2 _ h
  revert this; decide
theorem Rx : Kw [] = false := rfl
theorem Ru (s t : UO) (e : Int) : ((e != 0) || (t != s)) = !decide ((t, e) = (s, 0)) := by
 by_cases h1 : e = 0
 ·by_cases h2 : t = s
  ·subst h1; subst h2; simp
  ·rw [decide_eq_false (fun h => h2 (by injection h))]; simp [h2]
 ·rw [decide_eq_false (fun h => h1 (by injection h))]; simp [h1]
theorem NL (s a b : UO) (ha : a.length < N) (hb : b.length < N) :
  ((BW N a).bind fun r9 => ((BW N b).bind fun r17 => (bif ((decide (r9 < 1)) || ((decide (r9 > 20000)) || (decide (r17 < 0)))) then some ((0 : Int), (13 : Int)) else ((CH N (W64 ((W64 ((W64 ((W64 (r9 - 1)) * 1440)) + (W64 ((W64 (Int.tdiv r17 100)) * 60)))) + (Int.tmod r17 100)))).bind fun r38 => (bif ((r38.2 != 0) || (r38.1 != s)) then some (0, 13) else some ((W64 ((W64 ((W64 ((W64 (r9 - 1)) * 1440)) + (W64 ((W64 (Int.tdiv r17 100)) * 60)))) + (Int.tmod r17 100))), 0)))))) = some (Mr s a b) := by
 rw [Mx ha, Mx hb, Option.bind_some, Option.bind_some]
 unfold SK Mr
 cases hA : Kw a with
 | false =>
  simp only [Bool.false_eq_true, if_false, Bool.false_and]
  rfl
 | true =>
  cases hB : Kw b with
  | false =>
   simp only [Bool.false_eq_true, if_false, if_true, Bool.and_false, Bool.false_and]
   rw [show decide ((-1 : Int) < 0) = true from rfl, Bool.or_true, Bool.or_true]; rfl
  | true =>
   simp only [if_true, Bool.and_self, Bool.true_and]
   have hp := LZ hA
   have hq := LZ hB
   generalize LH a = p at hp ⊢
   generalize LH b = q at hq ⊢
   by_cases h1 : 1 <= p
   ·rw [decide_eq_false (show ¬ (p : Int) < 1 by omega), decide_eq_true h1, decide_eq_false (show ¬ (q : Int) < 0 by omega), Bool.false_or, Bool.or_false, Bool.true_and, Sj h1 hp.1 hq.1]
    by_cases h2 : p <= 20000
    ·rw [decide_eq_false (show ¬ (p : Int) > 20000 by omega), cond_false, ON, Option.bind_some, Ru]
     have : ((GW (M4 p q : Int)).1, (GW (M4 p q : Int)).2) = GW (M4 p q : Int) := rfl
     rw [this]
     by_cases h3 : GW (M4 p q : Int) = (s, 0)
     ·rw [decide_eq_true h3, if_pos rfl]; rfl
     ·rw [decide_eq_false h3]; rfl
    ·rw [decide_eq_true (show (p : Int) > 20000 by omega), cond_true]
     have h3 : ¬ GW (M4 p q : Int) = (s, 0) := by
      unfold GW M4
      rw [if_neg (by omega)]
      intro h; injection h with h1 h2; exact absurd h2 (by decide)
     rw [decide_eq_false h3]; rfl
   ·rw [decide_eq_true (show (p : Int) < 1 by omega), decide_eq_false h1]; rfl
theorem Mq {s a b : UO} (h : Kw b = false) : Mr s a b = (0, 13) := by unfold Mr; rw [h]; simp
theorem OO (s : UO) (hs : s.length < 4294967281) (hN : 4294967300 < N) : Fz N s = some (PG s) := by
 unfold Fz
 have hc : strings_Cut N s [32] = some (Go.Lib.cut s [32]) := by unfold strings_Cut; rw [if_pos hs]
 rw [hc, Option.bind_some]
 unfold PG
 by_cases h : (32 : UInt8) ∈ s
 ·obtain ⟨a, t, rfl, ha⟩ := DV h
  simp only [List.length_append, List.length_cons] at hs
  rw [RS ha, JL ha]
  simp only
  rw [NL _ a t (by omega) (by omega)]
  by_cases ht : (32 : UInt8) ∈ t
  ·obtain ⟨a', t', rfl, ha'⟩ := DV ht
   rw [JL ha', Mq (QK ht)]
   cases hp : pcs 32 t' with
   | nil => exact absurd hp (Rq 32 t')
   | cons x l => rfl
  ·rw [HF ht]
 ·rw [RT h, HF h]
  simp only
  rw [NL _ s [] (by omega) (by simp; omega), Mq Rx]
end
end
theorem O3 {ρ : Type} {body : Int -> Option (Ba ρ Int)} {n : Nat} (ok : Nat -> Bool) (bad : Nat -> ρ)
  (hb : ∀ i, i < n -> body (i : Int) = some (bif ok i then .next ((i + 1 : Nat) : Int) else .ret (bad i))) (he : body (n : Int) = some (.done (n : Int))) {N : Nat} (hN : n < N) :
  ((∀ i, i < n -> ok i = true) /\ AO body N 0 = some (.done (n : Int))) \/ (∃ i, i < n /\ ok i = false /\ (∀ k, k < i -> ok k = true) /\ AO body N 0 = some (.ret (bad i))) := by
 obtain ⟨o, ho, hR⟩ := E3 (body := body) n (fun i s => s = (i : Int) /\ ∀ k, k < i -> ok k = true) (fun o => ((∀ i, i < n -> ok i = true) /\ o = .done (n : Int)) \/ (∃ i, i < n /\ ok i = false /\ (∀ k, k < i -> ok k = true) /\ o = .ret (bad i))) (by
  rintro i s hi ⟨rfl, hk⟩
  by_cases h : i < n
  ·rw [hb i h]
   cases e : ok i with
   | true =>
    refine .inl ⟨_, rfl, ⟨rfl, fun k hk' => ?_⟩, h⟩
    by_cases hki : k = i
    ·subst hki; exact e
    ·exact hk k (by omega)
   | false => exact .inr ⟨_, rfl, (fun _ h => by cases h), .inr ⟨i, h, e, hk, rfl⟩⟩
  ·have : i = n := by omega
   subst this
   rw [he]
   exact .inr ⟨_, rfl, (fun _ h => by cases h), .inl ⟨hk, rfl⟩⟩) n N 0 0 (by omega) ⟨rfl, fun k hk => by omega⟩ hN
 rcases hR with ⟨h1, rfl⟩ | ⟨i, h1, h2, h3, rfl⟩
 ·exact .inl ⟨h1, ho⟩
 ·exact .inr ⟨i, h1, h2, h3, ho⟩
theorem Si (i : Nat) (h : i < 4611686018427387904) (h0 : 0 < i) : W64 ((i : Int) - 1) = ((i - 1 : Nat) : Int) := by
 rw [ET (by omega) (by omega)]; omega
section
open Go.Lib (decDigits)
theorem Qe (s : UO) : (s != []) = !decide (s = []) := by
 cases s <;> rfl
def jn (l : List UO) : UO := Go.Lib.join l [32]
theorem Tw : jn [] = [] := rfl
theorem Tv (x : UO) : jn [x] = x := Go.Lib.join_one x [32]
section
variable {N : Nat}
theorem TY (a b : UO) (hN : 4294967300 < N) : EC N [a, b] = some (if a = [] then b else a) := by
 obtain ⟨M, rfl⟩ : ∃ M, N = M + 3 := ⟨N - 3, by omega⟩
 unfold EC
 by_cases ha : a = []
 ·rw [if_pos ha]
  by_cases hb : b = []
  ·subst ha; subst hb; rfl
  ·have e1 : Cj (M + 3) [a, b] 0 = some (.next 1) := by subst ha; rfl
   have e2 : Cj (M + 3) [a, b] 1 = some (.ret b) := by
    show (bif (b != ([] : UO)) then some (.ret b) else some (.next (W64 (1 + 1)))) = some (Ba.ret b)
    rw [Qe, decide_eq_false hb]; rfl
   rw [AO, e1]
   simp only
   rw [AO, e2]
   rfl
 ·rw [if_neg ha]
  have e1 : Cj (M + 3) [a, b] 0 = some (.ret a) := by
   show (bif (a != ([] : UO)) then some (.ret a) else some (.next (W64 (0 + 1)))) = some (Ba.ret a)
   rw [Qe, decide_eq_false ha]; rfl
  rw [AO, e1]
  rfl
theorem LI {l : List AM} {p : AM -> Option Bool} (F : AM -> Bool) (hp : ∀ x, x ∈ l -> p x = some (F x)) (hl : l.length < 4000000000) (hN : 4294967300 < N) : AR N l p = some (l.any F) := by
 unfold AR Bi
 rcases O3 (body := AL N l p) (n := l.length) (fun i => !((l[i]?.map F).getD false)) (fun i => (i : Int)) (by
   intro i hi
   unfold AL
   rw [EQ hi, cond_true, D7 hi, Option.bind_some, hp _ (List.getElem_mem hi), Option.bind_some, Iz i (by omega), List.getElem?_eq_getElem hi]
   simp only [Option.map_some, Option.getD_some]
   cases F l[i] <;> rfl) (by
   unfold AL
   rw [DC, cond_false]) (N := N) (by omega) with ⟨g1, g2⟩ | ⟨i, hi, g1, _, g2⟩
 ·rw [g2]
  have : l.any F = false := by
   rw [List.any_eq_false]
   intro x hx
   obtain ⟨i, hi, rfl⟩ := List.getElem_of_mem hx
   have := g1 i hi
   rw [List.getElem?_eq_getElem hi] at this
   simpa using this
  rw [this]; rfl
 ·rw [g2]
  have : l.any F = true := by
   rw [List.any_eq_true]
   rw [List.getElem?_eq_getElem hi] at g1
   exact ⟨l[i], List.getElem_mem hi, by simpa using g1⟩
  rw [this]
  show some (decide ((i : Int) >= 0)) = some true
  rw [decide_eq_true (by omega)]
def LP (h : Bool) (n m : Int) : Bool := bif h then (decide (1 <= n) && decide (n <= m)) else n == 0
def DT (L : Ac) (E : Ad) : Bool := LP L.Report E.Report 599 && (LP L.Serial E.Serial 99999 && LP L.Zone E.Zone 99)
theorem Tr (P : AM) : BR N P = some (!LP P.has_ P.n_ P.most_) := by
 unfold BR LP
 rw [Mu, Option.bind_some]
 obtain ⟨h, n, m, d⟩ := P
 simp only
 cases h with
 | true => cases (decide (1 <= n) && decide (n <= m)) <;> rfl
 | false =>
  by_cases hn : n = 0
  ·subst hn
   rw [show (decide ((1 : Int) <= 0) && decide (0 <= m)) = false by rw [decide_eq_false (by omega)]; rfl]
   rfl
  ·have e1 : (n != 0) = true := by simpa using hn
   have e2 : (n == 0) = false := by simpa using hn
   rw [e1, e2]
   cases (decide (1 <= n) && decide (n <= m)) <;> rfl
theorem Mh (L : Ac) (E : Ad) (hN : 4294967300 < N) : BO N L E = some (DT L E) := by
 unfold BO
 unfold Cm
 rw [Option.bind_some, LI (fun P => !LP P.has_ P.n_ P.most_) (fun x _ => Tr x) (by simp) hN, Option.bind_some]
 unfold DT
 simp
theorem ND (L : Ac) (E : Ad) : BP N L E = some (DT L E) := by
 unfold BP DT
 have h : ∀ (b : Bool) (n m : Int), Fc N b n m = some (LP b n m) := by
  intro b n m
  unfold Fc LP
  rw [Gx]
  cases b <;> rfl
 rw [h, h, h]
 cases LP L.Report E.Report 599 <;> cases LP L.Serial E.Serial 99999 <;> cases LP L.Zone E.Zone 99 <;> rfl
def fs (L : Ac) (E : Ad) : List UO := (if L.Report = true then [dP 1 E.Report.toNat] else []) ++ ((if L.Serial = true then [dP 3 E.Serial.toNat] else []) ++ (if L.Zone = true then [dP 2 E.Zone.toNat] else []))
def S8 (L : Ac) (E : Ad) : UO := if fs L E = [] then [45] else jn (fs L E)
def Mp (L : Ac) (E : Ad) : UO × Int := if DT L E = true then (S8 L E, 0) else ([], 1)
structure OkE (L : Ac) (E : Ad) : Prop where
 r : if L.Report = true then 1 <= E.Report /\ E.Report <= 599 else E.Report = 0
 s : if L.Serial = true then 1 <= E.Serial /\ E.Serial <= 99999 else E.Serial = 0
 z : if L.Zone = true then 1 <= E.Zone /\ E.Zone <= 99 else E.Zone = 0
theorem okE {L : Ac} {E : Ad} (h : DT L E = true) : OkE L E := by
 unfold DT LP at h
 simp only [Bool.and_eq_true] at h
 obtain ⟨h1, h2, h3⟩ := h
 constructor
 ·cases hL : L.Report <;> rw [hL] at h1 <;> simpa using h1
 ·cases hL : L.Serial <;> rw [hL] at h2 <;> simpa using h2
 ·cases hL : L.Zone <;> rw [hL] at h3 <;> simpa using h3
theorem OkE.le {L : Ac} {E : Ad} (h : OkE L E) : (0 <= E.Report /\ E.Report <= 599) /\ (0 <= E.Serial /\ E.Serial <= 99999) /\ 0 <= E.Zone /\ E.Zone <= 99 := by
 obtain ⟨h1, h2, h3⟩ := h
 refine ⟨?_, ?_, ?_⟩
 ·split at h1 <;> omega
 ·split at h2 <;> omega
 ·split at h3 <;> omega
theorem Ql {L : Ac} {E : Ad} (h : OkE L E) : ∀ w, w ∈ fs L E -> w.length <= 5 /\ w.all isD = true /\ 1 <= w.length := by
 obtain ⟨h1, h2, h3⟩ := h.le
 intro w hw
 unfold fs at hw
 simp only [List.mem_append] at hw
 have l1 := JY (k := 1) (j := 2) (u := E.Report.toNat) (by omega)
 have l2 := JY (k := 3) (j := 4) (u := E.Serial.toNat) (by omega)
 have l3 := JY (k := 2) (j := 1) (u := E.Zone.toNat) (by omega)
 rcases hw with hw | hw | hw
 ·split at hw
  ·simp at hw; subst hw; exact ⟨by omega, PR _ _, (On _ _).2⟩
  ·cases hw
 ·split at hw
  ·simp at hw; subst hw; exact ⟨by omega, PR _ _, (On _ _).2⟩
  ·cases hw
 ·split at hw
  ·simp at hw; subst hw; exact ⟨by omega, PR _ _, (On _ _).2⟩
  ·cases hw
theorem RL (L : Ac) (E : Ad) : (fs L E).length <= 3 := by
 unfold fs
 split <;> split <;> split <;> simp
theorem RF : ∀ l : List UO, (∀ w, w ∈ l -> w.length <= 5) -> (jn l).length <= l.length * 6
 | [], _ => by simp [Tw]
 | [x], h => by rw [Tv]; have := h x (by simp); simp; omega
 | x :: y :: r, h => by
  have ih := RF (y :: r) (fun w hw => h w (List.mem_cons_of_mem _ hw))
  have hx := h x (by simp)
  have : jn (x :: y :: r) = x ++ 32 :: jn (y :: r) := by
   unfold jn
   rw [Go.Lib.join_cons, Go.Lib.join_cons]
   unfold Go.Lib.joinTail
   simp
  rw [this, List.length_append, List.length_cons, List.length_cons (a := x)]
  omega
theorem T6 {L : Ac} {E : Ad} (h : OkE L E) : (jn (fs L E)).length <= 18 := by
 have := RF (fs L E) (fun w hw => (Ql h w hw).1)
 have := RL L E
 omega
theorem TZ {l : List UO} (h : ∀ w, w ∈ l -> 1 <= w.length) : jn l = [] ↔ l = [] := by
 constructor
 ·intro hj
  match l, h, hj with
  | [], _, _ => rfl
  | x :: r, h, hj =>
   exfalso
   unfold jn at hj
   rw [Go.Lib.join_cons] at hj
   have := h x (by simp)
   rw [List.append_eq_nil_iff] at hj
   rw [hj.1] at this
   exact absurd this (by decide)
 ·rintro rfl; rfl
theorem Tp {n : Int} {k : Nat} (h0 : 0 <= n) (h1 : n <= 1000000000) (hk : k <= 100) : BF N n (k : Int) = some (dP k n.toNat) := by
 obtain ⟨u, rfl⟩ : ∃ u : Nat, n = u := ⟨n.toNat, by omega⟩
 exact Mw u k (by omega) hk
def O9 (L : Ac) (E : Ad) (i : Nat) : List UO := if i = 0 then (if L.Report = true then [dP 1 E.Report.toNat] else []) else if i = 1 then (if L.Serial = true then [dP 3 E.Serial.toNat] else []) else (if L.Zone = true then [dP 2 E.Zone.toNat] else [])
theorem TC (L : Ac) (E : Ad) : cat 3 (O9 L E) = fs L E := by
 rw [H8, H8, H8]
 unfold fs
 rw [<- List.append_assoc]
 rfl
theorem RM (L : Ac) (E : Ad) (i : Nat) : (O9 L E i).length <= 1 := by
 unfold O9
 split
 ·split <;> simp
 ·split <;> split <;> simp
theorem Rb (L : Ac) (E : Ad) (hN : 4294967300 < N) : Bt N L E = some (Mp L E) := by
 unfold Bt Mp
 rw [Mh L E hN, Option.bind_some]
 cases hv : DT L E with
 | false => rfl
 | true =>
  have ok := okE hv
  obtain ⟨h1, h2, h3⟩ := ok.le
  rw [Bool.not_true, cond_false, if_pos rfl]
  unfold Cm
  rw [Option.bind_some]
  generalize hP : ([_, _, _] : List AM) = P
  have hstep : ∀ (i : Nat) (s : List UO), i < 3 -> s.length + 1 <= 0 + 3 * 1 -> BL N L E true P (s, (i : Int)) = some (.next (s ++ O9 L E i, ((i + 1 : Nat) : Int))) := by
   intro i s hi hs
   have p1 : BF N E.Report 1 = some (dP 1 E.Report.toNat) := Tp (k := 1) h1.1 (by omega) (by omega)
   have p2 : BF N E.Serial 3 = some (dP 3 E.Serial.toNat) := Tp (k := 3) h2.1 (by omega) (by omega)
   have p3 : BF N E.Zone 2 = some (dP 2 E.Zone.toNat) := Tp (k := 2) h3.1 (by omega) (by omega)
   have ha : ∀ w : UO, DR s [w] = some (s ++ [w]) := fun w => OG (by simp; omega)
   unfold BL
   subst hP
   simp only
   rw [Iz i (by omega)]
   match i, hi with
   | 0, _ =>
    show ((bif L.Report then ((BF N E.Report 1).bind fun r88 => ((DR s [r88]).bind fun r101 => some r101)) else some s).bind fun j78 => some (Ba.next (j78, _))) = _
    rw [p1, Option.bind_some, ha]
    unfold O9
    cases L.Report <;> simp
   | 1, _ =>
    show ((bif L.Serial then ((BF N E.Serial 3).bind fun r88 => ((DR s [r88]).bind fun r101 => some r101)) else some s).bind fun j78 => some (Ba.next (j78, _))) = _
    rw [p2, Option.bind_some, ha]
    unfold O9
    cases L.Serial <;> simp
   | 2, _ =>
    show ((bif L.Zone then ((BF N E.Zone 2).bind fun r88 => ((DR s [r88]).bind fun r101 => some r101)) else some s).bind fun j78 => some (Ba.next (j78, _))) = _
    rw [p3, Option.bind_some, ha]
    unfold O9
    cases L.Zone <;> simp
  have hend : ∀ s : List UO, BL N L E true P (s, ((3 : Nat) : Int)) = some (.done (s, ((3 : Nat) : Int))) := by
   intro s
   subst hP
   rfl
  rw [QO (n := 3) 1 (O9 L E) (fun i _ => RM L E i) (s0 := []) hstep hend (by omega), TC]
  simp only [List.nil_append, Option.bind_some, Ba.k]
  have hj := T6 ok
  have hl := RL L E
  have e1 : strings_Join N (fs L E) [32] = some (jn (fs L E)) := by
   unfold strings_Join
   exact if_pos ⟨by omega, by unfold jn at hj; omega⟩
  rw [e1, Option.bind_some, TY _ _ hN, Option.bind_some]
  unfold S8
  have := TZ (fun w hw => (Ql ok w hw).2.2)
  by_cases hf : fs L E = []
  ·rw [if_pos hf, if_pos (this.2 hf)]
  ·rw [if_neg hf, if_neg (fun h => hf (this.1 h))]
def Hx (h : Bool) (ws : List UO) : List UO × Int := match h, ws with
 | true, w :: r => (r, SK w)
 | _, _ => (ws, 0)
def Kv (L : Ac) (ws : List UO) : Ad := { Report := (Hx L.Report ws).2, Serial := (Hx L.Serial (Hx L.Report ws).1).2, Zone := (Hx L.Zone (Hx L.Serial (Hx L.Report ws).1).1).2 }
def PF (L : Ac) (s : UO) : Ad × Int := if Mp L (Kv L (pcs 32 s)) = (s, 0) then (Kv L (pcs 32 s), 0) else ({ Report := 0, Serial := 0, Zone := 0 }, 1)
theorem NB (h : Bool) (ws : List UO) : ∀ w, w ∈ (Hx h ws).1 -> w ∈ ws := by
 intro w hw
 match h, ws, hw with
 | true, x :: r, hw => exact List.mem_cons_of_mem _ hw
 | true, [], hw => exact hw
 | false, _, hw => exact hw
theorem Mc (h : Bool) (ws : List UO) (hl : ∀ w, w ∈ ws -> w.length < N) : (bif (h && decide ((ws.length : Int) > 0)) then ((idx ws 0).bind fun x80 => ((BW N x80).bind fun r94 => ((sub ws 1 (ws.length : Int)).bind fun r104 => some (r104, r94)))) else some (ws, (0 : Int))) = some (Hx h ws) := by
 match h, ws, hl with
 | false, _, _ => rfl
 | true, [], _ => rfl
 | true, w :: r, hl =>
  have e0 : idx (w :: r) 0 = some w := rfl
  have e1 : sub (w :: r) 1 ((w :: r).length : Int) = some r := by
   unfold sub
   rw [if_pos ⟨by omega, by simp only [List.length_cons]; omega, by omega⟩]
   simp
  rw [decide_eq_true (by simp only [List.length_cons]; omega), e0, e1, Option.bind_some, Mx (hl w (by simp))]
  rfl
theorem Rc (L : Ac) (s : UO) (hs : s.length < 4294967281) (hN : 4294967300 < N) : DK N L s = some (PF L s) := by
 unfold DK PF
 rw [Qj 32 hs, Option.bind_some]
 have hle := Od 32 s
 generalize pcs 32 s = ws at hle
 have hn : ∀ w, w ∈ ws -> w.length < N := fun w hw => by have := hle w hw; omega
 have c0 : ∀ (E : Ad) (b : Bool), ((Cm N L E).bind fun r38 => ((idx r38 0).bind fun x46 => (bif x46.has_ then some b else some false))) = some (L.Report && b) := by
  intro E b
  show (bif L.Report then some b else some false) = _
  cases L.Report <;> rfl
 have c1 : ∀ (E : Ad) (b : Bool), ((Cm N L E).bind fun r38 => ((idx r38 1).bind fun x46 => (bif x46.has_ then some b else some false))) = some (L.Serial && b) := by
  intro E b
  show (bif L.Serial then some b else some false) = _
  cases L.Serial <;> rfl
 have c2 : ∀ (E : Ad) (b : Bool), ((Cm N L E).bind fun r38 => ((idx r38 2).bind fun x46 => (bif x46.has_ then some b else some false))) = some (L.Zone && b) := by
  intro E b
  show (bif L.Zone then some b else some false) = _
  cases L.Zone <;> rfl
 rw [c0, Option.bind_some, Mc L.Report ws hn, Option.bind_some, c1, Option.bind_some]
 have hn1 : ∀ w, w ∈ (Hx L.Report ws).1 -> w.length < N := fun w hw => hn w (NB _ _ w hw)
 rw [Mc L.Serial _ hn1, Option.bind_some, c2, Option.bind_some]
 have hn2 : ∀ w, w ∈ (Hx L.Serial (Hx L.Report ws).1).1 -> w.length < N := fun w hw => hn1 w (NB _ _ w hw)
 rw [Mc L.Zone _ hn2, Option.bind_some]
 show ((Bt N L (Kv L ws)).bind _) = _
 rw [Rb L _ hN, Option.bind_some, Ru]
 show (bif (!decide (Mp L (Kv L ws) = (s, 0))) then _ else some (Kv L ws, (0 : Int))) = _
 by_cases h : Mp L (Kv L ws) = (s, 0)
 ·rw [decide_eq_true h, if_pos h]; rfl
 ·rw [decide_eq_false h, if_neg h]; rfl
end
end
def Gc (s : UO) : Bool := (callB s).isSome
section
variable {N : Nat}
theorem Sl (s : UO) (hN : 4294967300 < N) : Fy N s = some (Gc s) := by
 unfold Fy Gc
 rw [SO s hN, Option.bind_some]
 unfold Po
 cases callB s <;> rfl
theorem Ra (s : UO) (hN : 4294967300 < N) : DA N s = some (Gc s) := by
 unfold DA Gc
 rw [Rz s hN, Option.bind_some]
 unfold Tj
 cases callB s <;> rfl
end
def Dw (_N : Nat) (s : UO) : Option Bool := some (Gc s)
theorem Eo : Af Tryz.prog 79 := J8
theorem ES (N : Nat) (w0 : World) (F0 : Mem) (hF : UQ w0 F0) (hG : Bm F0) (x0 : UO) (r : Bool) (h : Dw N x0 = some r) :
  Calls Tryz.prog 79 ([(.string ⟨(x0).toArray⟩)] : List Value).toArray w0 (AA w0 F0 fun F' v => v = (.bool r)) := by
 exact K7 9223372036854775808 w0 F0 hF hG x0 r ((Sl x0 (by decide)).trans h)
def Gp (_N : Nat) (s : UO) : Option (Int × Int) := if s.length < 4294967281 then some (PG s) else none
theorem K0 : Af Tryz.prog 96 := J9
theorem LW (N : Nat) (w0 : World) (F0 : Mem) (hF : UQ w0 F0) (hG : Bm F0) (x0 : UO) (r : (Int × Int)) (h : Gp N x0 = some r) :
  Calls Tryz.prog 96 ([(.string ⟨(x0).toArray⟩)] : List Value).toArray w0 (AA w0 F0 fun F' v => v = (.tuple #[(.int .i64 r.1), (.int .i64 r.2)])) := by
 unfold Gp at h
 split at h
 ·rename_i hs
  exact K8 9223372036854775808 w0 F0 hF hG x0 r ((OO x0 hs (by decide)).trans h)
 ·cases h
def CO (_N : Nat) (L : Ac) (s : UO) : Option (Ad × Int) := if s.length < 4294967281 then some (PF L s) else none
theorem Bl : Af Tryz.prog 97 := Hs
theorem Bw (N : Nat) (w0 : World) (F0 : Mem) (hF : UQ w0 F0) (hG : Bm F0) (x0 : Ac) (x1 : UO) (r : (Ad × Int)) (h : CO N x0 x1 = some r) :
  Calls Tryz.prog 97 ([(.agg #[(.bool x0.Report), (.bool x0.Serial), (.bool x0.Zone)]), (.string ⟨(x1).toArray⟩)] : List Value).toArray w0 (AA w0 F0 fun F' v => v = (.tuple #[(.agg #[(.int .i64 r.1.Report), (.int .i64 r.1.Serial), (.int .i64 r.1.Zone)]), (.int .i64 r.2)])) := by
 unfold CO at h
 split at h
 ·rename_i hs
  exact Ii 9223372036854775808 w0 F0 hF hG x0 x1 r ((Rc x0 x1 hs (by decide)).trans h)
 ·cases h
section
open Go.Lib (decDigits)
def Nl (b : UInt8) : Bool := isL b || isD b || b == 47
def HR (s : UO) : Bool := wiB s.length 1 16 && s.all Nl
def L8 (o : Ac) (x : Line) : Bool := decide (1 <= x.Num /\ x.Num <= 65535) && (decide (1 <= x.Khz /\ x.Khz <= 10000000) && (decide (1 <= x.Mode /\ x.Mode <= 3) && (decide (0 <= x.Minute /\ x.Minute <= 20000) && (HR x.Call && (DT o x.Sent && DT o x.Got)))))
end

section
open Go.Lib (decDigits)
def QQ : List Int -> Bool
 | [] => true
 | [_] => true
 | a :: b :: r => decide (a < b) && QQ (b :: r)
def O1 (l : List Int) : Bool := l.all (fun n => decide (1 <= n /\ n <= 20000)) && (QQ l && decide (l.length <= 16))
def hdV (l : Log) (k : Nat) : Bool := match k with
 | 0 => Gc l.Call
 | 1 => decide (1 <= l.Category /\ l.Category <= 9)
 | 2 => decide (1 <= l.Power /\ l.Power <= 9999)
 | 3 => decide (0 <= l.Claimed /\ l.Claimed <= 1000000)
 | _ => O1 l.Jumps
end
section
open Go.Lib (decDigits)
def PH (o : Ac) (l : List Line) (i : Nat) : Bool := match l[i]? with
 | some x => L8 o x && (decide (i = 0) || match l[i - 1]? with
  | some y => decide (y.Num < x.Num) && decide (y.Minute <= x.Minute)
  | none => true)
 | none => true
def Jk (o : Ac) (l : List Line) : Option Nat := (List.range l.length).find? fun i => !PH o l i
def O6 (l : Log) : Bool := hdV l 0 && (hdV l 1 && (hdV l 2 && (hdV l 3 && hdV l 4)))
def chk (o : Ac) (l : Log) : Int × Int :=
 if l.Jumps.length > 16 \/ l.Lines.length > 400 then (2, 0)
 else if O6 l = false then (21, 0)
 else match Jk o l.Lines with
  | some i => (21, (i : Int) + 1)
  | none => (0, 0)
end
def AP (N : Nat) (x0 : Int) (x1 : Int) (x2 : Int) : Option Bool :=
 some ((decide (x1 <= x0)) && (decide (x0 <= x2)))
theorem AG : Af Tryz.prog 73 := fun _ _ => by kernel_rfl
theorem AN (N : Nat) (w0 : World) (F0 : Mem) (hF : UQ w0 F0) (x0 : Int) (x1 : Int) (x2 : Int) (r : Bool) (h : AP N x0 x1 x2 = some r) :
  Calls Tryz.prog 73 ([(vi x0), (vi x1), (vi x2)] : List Value).toArray w0 (AA w0 F0 fun F' v => v = (.bool r)) := by
 have hs0 := Uv hF
 refine Go 15 Tryz.func73 <| Sq (Rg [0] ?_)
 refine Vs 1 <| Nss (Rg (rG 9) ?_)
 refine Uz (fun f w => ∃ (F1 : Mem), HS w0 F0 w F1 [] /\ Ut F0 F1 /\ FI f [] [(6, (.bool ((decide (x1 <= x0)) && (decide (x0 <= x2)))))]) ?_ ?_
 ·refine Vs 4 ?_
  refine Uy (decide (x1 <= x0)) (fun hb26 => ?_) (fun hb26 => ?_)
  ·refine Vgs hb26 3 ?_
   refine Pk1 hb26 <| Vs 1 ?_
   exact Up ⟨rfl, F0, hs0, (Uu _), (fJ ⟨(congrArg Value.bool (I9 hb26 rfl)), trivial⟩)⟩
  ·refine Ss hb26 3 ?_
   refine Pk0 hb26 <| Vs 1 ?_
   exact Up ⟨rfl, F0, hs0, (Uu _), (fJ ⟨(congrArg Value.bool (Ja hb26 rfl)), trivial⟩)⟩
 ·rintro f w21 ⟨F1, hs22, le23, ⟨_, rfl⟩⟩
  refine Ab <| Rt ?_
  obtain rfl := Aa h
  exact Re [(.bool ((decide (x1 <= x0)) && (decide (x0 <= x2))))] hs22 rfl
def Dp (N : Nat) (x0 : UO) (r21 : Bool) : (Bool × Int) -> Option (Ba Bool (Bool × Int)) := fun s32 =>
 (bif (decide (s32.2 < (x0.length : Int))) then ((JG x0 s32.2).bind fun c56 => ((bif s32.1 then ((AP N (W64 c56) 65 90).bind fun r73 => (bif r73 then some true else ((AP N (W64 c56) 48 57).bind fun r84 => (bif r84 then some true else some (c56 == 47))))) else some false).bind fun j62 => some (.next (j62, (W64 (s32.2 + 1)))))) else some (.done (s32.1, s32.2)))
def GY (N : Nat) (x0 : UO) : Option Bool :=
 ((AP N (x0.length : Int) 1 16).bind fun r21 => ((AO (Dp N x0 r21) N (r21, 0)).bind fun o => o.k (fun r => some r) (fun s41 => some s41.1)))
theorem Ni : Af Tryz.prog 74 := fun _ _ => by kernel_rfl
theorem OC (N : Nat) (w0 : World) (F0 : Mem) (hF : UQ w0 F0) (x0 : UO) (r : Bool) (h : GY N x0 = some r) :
  Calls Tryz.prog 74 ([(sv x0)] : List Value).toArray w0 (AA w0 F0 fun F' v => v = (.bool r)) := by
 have hs0 := Uv hF
 refine Go 34 Tryz.func74 <| Sq (Rg [0] ?_)
 refine Vs 1 <| Nss (Rg (rG 4) ?_)
 refine Vs 2 ?_
 obtain ⟨r21, hr22, h23⟩ := bind_some h
 refine Cl' AG hs0 (AN N w0 F0 hs0.pers ((x0.length : Int)) 1 16 _ hr22) ?_
 rintro _ F1 w25 hs26 le27 rfl
 refine Vs 1 <| Nss <| Sq (Rg [0, 1, 2] ?_)
 refine Vs 3 <| Nt ?_
 obtain ⟨o29, ho30, h31⟩ := bind_some h23
 refine UA (fun f w => ∃ (s41 : (Bool × Int)) (F3 : Mem), o29 = .done s41 /\ HS w0 F0 w F3 [] /\ Ut F1 F3 /\ FI f [] [(3, (.bool s41.1))]) ?_ ?_
 ·refine Bk ?_
  refine Us (by kernel_rfl) (fun m f w => ∃ (s32 : (Bool × Int)) (F2 : Mem), AO (Dp N x0 r21) m s32 = some o29 /\ HS w0 F0 w F2 [] /\ Ut F1 F2 /\ FI f [] [(0, (sv x0)), (3, (.bool s32.1)), (10, (vi (x0.length : Int))), (11, (vi s32.2))]) N ⟨(r21, 0), F1, ho30, hs26, (Uu _), fI⟩ ?_
  rintro m47 f w33 ⟨s32, F2, hit48, hs34, le35, ⟨_, rfl⟩⟩
  obtain ⟨m49, fl50, rfl, hb51, hnx52⟩ := AD hit48
  refine Sq (Rg [0] ?_)
  refine Vs 1 <| Nss <| Cd hb51 (fun hb53 h54 => ?_) (fun hb53 h55 => ?_)
  ·refine Sc ?_
   refine Ab <| Sq <| Bk <| Sq (Rg [0, 1] ?_)
   refine Vs 2 <| Nss (Rg (rG 4) ?_)
   refine Vs 2 ?_
   obtain ⟨c56, hr57, h58⟩ := bind_some h54
   refine V 16 5 (DW (t := 9) (x := (.tmp 14)) (y := (.tmp 15)) (a := x0) (k := .i64) (i := s32.2) (v := c56) rfl rfl (by kernel_rfl) hr57) <| Vs 1 <| Nt <| Rg (rG 16) ?_
   obtain ⟨j62, hj68, h69⟩ := bind_some h58
   refine Uz (fun f w => ∃ (F4 : Mem), HS w0 F0 w F4 [] /\ Ut F2 F4 /\ FI f [] [(0, (sv x0)), (3, (.bool j62)), (10, (vi (x0.length : Int))), (11, (vi s32.2))]) ?_ ?_
   ·refine Vs 2 ?_
    refine Sp hj68 (fun hb70 h71 => ?_) (fun hb70 h72 => ?_)
    ·refine Vgs hb70 2 ?_
     obtain ⟨r73, hr74, h75⟩ := bind_some h71
     refine Cg hb70 AG hs34 (AN N w33 F2 hs34.pers ((W64 c56)) 65 90 _ hr74) ?_
     rintro _ F5 w77 hs78 le79 rfl
     refine Vgs hb70 1 <| Sp h75 (fun hb81 h82 => ?_) (fun hb81 h83 => ?_)
     ·refine Ss hb81 3 ?_
      refine Pg1 hb70 hb81 <| Vgs hb70 1 <| Ss (rfl : true = true) 2 <| Pg1 hb70 (rfl : true = true) <| Pk1 hb70 <| Vs 1 ?_
      obtain rfl := Aa h82
      exact Up ⟨rfl, F5, hs78, le79, fI⟩
     ·refine Vgs hb81 2 ?_
      obtain ⟨r84, hr85, h86⟩ := bind_some h83
      refine Cg hb81 AG hs78 (AN N w77 F5 hs78.pers ((W64 c56)) 48 57 _ hr85) ?_
      rintro _ F6 w88 hs89 le90 rfl
      refine Pg0 hb70 hb81 <| Vgs hb70 1 <| Sp h86 (fun hb92 h93 => ?_) (fun hb92 h94 => ?_)
      ·refine Ss hb92 2 ?_
       refine Pg1 hb70 hb92 <| Pk1 hb70 <| Vs 1 ?_
       obtain rfl := Aa h93
       exact Up ⟨rfl, F6, hs89, (le79.t le90), fI⟩
      ·refine Vgs hb92 2 ?_
       refine Pg0 hb70 hb92 <| Pk1 hb70 <| Vs 1 ?_
       obtain rfl := Aa h94
       exact Up ⟨rfl, F6, hs89, (le79.t le90), fI⟩
    ·refine Ss hb70 4 ?_
     refine Su' 3 <| Ss hb70 2 <| Su' 2 <| Ss hb70 1 <| Pk0 hb70 <| Vs 1 ?_
     obtain rfl := Aa h72
     exact Up ⟨rfl, F2, hs34, (Uu _), fI⟩
   ·rintro f w59 ⟨F4, hs60, le61, ⟨_, rfl⟩⟩
    refine Aq <| Ab <| Rg [0, 1] <| Vs 2 <| Up ?_
    have hn95 := AJ h69 hnx52
    exact ⟨m49, Nat.lt_succ_self _, (j62, (W64 (s32.2 + 1))), F4, hn95, hs60, (le35.t le61), fI⟩
  ·refine Ex ?_
   refine Ao <| Ao <| Ay rfl ?_
   have ho96 := AE h55 hnx52
   exact .inl ⟨rfl, (s32.1, s32.2), F2, ho96, hs34, le35, fI⟩
 ·rintro f w42 ⟨s41, F3, rfl, hs43, le44, ⟨_, rfl⟩⟩
  have h97 := Bc h31
  refine Ab <| Sq (Rg [0, 1] ?_)
  refine Vs 2 <| Nt <| Rt ?_
  obtain rfl := Aa h97
  exact Re [(.bool s41.1)] hs43 rfl
def BU (N : Nat) (x0 : Ac) (x1 : Line) : Option Bool :=
 (((AP N x1.Num 1 65535).bind fun r35 => (bif r35 then ((AP N x1.Khz 1 10000000).bind fun r46 => (bif r46 then ((AP N x1.Mode 1 3).bind fun r57 => (bif r57 then ((AP N x1.Minute 0 20000).bind fun r68 => (bif r68 then ((GY N x1.Call).bind fun r79 => (bif r79 then ((BO N ({ Report := x0.Report, Serial := x0.Serial, Zone := x0.Zone } : Ac) ({ Report := x1.Sent.Report, Serial := x1.Sent.Serial, Zone := x1.Sent.Zone } : Ad)).bind fun r90 => (bif r90 then ((BO N ({ Report := x0.Report, Serial := x0.Serial, Zone := x0.Zone } : Ac) ({ Report := x1.Got.Report, Serial := x1.Got.Serial, Zone := x1.Got.Zone } : Ad)).bind fun r101 => some r101) else some false)) else some false)) else some false)) else some false)) else some false)) else some false)).bind fun j30 => some j30)
theorem Ea : Af Tryz.prog 21 := fun _ _ => by kernel_rfl
theorem Ep (N : Nat) (w0 : World) (F0 : Mem) (hF : UQ w0 F0) (x0 : Ac) (x1 : Line) (r : Bool) (h : BU N x0 x1 = some r) :
  Calls Tryz.prog 21 ([(.agg (Ag x0)), (.agg (BN x1))] : List Value).toArray w0 (AA w0 F0 fun F' v => v = (.bool r)) := by
 have hs0 := Uv hF
 refine Go 40 Tryz.func21 <| Sq (Rg [0, 1, 2] ?_)
 refine Bx' 23 (Ag x0) hs0 (fun b21 w22 hs23 => ?_)
 refine Bx' 34 (BN x1) hs23 (fun b24 w25 hs26 => ?_)
 refine Vs 1 <| Nss (Rg (rG 36) ?_)
 obtain ⟨j30, hj33, h34⟩ := bind_some h
 refine Uz (fun f w => ∃ (F1 : Mem), HS w0 F0 w F1 [] /\ Ut F0 F1 /\ FI f [] [(4, (.bool j30))]) ?_ ?_
 ·refine Vs 1 ?_
  refine Ld hs26.at0 ?_
  obtain ⟨r35, hr36, h37⟩ := bind_some hj33
  refine Cl' AG hs26 (AN N w25 F0 hs26.pers x1.Num 1 65535 _ hr36) ?_
  rintro _ F2 w39 hs40 le41 rfl
  refine Vs 1 <| Sp h37 (fun hb43 h44 => ?_) (fun hb43 h45 => ?_)
  ·refine Vgs hb43 1 ?_
   refine Lg hb43 hs40.at0 ?_
   obtain ⟨r46, hr47, h48⟩ := bind_some h44
   refine Cg hb43 AG hs40 (AN N w39 F2 hs40.pers x1.Khz 1 10000000 _ hr47) ?_
   rintro _ F3 w50 hs51 le52 rfl
   refine Pk1 hb43 <| Vs 1 <| Sp h48 (fun hb54 h55 => ?_) (fun hb54 h56 => ?_)
   ·refine Vgs hb54 1 ?_
    refine Lg hb54 hs51.at0 ?_
    obtain ⟨r57, hr58, h59⟩ := bind_some h55
    refine Cg hb54 AG hs51 (AN N w50 F3 hs51.pers x1.Mode 1 3 _ hr58) ?_
    rintro _ F4 w61 hs62 le63 rfl
    refine Pk1 hb54 <| Vs 1 <| Sp h59 (fun hb65 h66 => ?_) (fun hb65 h67 => ?_)
    ·refine Vgs hb65 1 ?_
     refine Lg hb65 hs62.at0 ?_
     obtain ⟨r68, hr69, h70⟩ := bind_some h66
     refine Cg hb65 AG hs62 (AN N w61 F4 hs62.pers x1.Minute 0 20000 _ hr69) ?_
     rintro _ F5 w72 hs73 le74 rfl
     refine Pk1 hb65 <| Vs 1 <| Sp h70 (fun hb76 h77 => ?_) (fun hb76 h78 => ?_)
     ·refine Vgs hb76 1 ?_
      refine Lg hb76 hs73.at0 ?_
      obtain ⟨r79, hr80, h81⟩ := bind_some h77
      refine Cg hb76 Ni hs73 (OC N w72 F5 hs73.pers x1.Call _ hr80) ?_
      rintro _ F6 w83 hs84 le85 rfl
      refine Pk1 hb76 <| Vs 1 <| Sp h81 (fun hb87 h88 => ?_) (fun hb87 h89 => ?_)
      ·refine Lg hb87 hs84.at1 ?_
       refine Vgs hb87 1 <| Lg hb87 hs84.at0 ?_
       obtain ⟨r90, hr91, h92⟩ := bind_some h88
       refine Cg hb87 CX hs84 (Dh N w83 F6 hs84.pers (({ Report := x0.Report, Serial := x0.Serial, Zone := x0.Zone } : Ac)) (({ Report := x1.Sent.Report, Serial := x1.Sent.Serial, Zone := x1.Sent.Zone } : Ad)) _ hr91) ?_
       rintro _ F7 w94 hs95 le96 rfl
       refine Pk1 hb87 <| Vs 1 <| Sp h92 (fun hb98 h99 => ?_) (fun hb98 h100 => ?_)
       ·refine Lg hb98 hs95.at1 ?_
        refine Vgs hb98 1 <| Lg hb98 hs95.at0 ?_
        obtain ⟨r101, hr102, h103⟩ := bind_some h99
        refine Cg hb98 CX hs95 (Dh N w94 F7 hs95.pers (({ Report := x0.Report, Serial := x0.Serial, Zone := x0.Zone } : Ac)) (({ Report := x1.Got.Report, Serial := x1.Got.Serial, Zone := x1.Got.Zone } : Ad)) _ hr102) ?_
        rintro _ F8 w105 hs106 le107 rfl
        refine Pk1 hb98 <| Vs 1 ?_
        obtain rfl := Aa h103
        exact Up ⟨rfl, F8, hs106.dr0.dr0, ((((((le41.t le52).trans le63).trans le74).trans le85).trans le96).trans le107), fI⟩
       ·refine Ss hb98 4 ?_
        refine Pk0 hb98 <| Vs 1 ?_
        obtain rfl := Aa h100
        exact Up ⟨rfl, F7, hs95.dr0.dr0, (((((le41.t le52).trans le63).trans le74).trans le85).trans le96), fI⟩
      ·refine Ss hb87 4 ?_
       refine Pk0 hb87 <| Vs 1 <| Ss (rfl : false = false) 4 <| Pk0 (rfl : false = false) <| Vs 1 ?_
       obtain rfl := Aa h89
       exact Up ⟨rfl, F6, hs84.dr0.dr0, ((((le41.t le52).trans le63).trans le74).trans le85), fI⟩
     ·refine Ss hb76 3 ?_
      refine Pk0 hb76 <| Vs 1 <| Ss (rfl : false = false) 4 <| Pk0 (rfl : false = false) <| Vs 1 <| Ss (rfl : false = false) 4 <| Pk0 (rfl : false = false) <| Vs 1 ?_
      obtain rfl := Aa h78
      exact Up ⟨rfl, F5, hs73.dr0.dr0, (((le41.t le52).trans le63).trans le74), fI⟩
    ·refine Ss hb65 3 ?_
     refine Pk0 hb65 <| Vs 1 <| Ss (rfl : false = false) 3 <| Pk0 (rfl : false = false) <| Vs 1 <| Ss (rfl : false = false) 4 <| Pk0 (rfl : false = false) <| Vs 1 <| Ss (rfl : false = false) 4 <| Pk0 (rfl : false = false) <| Vs 1 ?_
     obtain rfl := Aa h67
     exact Up ⟨rfl, F4, hs62.dr0.dr0, ((le41.t le52).trans le63), fI⟩
   ·refine Ss hb54 3 ?_
    refine Pk0 hb54 <| Vs 1 <| Ss (rfl : false = false) 3 <| Pk0 (rfl : false = false) <| Vs 1 <| Ss (rfl : false = false) 3 <| Pk0 (rfl : false = false) <| Vs 1 <| Ss (rfl : false = false) 4 <| Pk0 (rfl : false = false) <| Vs 1 <| Ss (rfl : false = false) 4 <| Pk0 (rfl : false = false) <| Vs 1 ?_
    obtain rfl := Aa h56
    exact Up ⟨rfl, F3, hs51.dr0.dr0, (le41.t le52), fI⟩
  ·refine Ss hb43 3 ?_
   refine Pk0 hb43 <| Vs 1 <| Ss (rfl : false = false) 3 <| Pk0 (rfl : false = false) <| Vs 1 <| Ss (rfl : false = false) 3 <| Pk0 (rfl : false = false) <| Vs 1 <| Ss (rfl : false = false) 3 <| Pk0 (rfl : false = false) <| Vs 1 <| Ss (rfl : false = false) 4 <| Pk0 (rfl : false = false) <| Vs 1 <| Ss (rfl : false = false) 4 <| Pk0 (rfl : false = false) <| Vs 1 ?_
   obtain rfl := Aa h45
   exact Up ⟨rfl, F2, hs40.dr0.dr0, le41, fI⟩
 ·rintro f w27 ⟨F1, hs28, le29, ⟨_, rfl⟩⟩
  refine Ab <| Rt ?_
  obtain rfl := Aa h34
  exact Re [(.bool j30)] hs28 rfl
def BH (N : Nat) (x0 : Int) (x1 : Int) (x2 : Int) : Option Bool :=
 some ((decide (x0 >= x1)) && (decide (x0 <= x2)))
theorem BA : Af Tryz.prog 76 := fun _ _ => by kernel_rfl
theorem BK (N : Nat) (w0 : World) (F0 : Mem) (hF : UQ w0 F0) (x0 : Int) (x1 : Int) (x2 : Int) (r : Bool) (h : BH N x0 x1 x2 = some r) :
  Calls Tryz.prog 76 ([(vi x0), (vi x1), (vi x2)] : List Value).toArray w0 (AA w0 F0 fun F' v => v = (.bool r)) := by
 have hs0 := Uv hF
 refine Go 15 Tryz.func76 <| Sq (Rg [0] ?_)
 refine Vs 1 <| Nss (Rg (rG 9) ?_)
 refine Uz (fun f w => ∃ (F1 : Mem), HS w0 F0 w F1 [] /\ Ut F0 F1 /\ FI f [] [(6, (.bool ((decide (x0 >= x1)) && (decide (x0 <= x2)))))]) ?_ ?_
 ·refine Vs 4 ?_
  refine Uy (decide (x0 >= x1)) (fun hb26 => ?_) (fun hb26 => ?_)
  ·refine Vgs hb26 3 ?_
   refine Pk1 hb26 <| Vs 1 ?_
   exact Up ⟨rfl, F0, hs0, (Uu _), (fJ ⟨(congrArg Value.bool (I9 hb26 rfl)), trivial⟩)⟩
  ·refine Ss hb26 3 ?_
   refine Pk0 hb26 <| Vs 1 ?_
   exact Up ⟨rfl, F0, hs0, (Uu _), (fJ ⟨(congrArg Value.bool (Ja hb26 rfl)), trivial⟩)⟩
 ·rintro f w21 ⟨F1, hs22, le23, ⟨_, rfl⟩⟩
  refine Ab <| Rt ?_
  obtain rfl := Aa h
  exact Re [(.bool ((decide (x0 >= x1)) && (decide (x0 <= x2))))] hs22 rfl
def Dy (N : Nat) (x0 : Int) : Option Bool :=
 some (bif (decide (x0 >= 65)) then ((decide (x0 <= 90)) || (bif (decide (x0 >= 48)) then ((decide (x0 <= 57)) || (x0 == 47)) else (x0 == 47))) else (bif (decide (x0 >= 48)) then ((decide (x0 <= 57)) || (x0 == 47)) else (x0 == 47)))
theorem Jl : Af Tryz.prog 141 := fun _ _ => by kernel_rfl
theorem Kc (N : Nat) (w0 : World) (F0 : Mem) (hF : UQ w0 F0) (x0 : Int) (r : Bool) (h : Dy N x0 = some r) :
  Calls Tryz.prog 141 ([(.int .u8 x0)] : List Value).toArray w0 (AA w0 F0 fun F' v => v = (.bool r)) := by
 have hs0 := Uv hF
 refine Go 21 Tryz.func141 <| Sq (Rg [0] ?_)
 refine Vs 1 <| Nss (Rg (rG 19) ?_)
 refine Uz (fun f w => ∃ (F1 : Mem), HS w0 F0 w F1 [] /\ Ut F0 F1 /\ FI f [] [(2, (.bool (bif (decide (x0 >= 65)) then ((decide (x0 <= 90)) || (bif (decide (x0 >= 48)) then ((decide (x0 <= 57)) || (x0 == 47)) else (x0 == 47))) else (bif (decide (x0 >= 48)) then ((decide (x0 <= 57)) || (x0 == 47)) else (x0 == 47)))))]) ?_ ?_
 ·refine Vs 3 ?_
  refine Uy (decide (x0 >= 65)) (fun hb26 => ?_) (fun hb26 => ?_)
  ·refine Vgs hb26 2 ?_
   refine Pk1 hb26 <| Vs 1 <| Uy (decide (x0 <= 90)) (fun hb27 => ?_) (fun hb27 => ?_)
   ·refine Ss hb27 3 ?_
    refine Su' 2 <| Ss hb27 1 <| Pk1 hb27 <| Vs 1 <| Ss (rfl : true = true) 2 <| Pk1 (rfl : true = true) <| Vs 1 ?_
    exact Up ⟨rfl, F0, hs0, (Uu _), (fJ ⟨(congrArg Value.bool (Ik hb26 (FD hb27 rfl))), trivial⟩)⟩
   ·refine Vgs hb27 3 ?_
    refine Uy (decide (x0 >= 48)) (fun hb28 => ?_) (fun hb28 => ?_)
    ·refine Vgs hb28 2 ?_
     refine Pg1 hb27 hb28 <| Pk0 hb27 <| Vs 1 <| Uy (decide (x0 <= 57)) (fun hb29 => ?_) (fun hb29 => ?_)
     ·refine Ss hb29 2 ?_
      refine Pk1 hb29 <| Vs 1 ?_
      exact Up ⟨rfl, F0, hs0, (Uu _), (fJ ⟨(congrArg Value.bool (Ik hb26 (Cn hb27 (Ik hb28 (FD hb29 rfl))))), trivial⟩)⟩
     ·refine Vgs hb29 2 ?_
      refine Pk0 hb29 <| Vs 1 ?_
      exact Up ⟨rfl, F0, hs0, (Uu _), (fJ ⟨(congrArg Value.bool (Ik hb26 (Cn hb27 (Ik hb28 (Cn hb29 rfl))))), trivial⟩)⟩
    ·refine Ss hb28 2 ?_
     refine Pg0 hb27 hb28 <| Pk0 hb27 <| Vs 1 <| Vg 18 5 14 false 17 rfl (mv 0 (.int .u8 x0)) <| Vg 19 4 14 false 17 rfl (EZ (t := 5) (t' := 5) (x := (.tmp 18)) (y := (.const (.int .u8 47))) (k := .u8) (a := x0) (b := 47) rfl rfl) <| Pk0 (rfl : false = false) <| Vs 1 ?_
     exact Up ⟨rfl, F0, hs0, (Uu _), (fJ ⟨(congrArg Value.bool (Ik hb26 (Cn hb27 (Km hb28 rfl)))), trivial⟩)⟩
  ·refine Ss hb26 2 ?_
   refine Pk0 hb26 <| Vs 1 <| Vg 10 5 6 false 9 rfl (mv 0 (.int .u8 x0)) <| Vg 11 4 6 false 9 rfl (N8 (t := 5) (t' := 5) (x := (.tmp 10)) (y := (.const (.int .u8 48))) (k := .u8) (a := x0) (b := 48) rfl rfl) <| Vg 12 4 6 false 9 rfl (mv 11 (.bool (decide (x0 >= 48)))) <| Uy (decide (x0 >= 48)) (fun hb30 => ?_) (fun hb30 => ?_)
   ·refine Vgs hb30 2 ?_
    refine Vg 15 4 6 false 9 rfl (p1 12 (.tmp 14) (.const (.bool false)) (.bool (decide (x0 <= 57))) hb30) <| Pk0 (rfl : false = false) <| Vs 1 <| Uy (decide (x0 <= 57)) (fun hb31 => ?_) (fun hb31 => ?_)
    ·refine Ss hb31 2 ?_
     refine Pk1 hb31 <| Vs 1 ?_
     exact Up ⟨rfl, F0, hs0, (Uu _), (fJ ⟨(congrArg Value.bool (Km hb26 (Ik hb30 (FD hb31 rfl)))), trivial⟩)⟩
    ·refine Vgs hb31 2 ?_
     refine Pk0 hb31 <| Vs 1 ?_
     exact Up ⟨rfl, F0, hs0, (Uu _), (fJ ⟨(congrArg Value.bool (Km hb26 (Ik hb30 (Cn hb31 rfl)))), trivial⟩)⟩
   ·refine Ss hb30 2 ?_
    refine Vg 15 4 6 false 9 rfl (p0 12 (.tmp 14) (.const (.bool false)) (.bool false) hb30) <| Pk0 (rfl : false = false) <| Vs 1 <| Vg 18 5 14 false 17 rfl (mv 0 (.int .u8 x0)) <| Vg 19 4 14 false 17 rfl (EZ (t := 5) (t' := 5) (x := (.tmp 18)) (y := (.const (.int .u8 47))) (k := .u8) (a := x0) (b := 47) rfl rfl) <| Pk0 (rfl : false = false) <| Vs 1 ?_
    exact Up ⟨rfl, F0, hs0, (Uu _), (fJ ⟨(congrArg Value.bool (Km hb26 (Km hb30 rfl))), trivial⟩)⟩
 ·rintro f w21 ⟨F1, hs22, le23, ⟨_, rfl⟩⟩
  refine Ab <| Rt ?_
  obtain rfl := Aa h
  exact Re [(.bool (bif (decide (x0 >= 65)) then ((decide (x0 <= 90)) || (bif (decide (x0 >= 48)) then ((decide (x0 <= 57)) || (x0 == 47)) else (x0 == 47))) else (bif (decide (x0 >= 48)) then ((decide (x0 <= 57)) || (x0 == 47)) else (x0 == 47))))] hs22 rfl
def D0 (N : Nat) (x0 : UO) : Int -> Option (Ba Bool Int) := fun s34 =>
 (bif (decide (s34 < (x0.length : Int))) then ((JG x0 s34).bind fun c55 => ((Dy N c55).bind fun r58 => (bif (!r58) then some (.ret false) else some (.next (W64 (s34 + 1)))))) else some (.done s34))
def FJ (N : Nat) (x0 : UO) : Option Bool :=
 (bif ((decide ((x0.length : Int) < 1)) || (decide ((x0.length : Int) > 16))) then some false else ((AO (D0 N x0) N 0).bind fun o => o.k (fun r => some r) (fun s41 => some true)))
theorem MH : Af Tryz.prog 77 := fun _ _ => by kernel_rfl
theorem Nn (N : Nat) (w0 : World) (F0 : Mem) (hF : UQ w0 F0) (x0 : UO) (r : Bool) (h : FJ N x0 = some r) :
  Calls Tryz.prog 77 ([(sv x0)] : List Value).toArray w0 (AA w0 F0 fun F' v => v = (.bool r)) := by
 have hs0 := Uv hF
 refine Go 23 Tryz.func77 <| Sq (Rg [0] ?_)
 refine Vs 1 <| Nss <| Sq (Rg (rG 8) ?_)
 refine Uz (fun f w => ∃ (F1 : Mem), HS w0 F0 w F1 [] /\ Ut F0 F1 /\ FI f [] [(0, (sv x0)), (11, (.bool ((decide ((x0.length : Int) < 1)) || (decide ((x0.length : Int) > 16)))))]) ?_ ?_
 ·refine Vs 4 ?_
  refine Uy (decide ((x0.length : Int) < 1)) (fun hb27 => ?_) (fun hb27 => ?_)
  ·refine Ss hb27 3 ?_
   refine Pk1 hb27 ?_
   exact Up ⟨rfl, F0, hs0, (Uu _), (fJ ⟨rfl, (congrArg Value.bool (FD hb27 rfl)), trivial⟩)⟩
  ·refine Vgs hb27 3 ?_
   refine Pk0 hb27 ?_
   exact Up ⟨rfl, F0, hs0, (Uu _), (fJ ⟨rfl, (congrArg Value.bool (Cn hb27 rfl)), trivial⟩)⟩
 ·rintro f w21 ⟨F1, hs22, le23, ⟨_, rfl⟩⟩
  refine Ab <| Cd h (fun hb28 h29 => ?_) (fun hb28 h30 => ?_)
  ·refine Sq (Rg [0] ?_)
   refine Vs 1 <| Nt <| Rt <| Ae ?_
   obtain rfl := Aa h29
   exact Re [(.bool false)] hs22 rfl
  ·refine Sc ?_
   refine Ab <| Sq <| Sq (Rg [0] ?_)
   refine Vs 1 <| Nt ?_
   obtain ⟨o31, ho32, h33⟩ := bind_some h30
   refine UA (fun f w => ∃ (s41 : Int) (F3 : Mem), o31 = .done s41 /\ HS w0 F0 w F3 [] /\ Ut F1 F3 /\ FI f [] []) ?_ ?_
   ·refine Bk ?_
    refine Us (by kernel_rfl) (fun m f w => ∃ (s34 : Int) (F2 : Mem), AO (D0 N x0) m s34 = some o31 /\ HS w0 F0 w F2 [] /\ Ut F1 F2 /\ FI f [] [(0, (sv x0)), (3, (vi s34))]) N ⟨0, F1, ho32, hs22, (Uu _), fI⟩ ?_
    rintro m46 f w35 ⟨s34, F2, hit47, hs36, le37, ⟨_, rfl⟩⟩
    obtain ⟨m48, fl49, rfl, hb50, hnx51⟩ := AD hit47
    refine Sq <| Sq (Rg (rG 4) ?_)
    refine Vs 4 <| Nt <| Cd hb50 (fun hb52 h53 => ?_) (fun hb52 h54 => ?_)
    ·refine Sc ?_
     refine Ab <| Sq <| Bk <| Sq (Rg (rG 5) ?_)
     refine Vs 2 ?_
     obtain ⟨c55, hr56, h57⟩ := bind_some h53
     refine V 20 5 (DW (t := 9) (x := (.tmp 18)) (y := (.tmp 19)) (a := x0) (k := .i64) (i := s34) (v := c55) rfl rfl (by kernel_rfl) hr56) ?_
     obtain ⟨r58, hr59, h60⟩ := bind_some h57
     refine Cl' Jl hs36 (Kc N w35 F2 hs36.pers c55 _ hr59) ?_
     rintro _ F4 w62 hs63 le64 rfl
     refine Vs 1 <| Nt <| Cd h60 (fun hb66 h67 => ?_) (fun hb66 h68 => ?_)
     ·refine Sq (Rg [0] ?_)
      refine Vs 1 <| Nt <| Rt <| Ax <| Ae <| Ae <| Ax ?_
      have hret := BV h67 hnx51
      subst hret
      refine .inr <| Ae ?_
      obtain rfl := Aa h33
      exact Re [(.bool false)] hs63 rfl
     ·refine Sc ?_
      refine Aq <| Ab <| Rg [0, 1, 2] <| Vs 3 <| Up ?_
      have hn69 := AJ h68 hnx51
      exact ⟨m48, Nat.lt_succ_self _, (W64 (s34 + 1)), F4, hn69, hs63, (le37.t le64), fI⟩
    ·refine Ex ?_
     refine Ao <| Ao <| Ay rfl ?_
     have ho70 := AE h54 hnx51
     exact .inl ⟨rfl, s34, F2, ho70, hs36, le37, fI⟩
   ·rintro f w42 ⟨s41, F3, rfl, hs43, le44, ⟨_, rfl⟩⟩
    have h71 := Bc h33
    refine Ab <| Sq (Rg [0] ?_)
    refine Vs 1 <| Nt <| Rt ?_
    obtain rfl := Aa h71
    exact Re [(.bool true)] hs43 rfl
def B1 (N : Nat) (x0 : Ac) (x1 : Line) : Option Bool :=
 (((BH N x1.Num 1 65535).bind fun r37 => (bif (!r37) then some true else ((BH N x1.Khz 1 10000000).bind fun r48 => (bif (!r48) then some true else ((BH N x1.Mode 1 3).bind fun r59 => (bif (!r59) then some true else ((BH N x1.Minute 0 20000).bind fun r70 => some (!r70)))))))).bind fun j30 => (bif j30 then some false else (((FJ N x1.Call).bind fun r89 => (bif r89 then ((BP N ({ Report := x0.Report, Serial := x0.Serial, Zone := x0.Zone } : Ac) ({ Report := x1.Sent.Report, Serial := x1.Sent.Serial, Zone := x1.Sent.Zone } : Ad)).bind fun r100 => (bif r100 then ((BP N ({ Report := x0.Report, Serial := x0.Serial, Zone := x0.Zone } : Ac) ({ Report := x1.Got.Report, Serial := x1.Got.Serial, Zone := x1.Got.Zone } : Ad)).bind fun r111 => some r111) else some false)) else some false)).bind fun j84 => some j84)))
theorem Fo : Af Tryz.prog 22 := fun _ _ => by kernel_rfl
theorem Ga (N : Nat) (w0 : World) (F0 : Mem) (hF : UQ w0 F0) (x0 : Ac) (x1 : Line) (r : Bool) (h : B1 N x0 x1 = some r) :
  Calls Tryz.prog 22 ([(.agg (Ag x0)), (.agg (BN x1))] : List Value).toArray w0 (AA w0 F0 fun F' v => v = (.bool r)) := by
 have hs0 := Uv hF
 refine Go 42 Tryz.func22 <| Sq (Rg [0, 1, 2] ?_)
 refine Bx' 23 (Ag x0) hs0 (fun b21 w22 hs23 => ?_)
 refine Bx' 34 (BN x1) hs23 (fun b24 w25 hs26 => ?_)
 refine Vs 1 <| Nss <| Sq (Rg (rG 22) ?_)
 obtain ⟨j30, hj35, h36⟩ := bind_some h
 refine Uz (fun f w => ∃ (F1 : Mem), HS w0 F0 w F1 [(sb b24 (BN x1) 34), (sb b21 (Ag x0) 23)] /\ Ut F0 F1 /\ FI f [] [(2, (pt b21 0)), (3, (pt b24 0)), (26, (.bool j30))]) ?_ ?_
 ·refine Vs 1 ?_
  refine Ld hs26.at0 ?_
  obtain ⟨r37, hr38, h39⟩ := bind_some hj35
  refine Cl' BA hs26 (BK N w25 F0 hs26.pers x1.Num 1 65535 _ hr38) ?_
  rintro _ F2 w41 hs42 le43 rfl
  refine Vs 2 <| Sp h39 (fun hb45 h46 => ?_) (fun hb45 h47 => ?_)
  ·refine Ss hb45 4 ?_
   refine Pk1 hb45 <| Vs 1 <| Ss (rfl : true = true) 4 <| Pk1 (rfl : true = true) <| Vs 1 <| Ss (rfl : true = true) 4 <| Pk1 (rfl : true = true) ?_
   obtain rfl := Aa h46
   exact Up ⟨rfl, F2, hs42, le43, fI⟩
  ·refine Vgs hb45 1 ?_
   refine Lg hb45 hs42.at0 ?_
   obtain ⟨r48, hr49, h50⟩ := bind_some h47
   refine Cg hb45 BA hs42 (BK N w41 F2 hs42.pers x1.Khz 1 10000000 _ hr49) ?_
   rintro _ F3 w52 hs53 le54 rfl
   refine Vgs hb45 1 <| Pk0 hb45 <| Vs 1 <| Sp h50 (fun hb56 h57 => ?_) (fun hb56 h58 => ?_)
   ·refine Ss hb56 4 ?_
    refine Pk1 hb56 <| Vs 1 <| Ss (rfl : true = true) 4 <| Pk1 (rfl : true = true) ?_
    obtain rfl := Aa h57
    exact Up ⟨rfl, F3, hs53, (le43.t le54), fI⟩
   ·refine Vgs hb56 1 ?_
    refine Lg hb56 hs53.at0 ?_
    obtain ⟨r59, hr60, h61⟩ := bind_some h58
    refine Cg hb56 BA hs53 (BK N w52 F3 hs53.pers x1.Mode 1 3 _ hr60) ?_
    rintro _ F4 w63 hs64 le65 rfl
    refine Vgs hb56 1 <| Pk0 hb56 <| Vs 1 <| Sp h61 (fun hb67 h68 => ?_) (fun hb67 h69 => ?_)
    ·refine Ss hb67 4 ?_
     refine Pk1 hb67 ?_
     obtain rfl := Aa h68
     exact Up ⟨rfl, F4, hs64, ((le43.t le54).trans le65), fI⟩
    ·refine Vgs hb67 1 ?_
     refine Lg hb67 hs64.at0 ?_
     obtain ⟨r70, hr71, h72⟩ := bind_some h69
     refine Cg hb67 BA hs64 (BK N w63 F4 hs64.pers x1.Minute 0 20000 _ hr71) ?_
     rintro _ F5 w74 hs75 le76 rfl
     refine Vgs hb67 1 <| Pk0 hb67 ?_
     obtain rfl := Aa h72
     exact Up ⟨rfl, F5, hs75, (((le43.t le54).trans le65).trans le76), fI⟩
 ·rintro f w27 ⟨F1, hs28, le29, ⟨_, rfl⟩⟩
  refine Ab <| Cd h36 (fun hb78 h79 => ?_) (fun hb78 h80 => ?_)
  ·refine Sq (Rg [0] ?_)
   refine Vs 1 <| Nt <| Rt <| Ae ?_
   obtain rfl := Aa h79
   exact Re [(.bool false)] hs28 rfl
  ·refine Sc ?_
   refine Ab <| Sq (Rg (rG 16) ?_)
   obtain ⟨j84, hj87, h88⟩ := bind_some h80
   refine Uz (fun f w => ∃ (F6 : Mem), HS w0 F0 w F6 [] /\ Ut F1 F6 /\ FI f [] [(4, (.bool j84))]) ?_ ?_
   ·refine Vs 1 ?_
    refine Ld hs28.at0 ?_
    obtain ⟨r89, hr90, h91⟩ := bind_some hj87
    refine Cl' MH hs28 (Nn N w27 F1 hs28.pers x1.Call _ hr90) ?_
    rintro _ F7 w93 hs94 le95 rfl
    refine Vs 1 <| Sp h91 (fun hb97 h98 => ?_) (fun hb97 h99 => ?_)
    ·refine Lg hb97 hs94.at1 ?_
     refine Vgs hb97 1 <| Lg hb97 hs94.at0 ?_
     obtain ⟨r100, hr101, h102⟩ := bind_some h98
     refine Cg hb97 D9 hs94 (Ek N w93 F7 hs94.pers (({ Report := x0.Report, Serial := x0.Serial, Zone := x0.Zone } : Ac)) (({ Report := x1.Sent.Report, Serial := x1.Sent.Serial, Zone := x1.Sent.Zone } : Ad)) _ hr101) ?_
     rintro _ F8 w104 hs105 le106 rfl
     refine Pk1 hb97 <| Vs 1 <| Sp h102 (fun hb108 h109 => ?_) (fun hb108 h110 => ?_)
     ·refine Lg hb108 hs105.at1 ?_
      refine Vgs hb108 1 <| Lg hb108 hs105.at0 ?_
      obtain ⟨r111, hr112, h113⟩ := bind_some h109
      refine Cg hb108 D9 hs105 (Ek N w104 F8 hs105.pers (({ Report := x0.Report, Serial := x0.Serial, Zone := x0.Zone } : Ac)) (({ Report := x1.Got.Report, Serial := x1.Got.Serial, Zone := x1.Got.Zone } : Ad)) _ hr112) ?_
      rintro _ F9 w115 hs116 le117 rfl
      refine Pk1 hb108 <| Vs 1 ?_
      obtain rfl := Aa h113
      exact Up ⟨rfl, F9, hs116.dr0.dr0, ((le95.t le106).trans le117), fI⟩
     ·refine Ss hb108 4 ?_
      refine Pk0 hb108 <| Vs 1 ?_
      obtain rfl := Aa h110
      exact Up ⟨rfl, F8, hs105.dr0.dr0, (le95.t le106), fI⟩
    ·refine Ss hb97 4 ?_
     refine Pk0 hb97 <| Vs 1 <| Ss (rfl : false = false) 4 <| Pk0 (rfl : false = false) <| Vs 1 ?_
     obtain rfl := Aa h99
     exact Up ⟨rfl, F7, hs94.dr0.dr0, le95, fI⟩
   ·rintro f w81 ⟨F6, hs82, le83, ⟨_, rfl⟩⟩
    refine Ab <| Rt ?_
    obtain rfl := Aa h88
    exact Re [(.bool j84)] hs82 rfl
def Eu (N : Nat) (x0 : (List Int)) : Int -> Option (Ba Bool Int) := fun s24 =>
 (bif (decide (s24 < (x0.length : Int))) then ((idx x0 s24).bind fun x48 => (((AP N x48 1 20000).bind fun r74 => (bif (!r74) then some true else (bif (decide (s24 > 0)) then ((idx x0 (W64 (s24 - 1))).bind fun x88 => some (decide (x48 <= x88))) else some false))).bind fun j65 => (bif j65 then some (.ret false) else some (.next (W64 (s24 + 1)))))) else some (.done s24))
def En (N : Nat) (x0 : (List Int)) : Option Bool :=
 ((AO (Eu N x0) N 0).bind fun o => o.k (fun r => some r) (fun s33 => some (decide ((x0.length : Int) <= 16))))
theorem Gh : Af Tryz.prog 80 := fun _ _ => by kernel_rfl
theorem G5 (N : Nat) (w0 : World) (F0 : Mem) (hF : UQ w0 F0) (x0 : (List Int)) (a0_0 : UP) (n0_0 : Nat) (hb0_0 : LC x0.length n0_0) (hs0_0 : SlA AH F0 a0_0 x0) (r : Bool) (h : En N x0 = some r) :
  Calls Tryz.prog 80 ([(.slice a0_0 x0.length n0_0)] : List Value).toArray w0 (AA w0 F0 fun F' v => v = (.bool r)) := by
 have hs0 := Uv hF
 refine Go 32 Tryz.func80 <| Sq (Rg [0] ?_)
 refine Vs 1 <| Nss <| Sq (Rg [0, 1, 2] ?_)
 refine Vs 3 <| Nt ?_
 obtain ⟨o21, ho22, h23⟩ := bind_some h
 refine UA (fun f w => ∃ (s33 : Int) (F2 : Mem), o21 = .done s33 /\ HS w0 F0 w F2 [] /\ Ut F0 F2 /\ FI f [] [(0, (.slice a0_0 x0.length n0_0))]) ?_ ?_
 ·refine Bk ?_
  refine Us (by kernel_rfl) (fun m f w => ∃ (s24 : Int) (F1 : Mem), AO (Eu N x0) m s24 = some o21 /\ HS w0 F0 w F1 [] /\ Ut F0 F1 /\ FI f [] [(0, (.slice a0_0 x0.length n0_0)), (5, (.slice a0_0 x0.length n0_0)), (6, (vi (x0.length : Int))), (7, (vi s24))]) N ⟨0, F0, ho22, hs0, (Uu _), fI⟩ ?_
  rintro m39 f w25 ⟨s24, F1, hit40, hs26, le27, ⟨_, rfl⟩⟩
  obtain ⟨m41, fl42, rfl, hb43, hnx44⟩ := AD hit40
  refine Sq (Rg [0] ?_)
  refine Vs 1 <| Nss <| Cd hb43 (fun hb45 h46 => ?_) (fun hb45 h47 => ?_)
  ·refine Sc ?_
   refine Ab <| Sq <| Bk <| Sq (Rg (rG 5) ?_)
   refine Vs 1 ?_
   obtain ⟨x48, hx49, h51⟩ := bind_some h46
   obtain ⟨hi50, hx49'⟩ := Ak hx49
   obtain ⟨b52, o53, C54, E55, fz56, rfl, hF58, hE59⟩ := UB (Uw hs0_0 le27) hx49'
   have hc61 := hE59 _ _ hx49'
   refine Ix hi50 <| Lx 0 (hs26.pers _ _ hF58) hc61 <| Vs 2 <| Nss (Rg (rG 16) ?_)
   obtain ⟨j65, hj72, h73⟩ := bind_some h51
   refine Uz (fun f w => ∃ (F3 : Mem), HS w0 F0 w F3 [] /\ Ut F1 F3 /\ FI f [] [(0, (.slice (some ⟨b52, o53, none⟩) x0.length n0_0)), (5, (.slice (some ⟨b52, o53, none⟩) x0.length n0_0)), (6, (vi (x0.length : Int))), (7, (vi s24)), (27, (.bool j65))]) ?_ ?_
   ·refine Vs 1 ?_
    obtain ⟨r74, hr75, h76⟩ := bind_some hj72
    refine Cl' AG hs26 (AN N w25 F1 hs26.pers x48 1 20000 _ hr75) ?_
    rintro _ F4 w78 hs79 le80 rfl
    refine Vs 2 <| Sp h76 (fun hb82 h83 => ?_) (fun hb82 h84 => ?_)
    ·refine Ss hb82 3 ?_
     refine Su' 7 <| Ss hb82 1 <| Pk1 hb82 ?_
     obtain rfl := Aa h83
     exact Up ⟨rfl, F4, hs79, le80, fI⟩
    ·refine Vgs hb82 3 ?_
     refine Sp h84 (fun hb85 h86 => ?_) (fun hb85 h87 => ?_)
     ·refine Vgs hb85 4 ?_
      obtain ⟨x88, hx89, h91⟩ := bind_some h86
      obtain ⟨hi90, hx89'⟩ := Ak hx89
      have hc93 := hE59 _ _ hx89'
      refine Ixg hb85 hi90 <| Lxg hb85 0 (hs79.pers _ _ (le80 _ _ hF58)) hc93 <| Vgs hb85 1 <| Pg1 hb82 hb85 <| Pk0 hb82 ?_
      obtain rfl := Aa h91
      exact Up ⟨rfl, F4, hs79, le80, fI⟩
     ·refine Ss hb85 7 ?_
      refine Pg0 hb82 hb85 <| Pk0 hb82 ?_
      obtain rfl := Aa h87
      exact Up ⟨rfl, F4, hs79, le80, fI⟩
   ·rintro f w62 ⟨F3, hs63, le64, ⟨_, rfl⟩⟩
    refine Ab <| Cd h73 (fun hb94 h95 => ?_) (fun hb94 h96 => ?_)
    ·refine Sq (Rg [0] ?_)
     refine Vs 1 <| Nt <| Rt <| Ax <| Ae <| Ae <| Ax ?_
     have hret := BV h95 hnx44
     subst hret
     refine .inr <| Ae ?_
     obtain rfl := Aa h23
     exact Re [(.bool false)] hs63 rfl
    ·refine Sc ?_
     refine Aq <| Ab <| Rg [0, 1] <| Vs 2 <| Up ?_
     have hn97 := AJ h96 hnx44
     exact ⟨m41, Nat.lt_succ_self _, (W64 (s24 + 1)), F3, hn97, hs63, (le27.t le64), fI⟩
  ·refine Ex ?_
   refine Ao <| Ao <| Ay rfl ?_
   have ho98 := AE h47 hnx44
   exact .inl ⟨rfl, s24, F1, ho98, hs26, le27, fI⟩
 ·rintro f w34 ⟨s33, F2, rfl, hs35, le36, ⟨_, rfl⟩⟩
  have h99 := Bc h23
  refine Ab <| Sq (Rg (rG 4) ?_)
  refine Vs 4 <| Nt <| Rt ?_
  obtain rfl := Aa h99
  exact Re [(.bool (decide ((x0.length : Int) <= 16)))] hs35 rfl
def Dq (N : Nat) (x0 : Ac) (x1 : Log) (j41 : Bool) : Int -> Option (Ba (Int × Int) Int) := fun s106 =>
 (bif (decide (s106 < (x1.Lines.length : Int))) then ((idx x1.Lines s106).bind fun x130 => (((BU N ({ Report := x0.Report, Serial := x0.Serial, Zone := x0.Zone } : Ac) x130).bind fun r165 => (bif (!r165) then some true else (bif (decide (s106 > 0)) then ((idx x1.Lines (W64 (s106 - 1))).bind fun x179 => (bif (decide (x130.Num <= x179.Num)) then some true else ((idx x1.Lines (W64 (s106 - 1))).bind fun x188 => some (decide (x130.Minute < x188.Minute))))) else some false))).bind fun j154 => (bif j154 then some (.ret (21, (W64 (s106 + 1)))) else some (.next (W64 (s106 + 1)))))) else some (.done s106))
def Cw (N : Nat) (x0 : Ac) (x1 : Log) : Option (Int × Int) :=
 (bif ((decide ((x1.Jumps.length : Int) > 16)) || (decide ((x1.Lines.length : Int) > 400))) then some (2, 0) else (((Dw N x1.Call).bind fun r48 => (bif (!r48) then some true else ((AP N x1.Category 1 9).bind fun r59 => (bif (!r59) then some true else ((AP N x1.Power 1 9999).bind fun r70 => (bif (!r70) then some true else ((AP N x1.Claimed 0 1000000).bind fun r81 => (bif (!r81) then some true else ((En N x1.Jumps).bind fun r92 => some (!r92)))))))))).bind fun j41 => (bif j41 then some (21, 0) else ((AO (Dq N x0 x1 j41) N 0).bind fun o => o.k (fun r => some r) (fun s116 => some (0, 0))))))
theorem EA : Af Tryz.prog 23 := fun _ _ => by kernel_rfl
theorem E8 (N : Nat) (w0 : World) (F0 : Mem) (hF : UQ w0 F0) (hG : Bm F0) (x0 : Ac) (x1 : Log) (a1_4 : UP) (n1_4 : Nat) (hb1_4 : LC x1.Jumps.length n1_4) (hs1_4 : SlA AH F0 a1_4 x1.Jumps) (a1_5 : UP) (n1_5 : Nat) (hb1_5 : LC x1.Lines.length n1_5) (hs1_5 : SlA AF F0 a1_5 x1.Lines) (r : (Int × Int)) (h : Cw N x0 x1 = some r) :
  Calls Tryz.prog 23 ([(.agg (Ag x0)), (.agg (AC x1 a1_4 n1_4 a1_5 n1_5))] : List Value).toArray w0 (AA w0 F0 fun F' v => v = (.tuple #[(vi r.1), (vi r.2)])) := by
 have hs0 := Uv hF
 refine Go 89 Tryz.func23 <| Sq (Rg (rG 4) ?_)
 refine Bx' 23 (Ag x0) hs0 (fun b21 w22 hs23 => ?_)
 refine Bx' 27 (AC x1 a1_4 n1_4 a1_5 n1_5) hs23 (fun b24 w25 hs26 => ?_)
 refine Vs 2 <| Nss <| Sq (Rg (rG 10) ?_)
 refine Uz (fun f w => ∃ (F1 : Mem), HS w0 F0 w F1 [(sb b24 (AC x1 a1_4 n1_4 a1_5 n1_5) 27), (sb b21 (Ag x0) 23)] /\ Ut F0 F1 /\ FI f [] [(2, (pt b21 0)), (3, (pt b24 0)), (17, (.bool ((decide ((x1.Jumps.length : Int) > 16)) || (decide ((x1.Lines.length : Int) > 400)))))]) ?_ ?_
 ·refine Vs 1 ?_
  refine Ld hs26.at0 <| Vs 3 <| Uy (decide ((x1.Jumps.length : Int) > 16)) (fun hb34 => ?_) (fun hb34 => ?_)
  ·refine Ss hb34 4 ?_
   refine Pk1 hb34 ?_
   exact Up ⟨rfl, F0, hs26, (Uu _), (fJ ⟨rfl, rfl, (congrArg Value.bool (FD hb34 rfl)), trivial⟩)⟩
  ·refine Vgs hb34 1 ?_
   refine Lg hb34 hs26.at0 <| Vgs hb34 2 <| Pk0 hb34 ?_
   exact Up ⟨rfl, F0, hs26, (Uu _), (fJ ⟨rfl, rfl, (congrArg Value.bool (Cn hb34 rfl)), trivial⟩)⟩
 ·rintro f w27 ⟨F1, hs28, le29, ⟨_, rfl⟩⟩
  refine Ab <| Cd h (fun hb35 h36 => ?_) (fun hb35 h37 => ?_)
  ·refine Sq (Rg [0, 1] ?_)
   refine Vs 2 <| Nt <| Rt <| Ae ?_
   obtain rfl := Aa h36
   exact Re [(vi 2), (vi 0)] hs28 rfl
  ·refine Sc ?_
   refine Ab <| Sq <| Sq (Rg (rG 28) ?_)
   obtain ⟨j41, hj46, h47⟩ := bind_some h37
   refine Uz (fun f w => ∃ (F2 : Mem), HS w0 F0 w F2 [(sb b24 (AC x1 a1_4 n1_4 a1_5 n1_5) 27), (sb b21 (Ag x0) 23)] /\ Ut F1 F2 /\ FI f [] [(2, (pt b21 0)), (3, (pt b24 0)), (45, (.bool j41))]) ?_ ?_
   ·refine Vs 1 ?_
    refine Ld hs28.at0 ?_
    obtain ⟨r48, hr49, h50⟩ := bind_some hj46
    refine Cl' Eo hs28 (ES N w27 F1 hs28.pers (hG.mono le29) x1.Call _ hr49) ?_
    rintro _ F3 w52 hs53 le54 rfl
    refine Vs 2 <| Sp h50 (fun hb56 h57 => ?_) (fun hb56 h58 => ?_)
    ·refine Ss hb56 4 ?_
     refine Pk1 hb56 <| Vs 1 <| Ss (rfl : true = true) 4 <| Pk1 (rfl : true = true) <| Vs 1 <| Ss (rfl : true = true) 4 <| Pk1 (rfl : true = true) <| Vs 1 <| Ss (rfl : true = true) 4 <| Pk1 (rfl : true = true) ?_
     obtain rfl := Aa h57
     exact Up ⟨rfl, F3, hs53, le54, fI⟩
    ·refine Vgs hb56 1 ?_
     refine Lg hb56 hs53.at0 ?_
     obtain ⟨r59, hr60, h61⟩ := bind_some h58
     refine Cg hb56 AG hs53 (AN N w52 F3 hs53.pers x1.Category 1 9 _ hr60) ?_
     rintro _ F4 w63 hs64 le65 rfl
     refine Vgs hb56 1 <| Pk0 hb56 <| Vs 1 <| Sp h61 (fun hb67 h68 => ?_) (fun hb67 h69 => ?_)
     ·refine Ss hb67 4 ?_
      refine Pk1 hb67 <| Vs 1 <| Ss (rfl : true = true) 4 <| Pk1 (rfl : true = true) <| Vs 1 <| Ss (rfl : true = true) 4 <| Pk1 (rfl : true = true) ?_
      obtain rfl := Aa h68
      exact Up ⟨rfl, F4, hs64, (le54.t le65), fI⟩
     ·refine Vgs hb67 1 ?_
      refine Lg hb67 hs64.at0 ?_
      obtain ⟨r70, hr71, h72⟩ := bind_some h69
      refine Cg hb67 AG hs64 (AN N w63 F4 hs64.pers x1.Power 1 9999 _ hr71) ?_
      rintro _ F5 w74 hs75 le76 rfl
      refine Vgs hb67 1 <| Pk0 hb67 <| Vs 1 <| Sp h72 (fun hb78 h79 => ?_) (fun hb78 h80 => ?_)
      ·refine Ss hb78 4 ?_
       refine Pk1 hb78 <| Vs 1 <| Ss (rfl : true = true) 4 <| Pk1 (rfl : true = true) ?_
       obtain rfl := Aa h79
       exact Up ⟨rfl, F5, hs75, ((le54.t le65).trans le76), fI⟩
      ·refine Vgs hb78 1 ?_
       refine Lg hb78 hs75.at0 ?_
       obtain ⟨r81, hr82, h83⟩ := bind_some h80
       refine Cg hb78 AG hs75 (AN N w74 F5 hs75.pers x1.Claimed 0 1000000 _ hr82) ?_
       rintro _ F6 w85 hs86 le87 rfl
       refine Vgs hb78 1 <| Pk0 hb78 <| Vs 1 <| Sp h83 (fun hb89 h90 => ?_) (fun hb89 h91 => ?_)
       ·refine Ss hb89 4 ?_
        refine Pk1 hb89 ?_
        obtain rfl := Aa h90
        exact Up ⟨rfl, F6, hs86, (((le54.t le65).trans le76).trans le87), fI⟩
       ·refine Vgs hb89 1 ?_
        refine Lg hb89 hs86.at0 ?_
        obtain ⟨r92, hr93, h94⟩ := bind_some h91
        refine Cg hb89 Gh hs86 (G5 N w85 F6 hs86.pers x1.Jumps a1_4 n1_4 hb1_4 (Uw hs1_4 ((((le29.t le54).trans le65).trans le76).trans le87)) _ hr93) ?_
        rintro _ F7 w96 hs97 le98 rfl
        refine Vgs hb89 1 <| Pk0 hb89 ?_
        obtain rfl := Aa h94
        exact Up ⟨rfl, F7, hs97, ((((le54.t le65).trans le76).trans le87).trans le98), fI⟩
   ·rintro f w38 ⟨F2, hs39, le40, ⟨_, rfl⟩⟩
    refine Ab <| Cd h47 (fun hb100 h101 => ?_) (fun hb100 h102 => ?_)
    ·refine Sq (Rg [0, 1] ?_)
     refine Vs 2 <| Nt <| Rt <| Ae ?_
     obtain rfl := Aa h101
     exact Re [(vi 21), (vi 0)] hs39 rfl
    ·refine Sc ?_
     refine Ab <| Sq <| Sq (Rg (rG 4) ?_)
     refine Vs 1 <| Ld hs39.at0 <| Vs 2 <| Nt ?_
     obtain ⟨o103, ho104, h105⟩ := bind_some h102
     refine UA (fun f w => ∃ (s116 : Int) (F9 : Mem), o103 = .done s116 /\ HS w0 F0 w F9 [] /\ Ut F2 F9 /\ FI f [] []) ?_ ?_
     ·refine Bk ?_
      refine Us (by kernel_rfl) (fun m f w => ∃ (s106 : Int) (F8 : Mem), AO (Dq N x0 x1 j41) m s106 = some o103 /\ HS w0 F0 w F8 [(sb b24 (AC x1 a1_4 n1_4 a1_5 n1_5) 27), (sb b21 (Ag x0) 23)] /\ Ut F2 F8 /\ FI f [] [(2, (pt b21 0)), (3, (pt b24 0)), (47, (.slice a1_5 x1.Lines.length n1_5)), (48, (vi (x1.Lines.length : Int))), (49, (vi s106))]) N ⟨0, F2, ho104, hs39, (Uu _), fI⟩ ?_
      rintro m121 f w107 ⟨s106, F8, hit122, hs108, le109, ⟨_, rfl⟩⟩
      obtain ⟨m123, fl124, rfl, hb125, hnx126⟩ := AD hit122
      refine Sq (Rg [0] ?_)
      refine Vs 1 <| Nss <| Cd hb125 (fun hb127 h128 => ?_) (fun hb127 h129 => ?_)
      ·refine Sc ?_
       refine Ab <| Sq <| Bk <| Sq (Rg (rG 6) ?_)
       refine Vs 1 ?_
       obtain ⟨x130, hx131, h133⟩ := bind_some h128
       obtain ⟨hi132, hx131'⟩ := Ak hx131
       obtain ⟨b134, o135, C136, E137, fz138, rfl, hF140, hE141⟩ := UB (Uw hs1_5 ((le29.t le40).trans le109)) hx131'
       have hc143 := hE141 _ _ hx131'
       refine Ix hi132 <| Lx 0 (hs108.pers _ _ hF140) hc143 <| Al' 34 #[(vi 0), (vi 0), (vi 0), (vi 0), (sv (([] : UO))), (vi 0), (vi 0), (vi 0), (vi 0), (vi 0), (vi 0)] hs108 (fun b144 w145 hs146 => ?_)
       refine Vs 1 <| St0 (BN x130) hs146 (fun w147 hs148 => ?_)
       refine Nss ?_
       obtain ⟨j154, hj163, h164⟩ := bind_some h133
       refine RD 32 32 [(sb b144 (BN x130) 34), (sb b24 (AC x1 a1_4 n1_4 (some ⟨b134, o135, none⟩) n1_5) 27), (sb b21 (Ag x0) 23)] [] hs148 (fun f w => ∃ (F10 : Mem), HS w0 F0 w F10 [(sb b24 (AC x1 a1_4 n1_4 (some ⟨b134, o135, none⟩) n1_5) 27), (sb b21 (Ag x0) 23)] /\ Ut F8 F10 /\ FI f [] [(2, (pt b21 0)), (3, (pt b24 0)), (6, (vi s106)), (47, (.slice (some ⟨b134, o135, none⟩) x1.Lines.length n1_5)), (48, (vi (x1.Lines.length : Int))), (49, (vi s106)), (85, (.bool j154))]) (fun wd149 hw150 => ?_) ?_
       ·refine Dl 0 (fun _ hq => (hq.1.2 2 _ _ rfl)) ?_
        refine Dl 1 (fun _ hq => (hq.1.2 0 _ _ rfl)) <| D1 2 ?_
        obtain ⟨r165, hr166, h167⟩ := bind_some hj163
        refine DCl Ea hw150 (Ep N wd149 F8 hw150.pers (({ Report := x0.Report, Serial := x0.Serial, Zone := x0.Zone } : Ac)) x130 _ hr166) ?_
        rintro _ F11 w169 hs170 le171 rfl
        refine Dvl [3, 4] (tf 5 27) <| Sd h167 (fun hb173 h174 => ?_) (fun hb173 h175 => ?_)
        ·refine Dkl [(5, 59), (6, 60), (7, 61)] 4 false 58 hb173 (tf 8 24) ?_
         refine Dul [(8, 62), (9, 63), (10, 64), (11, 65), (12, 66), (13, 67)] 7 true 61 (tf 14 18) <| Dul [(14, 68), (15, 69), (16, 70), (17, 71), (18, 72)] 7 true 61 (tf 19 13) <| Dul [(19, 73), (20, 74), (21, 75), (22, 76), (23, 77), (24, 78)] 18 false 72 (tf 25 7) <| Dul [(25, 79), (26, 80), (27, 81), (28, 82)] 18 false 72 (tf 29 3) <| Dul [(29, 83)] 7 true 61 (tf 30 2) <| Dkl [(30, 84)] 4 false 58 hb173 (tf 31 1) <| Dtl 31 85 4 _ (tf 32 0) (fun _ hq => p1 58 (.const (.bool true)) (.tmp 84) (.bool true) hb173) ?_
         obtain rfl := Aa h174
         exact UG (by kernel_rfl) ⟨F11, hs170.dr0, le171, fI⟩
        ·refine Dgl 5 59 3 _ (tf 6 26) 4 false 58 hb173 (fun _ hq => mv 6 (vi s106)) ?_
         refine Dgl 6 60 4 (.bool (decide (s106 > 0))) (tf 7 25) 4 false 58 hb173 (fun _ hq => JI (t := 3) (t' := 3) (x := (.tmp 59)) (y := (.const (vi 0))) (k := .i64) (a := s106) (b := 0) rfl rfl) <| Dgl 7 61 4 _ (tf 8 24) 4 false 58 hb173 (fun _ hq => mv 60 (.bool (decide (s106 > 0)))) <| Sd h175 (fun hb176 h177 => ?_) (fun hb176 h178 => ?_)
         ·refine Dgl 8 62 0 (pt b144 0) (tf 9 23) 7 true 61 hb176 (fun _ hq => fa 34 7 0 0 1 b144 0 0) ?_
          refine Dgl 9 63 3 _ (tf 10 22) 7 true 61 hb176 (fun _ hq => ld 3 62 b144 0 false 1 (vi x130.Num) (hq.1.2 0 _ _ rfl)) <| Dgl 10 64 0 (pt b24 5) (tf 11 21) 7 true 61 hb176 (fun _ hq => fa 27 3 5 5 1 b24 0 5) <| Dgl 11 65 25 _ (tf 12 20) 7 true 61 hb176 (fun _ hq => ld 25 64 b24 5 false 1 (.slice (some ⟨b134, o135, none⟩) x1.Lines.length n1_5) (hq.1.2 1 _ _ rfl)) <| Dgl 12 66 3 _ (tf 13 19) 7 true 61 hb176 (fun _ hq => mv 6 (vi s106)) <| Dgl 13 67 3 (vi (W64 (s106 - 1))) (tf 14 18) 7 true 61 hb176 (fun _ hq => FG (t := 3) (t' := 3) (x := (.tmp 66)) (y := (.const (vi 1))) (k := .i64) (a := s106) (b := 1) rfl rfl) ?_
          obtain ⟨x179, hx180, h182⟩ := bind_some h177
          obtain ⟨hi181, hx180'⟩ := Ak hx180
          have hc184 := hE141 _ _ hx180'
          refine Dgl 14 68 0 (.pointer (some ⟨b134, (o135 + ((W64 (s106 - 1)) : Int).toNat * 11), none⟩)) (tf 15 17) 7 true 61 hb176 (fun _ hq => ix 25 65 67 b134 o135 34 11 96 hi181) <| Dgl 15 69 0 (.pointer (some ⟨b134, (o135 + ((W64 (s106 - 1)) : Int).toNat * 11), none⟩)) (tf 16 16) 7 true 61 hb176 (fun _ hq => fa 34 68 0 0 1 b134 (o135 + ((W64 (s106 - 1)) : Int).toNat * 11) (o135 + ((W64 (s106 - 1)) : Int).toNat * 11)) <| Dgl 16 70 3 _ (tf 17 15) 7 true 61 hb176 (fun _ hq => lx 3 69 0 11 false 1 (vi x179.Num) (hq.1.1 _ _ hF140) hc184) <| Dgl 17 71 4 (.bool (decide (x130.Num <= x179.Num))) (tf 18 14) 7 true 61 hb176 (fun _ hq => Iq (t := 3) (t' := 3) (x := (.tmp 63)) (y := (.tmp 70)) (k := .i64) (a := x130.Num) (b := x179.Num) rfl rfl) <| Dgl 18 72 4 _ (tf 19 13) 7 true 61 hb176 (fun _ hq => mv 71 (.bool (decide (x130.Num <= x179.Num)))) <| Sd h182 (fun hb185 h186 => ?_) (fun hb185 h187 => ?_)
          ·refine Dkl [(19, 73), (20, 74), (21, 75), (22, 76), (23, 77), (24, 78)] 18 false 72 hb185 (tf 25 7) ?_
           refine Dkl [(25, 79), (26, 80), (27, 81), (28, 82)] 18 false 72 hb185 (tf 29 3) <| Dgl 29 83 4 _ (tf 30 2) 7 true 61 hb176 (fun _ hq => p1 72 (.const (.bool true)) (.tmp 82) (.bool true) hb185) <| Dgl 30 84 4 _ (tf 31 1) 4 false 58 hb173 (fun _ hq => p1 61 (.tmp 83) (.const (.bool false)) (.bool true) hb176) <| Dtl 31 85 4 _ (tf 32 0) (fun _ hq => p0 58 (.const (.bool true)) (.tmp 84) (.bool true) hb173) ?_
           obtain rfl := Aa h186
           exact UG (by kernel_rfl) ⟨F11, hs170.dr0, le171, fI⟩
          ·refine Dgl 19 73 0 (pt b144 3) (tf 20 12) 18 false 72 hb185 (fun _ hq => fa 34 7 3 3 1 b144 0 3) ?_
           refine Dgl 20 74 3 _ (tf 21 11) 18 false 72 hb185 (fun _ hq => ld 3 73 b144 3 false 1 (vi x130.Minute) (hq.1.2 0 _ _ rfl)) <| Dgl 21 75 0 (pt b24 5) (tf 22 10) 18 false 72 hb185 (fun _ hq => fa 27 3 5 5 1 b24 0 5) <| Dgl 22 76 25 _ (tf 23 9) 18 false 72 hb185 (fun _ hq => ld 25 75 b24 5 false 1 (.slice (some ⟨b134, o135, none⟩) x1.Lines.length n1_5) (hq.1.2 1 _ _ rfl)) <| Dgl 23 77 3 _ (tf 24 8) 18 false 72 hb185 (fun _ hq => mv 6 (vi s106)) <| Dgl 24 78 3 (vi (W64 (s106 - 1))) (tf 25 7) 18 false 72 hb185 (fun _ hq => FG (t := 3) (t' := 3) (x := (.tmp 77)) (y := (.const (vi 1))) (k := .i64) (a := s106) (b := 1) rfl rfl) ?_
           obtain ⟨x188, hx189, h191⟩ := bind_some h187
           obtain ⟨hi190, hx189'⟩ := Ak hx189
           have hc193 := hE141 _ _ hx189'
           refine Dgl 25 79 0 (.pointer (some ⟨b134, (o135 + ((W64 (s106 - 1)) : Int).toNat * 11), none⟩)) (tf 26 6) 18 false 72 hb185 (fun _ hq => ix 25 76 78 b134 o135 34 11 96 hi190) <| Dgl 26 80 0 (.pointer (some ⟨b134, ((o135 + ((W64 (s106 - 1)) : Int).toNat * 11) + 3), none⟩)) (tf 27 5) 18 false 72 hb185 (fun _ hq => fa 34 79 3 3 1 b134 (o135 + ((W64 (s106 - 1)) : Int).toNat * 11) ((o135 + ((W64 (s106 - 1)) : Int).toNat * 11) + 3)) <| Dgl 27 81 3 _ (tf 28 4) 18 false 72 hb185 (fun _ hq => lx 3 80 3 11 false 1 (vi x188.Minute) (hq.1.1 _ _ hF140) hc193) <| Dgl 28 82 4 (.bool (decide (x130.Minute < x188.Minute))) (tf 29 3) 18 false 72 hb185 (fun _ hq => GT (t := 3) (t' := 3) (x := (.tmp 74)) (y := (.tmp 81)) (k := .i64) (a := x130.Minute) (b := x188.Minute) rfl rfl) <| Dgl 29 83 4 _ (tf 30 2) 7 true 61 hb176 (fun _ hq => p0 72 (.const (.bool true)) (.tmp 82) (.bool (decide (x130.Minute < x188.Minute))) hb185) <| Dgl 30 84 4 _ (tf 31 1) 4 false 58 hb173 (fun _ hq => p1 61 (.tmp 83) (.const (.bool false)) (.bool (decide (x130.Minute < x188.Minute))) hb176) <| Dtl 31 85 4 _ (tf 32 0) (fun _ hq => p0 58 (.const (.bool true)) (.tmp 84) (.bool (decide (x130.Minute < x188.Minute))) hb173) ?_
           obtain rfl := Aa h191
           exact UG (by kernel_rfl) ⟨F11, hs170.dr0, le171, fI⟩
         ·refine Dkl [(8, 62), (9, 63), (10, 64), (11, 65), (12, 66), (13, 67)] 7 true 61 hb176 (tf 14 18) ?_
          refine Dkl [(14, 68), (15, 69), (16, 70), (17, 71), (18, 72)] 7 true 61 hb176 (tf 19 13) <| Dul [(19, 73), (20, 74), (21, 75), (22, 76), (23, 77), (24, 78)] 18 false 72 (tf 25 7) <| Dul [(25, 79), (26, 80), (27, 81), (28, 82)] 18 false 72 (tf 29 3) <| Dkl [(29, 83)] 7 true 61 hb176 (tf 30 2) <| Dgl 30 84 4 _ (tf 31 1) 4 false 58 hb173 (fun _ hq => p0 61 (.tmp 83) (.const (.bool false)) (.bool false) hb176) <| Dtl 31 85 4 _ (tf 32 0) (fun _ hq => p0 58 (.const (.bool true)) (.tmp 84) (.bool false) hb173) ?_
          obtain rfl := Aa h178
          exact UG (by kernel_rfl) ⟨F11, hs170.dr0, le171, fI⟩
       ·rintro f w151 ⟨F10, hs152, le153, ⟨_, rfl⟩⟩
        refine Ab <| Cd h164 (fun hb194 h195 => ?_) (fun hb194 h196 => ?_)
        ·refine Sq (Rg (rG 4) ?_)
         refine Vs 4 <| Nt <| Rt <| Ax <| Ae <| Ae <| Ax ?_
         have hret := BV h195 hnx126
         subst hret
         refine .inr <| Ae ?_
         obtain rfl := Aa h105
         exact Re [(vi 21), (vi (W64 (s106 + 1)))] hs152 rfl
        ·refine Sc ?_
         refine Aq <| Ab <| Rg [0, 1] <| Vs 2 <| Up ?_
         have hn197 := AJ h196 hnx126
         exact ⟨m123, Nat.lt_succ_self _, (W64 (s106 + 1)), F10, hn197, hs152, (le109.t le153), fI⟩
      ·refine Ex ?_
       refine Ao <| Ao <| Ay rfl ?_
       have ho198 := AE h129 hnx126
       exact .inl ⟨rfl, s106, F8, ho198, hs108.dr0.dr0, le109, fI⟩
     ·rintro f w117 ⟨s116, F9, rfl, hs118, le119, ⟨_, rfl⟩⟩
      have h199 := Bc h105
      refine Ab <| Sq (Rg [0, 1] ?_)
      refine Vs 2 <| Nt <| Rt ?_
      obtain rfl := Aa h199
      exact Re [(vi 0), (vi 0)] hs118 rfl
def DY (N : Nat) (x0 : (List Int)) : Int -> Option (Ba Bool Int) := fun s24 =>
 (bif (decide (s24 < (x0.length : Int))) then (((idx x0 s24).bind fun x58 => ((BH N x58 1 20000).bind fun r72 => (bif (!r72) then some true else (bif (decide (s24 > 0)) then ((idx x0 s24).bind fun x86 => ((idx x0 (W64 (s24 - 1))).bind fun x92 => some (decide (x86 <= x92)))) else some false)))).bind fun j51 => (bif j51 then some (.ret false) else some (.next (W64 (s24 + 1))))) else some (.done s24))
def FH (N : Nat) (x0 : (List Int)) : Option Bool :=
 ((AO (DY N x0) N 0).bind fun o => o.k (fun r => some r) (fun s31 => some (decide ((x0.length : Int) <= 16))))
theorem MG : Af Tryz.prog 145 := fun _ _ => by kernel_rfl
theorem Nm (N : Nat) (w0 : World) (F0 : Mem) (hF : UQ w0 F0) (x0 : (List Int)) (a0_0 : UP) (n0_0 : Nat) (hb0_0 : LC x0.length n0_0) (hs0_0 : SlA AH F0 a0_0 x0) (r : Bool) (h : FH N x0 = some r) :
  Calls Tryz.prog 145 ([(.slice a0_0 x0.length n0_0)] : List Value).toArray w0 (AA w0 F0 fun F' v => v = (.bool r)) := by
 have hs0 := Uv hF
 refine Go 35 Tryz.func145 <| Sq (Rg [0] ?_)
 refine Vs 1 <| Nss <| Sq (Rg [0] ?_)
 refine Vs 1 <| Nt ?_
 obtain ⟨o21, ho22, h23⟩ := bind_some h
 refine UA (fun f w => ∃ (s31 : Int) (F2 : Mem), o21 = .done s31 /\ HS w0 F0 w F2 [] /\ Ut F0 F2 /\ FI f [] [(0, (.slice a0_0 x0.length n0_0))]) ?_ ?_
 ·refine Bk ?_
  refine Us (by kernel_rfl) (fun m f w => ∃ (s24 : Int) (F1 : Mem), AO (DY N x0) m s24 = some o21 /\ HS w0 F0 w F1 [] /\ Ut F0 F1 /\ FI f [] [(0, (.slice a0_0 x0.length n0_0)), (3, (vi s24))]) N ⟨0, F0, ho22, hs0, (Uu _), fI⟩ ?_
  rintro m37 f w25 ⟨s24, F1, hit38, hs26, le27, ⟨_, rfl⟩⟩
  obtain ⟨m39, fl40, rfl, hb41, hnx42⟩ := AD hit38
  refine Sq <| Sq (Rg (rG 4) ?_)
  refine Vs 4 <| Nt <| Cd hb41 (fun hb43 h44 => ?_) (fun hb43 h45 => ?_)
  ·refine Sc ?_
   refine Ab <| Sq <| Bk <| Sq ?_
   obtain ⟨j51, hj56, h57⟩ := bind_some h44
   refine RD 22 22 [] [] hs26 (fun f w => ∃ (F3 : Mem), HS w0 F0 w F3 [] /\ Ut F1 F3 /\ FI f [] [(0, (.slice a0_0 x0.length n0_0)), (3, (vi s24)), (31, (.bool j51))]) (fun wd46 hw47 => ?_) ?_
   ·refine Dvl [0, 1] (tf 2 20) ?_
    obtain ⟨x58, hx59, h61⟩ := bind_some hj56
    obtain ⟨hi60, hx59'⟩ := Ak hx59
    obtain ⟨b62, o63, C64, E65, fz66, rfl, hF68, hE69⟩ := UB (Uw hs0_0 le27) hx59'
    have hc71 := hE69 _ _ hx59'
    refine Di 2 hi60 <| Dx 3 0 (fun _ hq => hq.1.1 _ _ hF68) hc71 <| D1 4 ?_
    obtain ⟨r72, hr73, h74⟩ := bind_some h61
    refine DCl BA hw47 (BK N wd46 F1 hw47.pers x58 1 20000 _ hr73) ?_
    rintro _ F4 w76 hs77 le78 rfl
    refine Dvl [5, 6] (tf 7 15) <| Sd h74 (fun hb80 h81 => ?_) (fun hb80 h82 => ?_)
    ·refine Dkl [(7, 17), (8, 18), (9, 19)] 6 false 16 hb80 (tf 10 12) ?_
     refine Dul [(10, 20), (11, 21), (12, 22), (13, 23), (14, 24), (15, 25)] 9 true 19 (tf 16 6) <| Dul [(16, 26), (17, 27), (18, 28), (19, 29)] 9 true 19 (tf 20 2) <| Dkl [(20, 30)] 6 false 16 hb80 (tf 21 1) <| Dtl 21 31 4 _ (tf 22 0) (fun _ hq => p1 16 (.const (.bool true)) (.tmp 30) (.bool true) hb80) ?_
     obtain rfl := Aa h81
     exact UG (by kernel_rfl) ⟨F4, hs77, le78, fI⟩
    ·refine Dgl 7 17 3 _ (tf 8 14) 6 false 16 hb80 (fun _ hq => mv 3 (vi s24)) ?_
     refine Dgl 8 18 4 (.bool (decide (s24 > 0))) (tf 9 13) 6 false 16 hb80 (fun _ hq => JI (t := 3) (t' := 3) (x := (.tmp 17)) (y := (.const (vi 0))) (k := .i64) (a := s24) (b := 0) rfl rfl) <| Dgl 9 19 4 _ (tf 10 12) 6 false 16 hb80 (fun _ hq => mv 18 (.bool (decide (s24 > 0)))) <| Sd h82 (fun hb83 h84 => ?_) (fun hb83 h85 => ?_)
     ·refine Dgl 10 20 24 _ (tf 11 11) 9 true 19 hb83 (fun _ hq => mv 0 (.slice (some ⟨b62, o63, none⟩) x0.length n0_0)) ?_
      refine Dgl 11 21 3 _ (tf 12 10) 9 true 19 hb83 (fun _ hq => mv 3 (vi s24)) ?_
      obtain ⟨x86, hx87, h89⟩ := bind_some h84
      obtain ⟨hi88, hx87'⟩ := Ak hx87
      have hc91 := hE69 _ _ hx87'
      refine Dgl 12 22 0 (.pointer (some ⟨b62, (o63 + (s24 : Int).toNat * 1), none⟩)) (tf 13 9) 9 true 19 hb83 (fun _ hq => ix 24 20 21 b62 o63 3 1 8 hi88) <| Dgl 13 23 3 _ (tf 14 8) 9 true 19 hb83 (fun _ hq => lx 3 22 0 1 false 1 (vi x86) (hq.1.1 _ _ hF68) hc91) <| Dgl 14 24 24 _ (tf 15 7) 9 true 19 hb83 (fun _ hq => mv 0 (.slice (some ⟨b62, o63, none⟩) x0.length n0_0)) <| Dgl 15 25 3 _ (tf 16 6) 9 true 19 hb83 (fun _ hq => mv 3 (vi s24)) <| Dgl 16 26 3 (vi (W64 (s24 - 1))) (tf 17 5) 9 true 19 hb83 (fun _ hq => FG (t := 3) (t' := 3) (x := (.tmp 25)) (y := (.const (vi 1))) (k := .i64) (a := s24) (b := 1) rfl rfl) ?_
      obtain ⟨x92, hx93, h95⟩ := bind_some h89
      obtain ⟨hi94, hx93'⟩ := Ak hx93
      have hc97 := hE69 _ _ hx93'
      refine Dgl 17 27 0 (.pointer (some ⟨b62, (o63 + ((W64 (s24 - 1)) : Int).toNat * 1), none⟩)) (tf 18 4) 9 true 19 hb83 (fun _ hq => ix 24 24 26 b62 o63 3 1 8 hi94) <| Dgl 18 28 3 _ (tf 19 3) 9 true 19 hb83 (fun _ hq => lx 3 27 0 1 false 1 (vi x92) (hq.1.1 _ _ hF68) hc97) <| Dgl 19 29 4 (.bool (decide (x86 <= x92))) (tf 20 2) 9 true 19 hb83 (fun _ hq => Iq (t := 3) (t' := 3) (x := (.tmp 23)) (y := (.tmp 28)) (k := .i64) (a := x86) (b := x92) rfl rfl) <| Dgl 20 30 4 _ (tf 21 1) 6 false 16 hb80 (fun _ hq => p1 19 (.tmp 29) (.const (.bool false)) (.bool (decide (x86 <= x92))) hb83) <| Dtl 21 31 4 _ (tf 22 0) (fun _ hq => p0 16 (.const (.bool true)) (.tmp 30) (.bool (decide (x86 <= x92))) hb80) ?_
      obtain rfl := Aa h95
      exact UG (by kernel_rfl) ⟨F4, hs77, le78, fI⟩
     ·refine Dkl [(10, 20), (11, 21), (12, 22), (13, 23), (14, 24), (15, 25)] 9 true 19 hb83 (tf 16 6) ?_
      refine Dkl [(16, 26), (17, 27), (18, 28), (19, 29)] 9 true 19 hb83 (tf 20 2) <| Dgl 20 30 4 _ (tf 21 1) 6 false 16 hb80 (fun _ hq => p0 19 (.tmp 29) (.const (.bool false)) (.bool false) hb83) <| Dtl 21 31 4 _ (tf 22 0) (fun _ hq => p0 16 (.const (.bool true)) (.tmp 30) (.bool false) hb80) ?_
      obtain rfl := Aa h85
      exact UG (by kernel_rfl) ⟨F4, hs77, le78, fI⟩
   ·rintro f w48 ⟨F3, hs49, le50, ⟨_, rfl⟩⟩
    refine Ab <| Cd h57 (fun hb98 h99 => ?_) (fun hb98 h100 => ?_)
    ·refine Sq (Rg [0] ?_)
     refine Vs 1 <| Nt <| Rt <| Ax <| Ae <| Ae <| Ax ?_
     have hret := BV h99 hnx42
     subst hret
     refine .inr <| Ae ?_
     obtain rfl := Aa h23
     exact Re [(.bool false)] hs49 rfl
    ·refine Sc ?_
     refine Aq <| Ab <| Rg [0, 1, 2] <| Vs 3 <| Up ?_
     have hn101 := AJ h100 hnx42
     exact ⟨m39, Nat.lt_succ_self _, (W64 (s24 + 1)), F3, hn101, hs49, (le27.t le50), fI⟩
  ·refine Ex ?_
   refine Ao <| Ao <| Ay rfl ?_
   have ho102 := AE h45 hnx42
   exact .inl ⟨rfl, s24, F1, ho102, hs26, le27, fI⟩
 ·rintro f w32 ⟨s31, F2, rfl, hs33, le34, ⟨_, rfl⟩⟩
  have h103 := Bc h23
  refine Ab <| Sq (Rg (rG 4) ?_)
  refine Vs 4 <| Nt <| Rt ?_
  obtain rfl := Aa h103
  exact Re [(.bool (decide ((x0.length : Int) <= 16)))] hs33 rfl
def GV (N : Nat) (x0 : Log) : Option Bool :=
 (((DA N x0.Call).bind fun r32 => (bif r32 then ((BH N x0.Category 1 9).bind fun r43 => (bif r43 then ((BH N x0.Power 1 9999).bind fun r54 => (bif r54 then ((BH N x0.Claimed 0 1000000).bind fun r65 => (bif r65 then ((FH N x0.Jumps).bind fun r76 => some r76) else some false)) else some false)) else some false)) else some false)).bind fun j27 => some j27)
theorem Ng : Af Tryz.prog 81 := fun _ _ => by kernel_rfl
theorem OA (N : Nat) (w0 : World) (F0 : Mem) (hF : UQ w0 F0) (x0 : Log) (a0_4 : UP) (n0_4 : Nat) (hb0_4 : LC x0.Jumps.length n0_4) (hs0_4 : SlA AH F0 a0_4 x0.Jumps) (a0_5 : UP) (n0_5 : Nat) (hb0_5 : LC x0.Lines.length n0_5) (hs0_5 : SlA AF F0 a0_5 x0.Lines) (r : Bool) (h : GV N x0 = some r) :
  Calls Tryz.prog 81 ([(.agg (AC x0 a0_4 n0_4 a0_5 n0_5))] : List Value).toArray w0 (AA w0 F0 fun F' v => v = (.bool r)) := by
 have hs0 := Uv hF
 refine Go 26 Tryz.func81 <| Sq (Rg [0, 1] ?_)
 refine Bx' 27 (AC x0 a0_4 n0_4 a0_5 n0_5) hs0 (fun b21 w22 hs23 => ?_)
 refine Vs 1 <| Nss (Rg (rG 24) ?_)
 obtain ⟨j27, hj30, h31⟩ := bind_some h
 refine Uz (fun f w => ∃ (F1 : Mem), HS w0 F0 w F1 [] /\ Ut F0 F1 /\ FI f [] [(2, (.bool j27))]) ?_ ?_
 ·refine Vs 1 ?_
  refine Ld hs23.at0 ?_
  obtain ⟨r32, hr33, h34⟩ := bind_some hj30
  refine Cl' Jm hs23 (Ke N w22 F0 hs23.pers x0.Call _ hr33) ?_
  rintro _ F2 w36 hs37 le38 rfl
  refine Vs 1 <| Sp h34 (fun hb40 h41 => ?_) (fun hb40 h42 => ?_)
  ·refine Vgs hb40 1 ?_
   refine Lg hb40 hs37.at0 ?_
   obtain ⟨r43, hr44, h45⟩ := bind_some h41
   refine Cg hb40 BA hs37 (BK N w36 F2 hs37.pers x0.Category 1 9 _ hr44) ?_
   rintro _ F3 w47 hs48 le49 rfl
   refine Pk1 hb40 <| Vs 1 <| Sp h45 (fun hb51 h52 => ?_) (fun hb51 h53 => ?_)
   ·refine Vgs hb51 1 ?_
    refine Lg hb51 hs48.at0 ?_
    obtain ⟨r54, hr55, h56⟩ := bind_some h52
    refine Cg hb51 BA hs48 (BK N w47 F3 hs48.pers x0.Power 1 9999 _ hr55) ?_
    rintro _ F4 w58 hs59 le60 rfl
    refine Pk1 hb51 <| Vs 1 <| Sp h56 (fun hb62 h63 => ?_) (fun hb62 h64 => ?_)
    ·refine Vgs hb62 1 ?_
     refine Lg hb62 hs59.at0 ?_
     obtain ⟨r65, hr66, h67⟩ := bind_some h63
     refine Cg hb62 BA hs59 (BK N w58 F4 hs59.pers x0.Claimed 0 1000000 _ hr66) ?_
     rintro _ F5 w69 hs70 le71 rfl
     refine Pk1 hb62 <| Vs 1 <| Sp h67 (fun hb73 h74 => ?_) (fun hb73 h75 => ?_)
     ·refine Vgs hb73 1 ?_
      refine Lg hb73 hs70.at0 ?_
      obtain ⟨r76, hr77, h78⟩ := bind_some h74
      refine Cg hb73 MG hs70 (Nm N w69 F5 hs70.pers x0.Jumps a0_4 n0_4 hb0_4 (Uw hs0_4 (((le38.t le49).trans le60).trans le71)) _ hr77) ?_
      rintro _ F6 w80 hs81 le82 rfl
      refine Pk1 hb73 <| Vs 1 ?_
      obtain rfl := Aa h78
      exact Up ⟨rfl, F6, hs81.dr0, ((((le38.t le49).trans le60).trans le71).trans le82), fI⟩
     ·refine Ss hb73 3 ?_
      refine Pk0 hb73 <| Vs 1 ?_
      obtain rfl := Aa h75
      exact Up ⟨rfl, F5, hs70.dr0, (((le38.t le49).trans le60).trans le71), fI⟩
    ·refine Ss hb62 3 ?_
     refine Pk0 hb62 <| Vs 1 <| Ss (rfl : false = false) 3 <| Pk0 (rfl : false = false) <| Vs 1 ?_
     obtain rfl := Aa h64
     exact Up ⟨rfl, F4, hs59.dr0, ((le38.t le49).trans le60), fI⟩
   ·refine Ss hb51 3 ?_
    refine Pk0 hb51 <| Vs 1 <| Ss (rfl : false = false) 3 <| Pk0 (rfl : false = false) <| Vs 1 <| Ss (rfl : false = false) 3 <| Pk0 (rfl : false = false) <| Vs 1 ?_
    obtain rfl := Aa h53
    exact Up ⟨rfl, F3, hs48.dr0, (le38.t le49), fI⟩
  ·refine Ss hb40 3 ?_
   refine Pk0 hb40 <| Vs 1 <| Ss (rfl : false = false) 3 <| Pk0 (rfl : false = false) <| Vs 1 <| Ss (rfl : false = false) 3 <| Pk0 (rfl : false = false) <| Vs 1 <| Ss (rfl : false = false) 3 <| Pk0 (rfl : false = false) <| Vs 1 ?_
   obtain rfl := Aa h42
   exact Up ⟨rfl, F2, hs37.dr0, le38, fI⟩
 ·rintro f w24 ⟨F1, hs25, le26, ⟨_, rfl⟩⟩
  refine Ab <| Rt ?_
  obtain rfl := Aa h31
  exact Re [(.bool j27)] hs25 rfl
def CU (N : Nat) (x0 : Ac) (x1 : Log) (r38 : Bool) : Int -> Option (Ba (Int × Int) Int) := fun s52 =>
 (bif (decide (s52 < (x1.Lines.length : Int))) then ((idx x1.Lines s52).bind fun x74 => (((B1 N ({ Report := x0.Report, Serial := x0.Serial, Zone := x0.Zone } : Ac) x74).bind fun r106 => (bif (!r106) then some true else (bif (decide (s52 > 0)) then ((idx x1.Lines (W64 (s52 - 1))).bind fun x120 => (bif (decide (x74.Num <= x120.Num)) then some true else ((idx x1.Lines (W64 (s52 - 1))).bind fun x129 => some (decide (x74.Minute < x129.Minute))))) else some false))).bind fun j98 => (bif j98 then some (.ret (21, (W64 (s52 + 1)))) else some (.next (W64 (s52 + 1)))))) else some (.done s52))
def CV (N : Nat) (x0 : Ac) (x1 : Log) : Option (Int × Int) :=
 (bif ((decide ((x1.Jumps.length : Int) > 16)) || (decide ((x1.Lines.length : Int) > 400))) then some (2, 0) else ((GV N x1).bind fun r38 => (bif (!r38) then some (21, 0) else ((AO (CU N x0 x1 r38) N 0).bind fun o => o.k (fun r => some r) (fun s60 => some (0, 0))))))
theorem HW : Af Tryz.prog 24 := fun _ _ => by kernel_rfl
theorem I7 (N : Nat) (w0 : World) (F0 : Mem) (hF : UQ w0 F0) (x0 : Ac) (x1 : Log) (a1_4 : UP) (n1_4 : Nat) (hb1_4 : LC x1.Jumps.length n1_4) (hs1_4 : SlA AH F0 a1_4 x1.Jumps) (a1_5 : UP) (n1_5 : Nat) (hb1_5 : LC x1.Lines.length n1_5) (hs1_5 : SlA AF F0 a1_5 x1.Lines) (r : (Int × Int)) (h : CV N x0 x1 = some r) :
  Calls Tryz.prog 24 ([(.agg (Ag x0)), (.agg (AC x1 a1_4 n1_4 a1_5 n1_5))] : List Value).toArray w0 (AA w0 F0 fun F' v => v = (.tuple #[(vi r.1), (vi r.2)])) := by
 have hs0 := Uv hF
 refine Go 67 Tryz.func24 <| Sq (Rg (rG 4) ?_)
 refine Bx' 23 (Ag x0) hs0 (fun b21 w22 hs23 => ?_)
 refine Bx' 27 (AC x1 a1_4 n1_4 a1_5 n1_5) hs23 (fun b24 w25 hs26 => ?_)
 refine Vs 2 <| Nss <| Sq (Rg (rG 10) ?_)
 refine Uz (fun f w => ∃ (F1 : Mem), HS w0 F0 w F1 [(sb b24 (AC x1 a1_4 n1_4 a1_5 n1_5) 27), (sb b21 (Ag x0) 23)] /\ Ut F0 F1 /\ FI f [] [(2, (pt b21 0)), (3, (pt b24 0)), (17, (.bool ((decide ((x1.Jumps.length : Int) > 16)) || (decide ((x1.Lines.length : Int) > 400)))))]) ?_ ?_
 ·refine Vs 1 ?_
  refine Ld hs26.at0 <| Vs 3 <| Uy (decide ((x1.Jumps.length : Int) > 16)) (fun hb34 => ?_) (fun hb34 => ?_)
  ·refine Ss hb34 4 ?_
   refine Pk1 hb34 ?_
   exact Up ⟨rfl, F0, hs26, (Uu _), (fJ ⟨rfl, rfl, (congrArg Value.bool (FD hb34 rfl)), trivial⟩)⟩
  ·refine Vgs hb34 1 ?_
   refine Lg hb34 hs26.at0 <| Vgs hb34 2 <| Pk0 hb34 ?_
   exact Up ⟨rfl, F0, hs26, (Uu _), (fJ ⟨rfl, rfl, (congrArg Value.bool (Cn hb34 rfl)), trivial⟩)⟩
 ·rintro f w27 ⟨F1, hs28, le29, ⟨_, rfl⟩⟩
  refine Ab <| Cd h (fun hb35 h36 => ?_) (fun hb35 h37 => ?_)
  ·refine Sq (Rg [0, 1] ?_)
   refine Vs 2 <| Nt <| Rt <| Ae ?_
   obtain rfl := Aa h36
   exact Re [(vi 2), (vi 0)] hs28 rfl
  ·refine Sc ?_
   refine Ab <| Sq <| Sq (Rg [0, 1, 2] ?_)
   refine Ld hs28.at0 ?_
   obtain ⟨r38, hr39, h40⟩ := bind_some h37
   refine Cl' Ng hs28 (OA N w27 F1 hs28.pers x1 a1_4 n1_4 hb1_4 (Uw hs1_4 le29) a1_5 n1_5 hb1_5 (Uw hs1_5 le29) _ hr39) ?_
   rintro _ F2 w42 hs43 le44 rfl
   refine Vs 1 <| Nt <| Cd h40 (fun hb46 h47 => ?_) (fun hb46 h48 => ?_)
   ·refine Sq (Rg [0, 1] ?_)
    refine Vs 2 <| Nt <| Rt <| Ae ?_
    obtain rfl := Aa h47
    exact Re [(vi 21), (vi 0)] hs43 rfl
   ·refine Sc ?_
    refine Ab <| Sq <| Sq (Rg [0] ?_)
    refine Vs 1 <| Nt ?_
    obtain ⟨o49, ho50, h51⟩ := bind_some h48
    refine UA (fun f w => ∃ (s60 : Int) (F4 : Mem), o49 = .done s60 /\ HS w0 F0 w F4 [] /\ Ut F2 F4 /\ FI f [] []) ?_ ?_
    ·refine Bk ?_
     refine Us (by kernel_rfl) (fun m f w => ∃ (s52 : Int) (F3 : Mem), AO (CU N x0 x1 r38) m s52 = some o49 /\ HS w0 F0 w F3 [(sb b24 (AC x1 a1_4 n1_4 a1_5 n1_5) 27), (sb b21 (Ag x0) 23)] /\ Ut F2 F3 /\ FI f [] [(2, (pt b21 0)), (3, (pt b24 0)), (6, (vi s52))]) N ⟨0, F2, ho50, hs43, (Uu _), fI⟩ ?_
     rintro m65 f w53 ⟨s52, F3, hit66, hs54, le55, ⟨_, rfl⟩⟩
     obtain ⟨m67, fl68, rfl, hb69, hnx70⟩ := AD hit66
     refine Sq <| Sq (Rg (rG 5) ?_)
     refine Vs 2 <| Ld hs54.at0 <| Vs 2 <| Nt <| Cd hb69 (fun hb71 h72 => ?_) (fun hb71 h73 => ?_)
     ·refine Sc ?_
      refine Ab <| Sq <| Bk <| Sq (Rg (rG 7) ?_)
      refine Vs 1 <| Ld hs54.at0 <| Vs 1 ?_
      obtain ⟨x74, hx75, h77⟩ := bind_some h72
      obtain ⟨hi76, hx75'⟩ := Ak hx75
      obtain ⟨b78, o79, C80, E81, fz82, rfl, hF84, hE85⟩ := UB (Uw hs1_5 ((le29.t le44).trans le55)) hx75'
      have hc87 := hE85 _ _ hx75'
      refine Ix hi76 <| Lx 0 (hs54.pers _ _ hF84) hc87 <| Al' 34 #[(vi 0), (vi 0), (vi 0), (vi 0), (sv (([] : UO))), (vi 0), (vi 0), (vi 0), (vi 0), (vi 0), (vi 0)] hs54 (fun b88 w89 hs90 => ?_)
      refine St0 (BN x74) hs90 (fun w91 hs92 => ?_)
      refine Nss ?_
      obtain ⟨j98, hj104, h105⟩ := bind_some h77
      refine RD 32 32 [(sb b88 (BN x74) 34), (sb b24 (AC x1 a1_4 n1_4 (some ⟨b78, o79, none⟩) n1_5) 27), (sb b21 (Ag x0) 23)] [] hs92 (fun f w => ∃ (F5 : Mem), HS w0 F0 w F5 [(sb b24 (AC x1 a1_4 n1_4 (some ⟨b78, o79, none⟩) n1_5) 27), (sb b21 (Ag x0) 23)] /\ Ut F3 F5 /\ FI f [] [(2, (pt b21 0)), (3, (pt b24 0)), (6, (vi s52)), (64, (.bool j98))]) (fun wd93 hw94 => ?_) ?_
      ·refine Dl 0 (fun _ hq => (hq.1.2 2 _ _ rfl)) ?_
       refine Dl 1 (fun _ hq => (hq.1.2 0 _ _ rfl)) <| D1 2 ?_
       obtain ⟨r106, hr107, h108⟩ := bind_some hj104
       refine DCl Fo hw94 (Ga N wd93 F3 hw94.pers (({ Report := x0.Report, Serial := x0.Serial, Zone := x0.Zone } : Ac)) x74 _ hr107) ?_
       rintro _ F6 w110 hs111 le112 rfl
       refine Dvl [3, 4] (tf 5 27) <| Sd h108 (fun hb114 h115 => ?_) (fun hb114 h116 => ?_)
       ·refine Dkl [(5, 38), (6, 39), (7, 40)] 4 false 37 hb114 (tf 8 24) ?_
        refine Dul [(8, 41), (9, 42), (10, 43), (11, 44), (12, 45), (13, 46)] 7 true 40 (tf 14 18) <| Dul [(14, 47), (15, 48), (16, 49), (17, 50), (18, 51)] 7 true 40 (tf 19 13) <| Dul [(19, 52), (20, 53), (21, 54), (22, 55), (23, 56), (24, 57)] 18 false 51 (tf 25 7) <| Dul [(25, 58), (26, 59), (27, 60), (28, 61)] 18 false 51 (tf 29 3) <| Dul [(29, 62)] 7 true 40 (tf 30 2) <| Dkl [(30, 63)] 4 false 37 hb114 (tf 31 1) <| Dtl 31 64 4 _ (tf 32 0) (fun _ hq => p1 37 (.const (.bool true)) (.tmp 63) (.bool true) hb114) ?_
        obtain rfl := Aa h115
        exact UG (by kernel_rfl) ⟨F6, hs111.dr0, le112, fI⟩
       ·refine Dgl 5 38 3 _ (tf 6 26) 4 false 37 hb114 (fun _ hq => mv 6 (vi s52)) ?_
        refine Dgl 6 39 4 (.bool (decide (s52 > 0))) (tf 7 25) 4 false 37 hb114 (fun _ hq => JI (t := 3) (t' := 3) (x := (.tmp 38)) (y := (.const (vi 0))) (k := .i64) (a := s52) (b := 0) rfl rfl) <| Dgl 7 40 4 _ (tf 8 24) 4 false 37 hb114 (fun _ hq => mv 39 (.bool (decide (s52 > 0)))) <| Sd h116 (fun hb117 h118 => ?_) (fun hb117 h119 => ?_)
        ·refine Dgl 8 41 0 (pt b88 0) (tf 9 23) 7 true 40 hb117 (fun _ hq => fa 34 7 0 0 1 b88 0 0) ?_
         refine Dgl 9 42 3 _ (tf 10 22) 7 true 40 hb117 (fun _ hq => ld 3 41 b88 0 false 1 (vi x74.Num) (hq.1.2 0 _ _ rfl)) <| Dgl 10 43 0 (pt b24 5) (tf 11 21) 7 true 40 hb117 (fun _ hq => fa 27 3 5 5 1 b24 0 5) <| Dgl 11 44 25 _ (tf 12 20) 7 true 40 hb117 (fun _ hq => ld 25 43 b24 5 false 1 (.slice (some ⟨b78, o79, none⟩) x1.Lines.length n1_5) (hq.1.2 1 _ _ rfl)) <| Dgl 12 45 3 _ (tf 13 19) 7 true 40 hb117 (fun _ hq => mv 6 (vi s52)) <| Dgl 13 46 3 (vi (W64 (s52 - 1))) (tf 14 18) 7 true 40 hb117 (fun _ hq => FG (t := 3) (t' := 3) (x := (.tmp 45)) (y := (.const (vi 1))) (k := .i64) (a := s52) (b := 1) rfl rfl) ?_
         obtain ⟨x120, hx121, h123⟩ := bind_some h118
         obtain ⟨hi122, hx121'⟩ := Ak hx121
         have hc125 := hE85 _ _ hx121'
         refine Dgl 14 47 0 (.pointer (some ⟨b78, (o79 + ((W64 (s52 - 1)) : Int).toNat * 11), none⟩)) (tf 15 17) 7 true 40 hb117 (fun _ hq => ix 25 44 46 b78 o79 34 11 96 hi122) <| Dgl 15 48 0 (.pointer (some ⟨b78, (o79 + ((W64 (s52 - 1)) : Int).toNat * 11), none⟩)) (tf 16 16) 7 true 40 hb117 (fun _ hq => fa 34 47 0 0 1 b78 (o79 + ((W64 (s52 - 1)) : Int).toNat * 11) (o79 + ((W64 (s52 - 1)) : Int).toNat * 11)) <| Dgl 16 49 3 _ (tf 17 15) 7 true 40 hb117 (fun _ hq => lx 3 48 0 11 false 1 (vi x120.Num) (hq.1.1 _ _ hF84) hc125) <| Dgl 17 50 4 (.bool (decide (x74.Num <= x120.Num))) (tf 18 14) 7 true 40 hb117 (fun _ hq => Iq (t := 3) (t' := 3) (x := (.tmp 42)) (y := (.tmp 49)) (k := .i64) (a := x74.Num) (b := x120.Num) rfl rfl) <| Dgl 18 51 4 _ (tf 19 13) 7 true 40 hb117 (fun _ hq => mv 50 (.bool (decide (x74.Num <= x120.Num)))) <| Sd h123 (fun hb126 h127 => ?_) (fun hb126 h128 => ?_)
         ·refine Dkl [(19, 52), (20, 53), (21, 54), (22, 55), (23, 56), (24, 57)] 18 false 51 hb126 (tf 25 7) ?_
          refine Dkl [(25, 58), (26, 59), (27, 60), (28, 61)] 18 false 51 hb126 (tf 29 3) <| Dgl 29 62 4 _ (tf 30 2) 7 true 40 hb117 (fun _ hq => p1 51 (.const (.bool true)) (.tmp 61) (.bool true) hb126) <| Dgl 30 63 4 _ (tf 31 1) 4 false 37 hb114 (fun _ hq => p1 40 (.tmp 62) (.const (.bool false)) (.bool true) hb117) <| Dtl 31 64 4 _ (tf 32 0) (fun _ hq => p0 37 (.const (.bool true)) (.tmp 63) (.bool true) hb114) ?_
          obtain rfl := Aa h127
          exact UG (by kernel_rfl) ⟨F6, hs111.dr0, le112, fI⟩
         ·refine Dgl 19 52 0 (pt b88 3) (tf 20 12) 18 false 51 hb126 (fun _ hq => fa 34 7 3 3 1 b88 0 3) ?_
          refine Dgl 20 53 3 _ (tf 21 11) 18 false 51 hb126 (fun _ hq => ld 3 52 b88 3 false 1 (vi x74.Minute) (hq.1.2 0 _ _ rfl)) <| Dgl 21 54 0 (pt b24 5) (tf 22 10) 18 false 51 hb126 (fun _ hq => fa 27 3 5 5 1 b24 0 5) <| Dgl 22 55 25 _ (tf 23 9) 18 false 51 hb126 (fun _ hq => ld 25 54 b24 5 false 1 (.slice (some ⟨b78, o79, none⟩) x1.Lines.length n1_5) (hq.1.2 1 _ _ rfl)) <| Dgl 23 56 3 _ (tf 24 8) 18 false 51 hb126 (fun _ hq => mv 6 (vi s52)) <| Dgl 24 57 3 (vi (W64 (s52 - 1))) (tf 25 7) 18 false 51 hb126 (fun _ hq => FG (t := 3) (t' := 3) (x := (.tmp 56)) (y := (.const (vi 1))) (k := .i64) (a := s52) (b := 1) rfl rfl) ?_
          obtain ⟨x129, hx130, h132⟩ := bind_some h128
          obtain ⟨hi131, hx130'⟩ := Ak hx130
          have hc134 := hE85 _ _ hx130'
          refine Dgl 25 58 0 (.pointer (some ⟨b78, (o79 + ((W64 (s52 - 1)) : Int).toNat * 11), none⟩)) (tf 26 6) 18 false 51 hb126 (fun _ hq => ix 25 55 57 b78 o79 34 11 96 hi131) <| Dgl 26 59 0 (.pointer (some ⟨b78, ((o79 + ((W64 (s52 - 1)) : Int).toNat * 11) + 3), none⟩)) (tf 27 5) 18 false 51 hb126 (fun _ hq => fa 34 58 3 3 1 b78 (o79 + ((W64 (s52 - 1)) : Int).toNat * 11) ((o79 + ((W64 (s52 - 1)) : Int).toNat * 11) + 3)) <| Dgl 27 60 3 _ (tf 28 4) 18 false 51 hb126 (fun _ hq => lx 3 59 3 11 false 1 (vi x129.Minute) (hq.1.1 _ _ hF84) hc134) <| Dgl 28 61 4 (.bool (decide (x74.Minute < x129.Minute))) (tf 29 3) 18 false 51 hb126 (fun _ hq => GT (t := 3) (t' := 3) (x := (.tmp 53)) (y := (.tmp 60)) (k := .i64) (a := x74.Minute) (b := x129.Minute) rfl rfl) <| Dgl 29 62 4 _ (tf 30 2) 7 true 40 hb117 (fun _ hq => p0 51 (.const (.bool true)) (.tmp 61) (.bool (decide (x74.Minute < x129.Minute))) hb126) <| Dgl 30 63 4 _ (tf 31 1) 4 false 37 hb114 (fun _ hq => p1 40 (.tmp 62) (.const (.bool false)) (.bool (decide (x74.Minute < x129.Minute))) hb117) <| Dtl 31 64 4 _ (tf 32 0) (fun _ hq => p0 37 (.const (.bool true)) (.tmp 63) (.bool (decide (x74.Minute < x129.Minute))) hb114) ?_
          obtain rfl := Aa h132
          exact UG (by kernel_rfl) ⟨F6, hs111.dr0, le112, fI⟩
        ·refine Dkl [(8, 41), (9, 42), (10, 43), (11, 44), (12, 45), (13, 46)] 7 true 40 hb117 (tf 14 18) ?_
         refine Dkl [(14, 47), (15, 48), (16, 49), (17, 50), (18, 51)] 7 true 40 hb117 (tf 19 13) <| Dul [(19, 52), (20, 53), (21, 54), (22, 55), (23, 56), (24, 57)] 18 false 51 (tf 25 7) <| Dul [(25, 58), (26, 59), (27, 60), (28, 61)] 18 false 51 (tf 29 3) <| Dkl [(29, 62)] 7 true 40 hb117 (tf 30 2) <| Dgl 30 63 4 _ (tf 31 1) 4 false 37 hb114 (fun _ hq => p0 40 (.tmp 62) (.const (.bool false)) (.bool false) hb117) <| Dtl 31 64 4 _ (tf 32 0) (fun _ hq => p0 37 (.const (.bool true)) (.tmp 63) (.bool false) hb114) ?_
         obtain rfl := Aa h119
         exact UG (by kernel_rfl) ⟨F6, hs111.dr0, le112, fI⟩
      ·rintro f w95 ⟨F5, hs96, le97, ⟨_, rfl⟩⟩
       refine Ab <| Cd h105 (fun hb135 h136 => ?_) (fun hb135 h137 => ?_)
       ·refine Sq (Rg (rG 4) ?_)
        refine Vs 4 <| Nt <| Rt <| Ax <| Ae <| Ae <| Ax ?_
        have hret := BV h136 hnx70
        subst hret
        refine .inr <| Ae ?_
        obtain rfl := Aa h51
        exact Re [(vi 21), (vi (W64 (s52 + 1)))] hs96 rfl
       ·refine Sc ?_
        refine Aq <| Ab <| Rg [0, 1, 2] <| Vs 3 <| Up ?_
        have hn138 := AJ h137 hnx70
        exact ⟨m67, Nat.lt_succ_self _, (W64 (s52 + 1)), F5, hn138, hs96, (le55.t le97), fI⟩
     ·refine Ex ?_
      refine Ao <| Ao <| Ay rfl ?_
      have ho139 := AE h73 hnx70
      exact .inl ⟨rfl, s52, F3, ho139, hs54.dr0.dr0, le55, fI⟩
    ·rintro f w61 ⟨s60, F4, rfl, hs62, le63, ⟨_, rfl⟩⟩
     have h140 := Bc h51
     refine Ab <| Sq (Rg [0, 1] ?_)
     refine Vs 2 <| Nt <| Rt ?_
     obtain rfl := Aa h140
     exact Re [(vi 0), (vi 0)] hs62 rfl
def CG (N : Nat) (x0 : Ac) (x1 : Log) : Option Bool :=
 ((Cw N ({ Report := x0.Report, Serial := x0.Serial, Zone := x0.Zone } : Ac) x1).bind fun r27 => some (r27.1 == 0))
theorem GH : Af Tryz.prog 25 := fun _ _ => by kernel_rfl
theorem Hn (N : Nat) (w0 : World) (F0 : Mem) (hF : UQ w0 F0) (hG : Bm F0) (x0 : Ac) (x1 : Log) (a1_4 : UP) (n1_4 : Nat) (hb1_4 : LC x1.Jumps.length n1_4) (hs1_4 : SlA AH F0 a1_4 x1.Jumps) (a1_5 : UP) (n1_5 : Nat) (hb1_5 : LC x1.Lines.length n1_5) (hs1_5 : SlA AF F0 a1_5 x1.Lines) (r : Bool) (h : CG N x0 x1 = some r) :
  Calls Tryz.prog 25 ([(.agg (Ag x0)), (.agg (AC x1 a1_4 n1_4 a1_5 n1_5))] : List Value).toArray w0 (AA w0 F0 fun F' v => v = (.bool r)) := by
 have hs0 := Uv hF
 refine Go 15 Tryz.func25 <| Sq (Rg [0, 1, 2] ?_)
 refine Bx' 23 (Ag x0) hs0 (fun b21 w22 hs23 => ?_)
 refine Bx' 27 (AC x1 a1_4 n1_4 a1_5 n1_5) hs23 (fun b24 w25 hs26 => ?_)
 refine Vs 1 <| Nss (Rg (rG 8) ?_)
 refine Ld hs26.at1 <| Ld hs26.at0 ?_
 obtain ⟨r27, hr28, h29⟩ := bind_some h
 refine Cl' EA hs26 (E8 N w25 F0 hs26.pers hG (({ Report := x0.Report, Serial := x0.Serial, Zone := x0.Zone } : Ac)) x1 a1_4 n1_4 hb1_4 hs1_4 a1_5 n1_5 hb1_5 hs1_5 _ hr28) ?_
 rintro _ F1 w31 hs32 le33 rfl
 refine Vs 5 <| Nss (Rg [0, 1, 2] ?_)
 refine Vs 3 <| Nt <| Rt ?_
 obtain rfl := Aa h29
 exact Re [(.bool (r27.1 == 0))] hs32 rfl
def CT (N : Nat) (x0 : Ac) (x1 : Log) : Option Bool :=
 ((CV N ({ Report := x0.Report, Serial := x0.Serial, Zone := x0.Zone } : Ac) x1).bind fun r27 => some (r27.1 == 0))
theorem J0 : Af Tryz.prog 26 := fun _ _ => by kernel_rfl
theorem K2 (N : Nat) (w0 : World) (F0 : Mem) (hF : UQ w0 F0) (x0 : Ac) (x1 : Log) (a1_4 : UP) (n1_4 : Nat) (hb1_4 : LC x1.Jumps.length n1_4) (hs1_4 : SlA AH F0 a1_4 x1.Jumps) (a1_5 : UP) (n1_5 : Nat) (hb1_5 : LC x1.Lines.length n1_5) (hs1_5 : SlA AF F0 a1_5 x1.Lines) (r : Bool) (h : CT N x0 x1 = some r) :
  Calls Tryz.prog 26 ([(.agg (Ag x0)), (.agg (AC x1 a1_4 n1_4 a1_5 n1_5))] : List Value).toArray w0 (AA w0 F0 fun F' v => v = (.bool r)) := by
 have hs0 := Uv hF
 refine Go 15 Tryz.func26 <| Sq (Rg [0, 1, 2] ?_)
 refine Bx' 23 (Ag x0) hs0 (fun b21 w22 hs23 => ?_)
 refine Bx' 27 (AC x1 a1_4 n1_4 a1_5 n1_5) hs23 (fun b24 w25 hs26 => ?_)
 refine Vs 1 <| Nss (Rg (rG 8) ?_)
 refine Ld hs26.at1 <| Ld hs26.at0 ?_
 obtain ⟨r27, hr28, h29⟩ := bind_some h
 refine Cl' HW hs26 (I7 N w25 F0 hs26.pers (({ Report := x0.Report, Serial := x0.Serial, Zone := x0.Zone } : Ac)) x1 a1_4 n1_4 hb1_4 hs1_4 a1_5 n1_5 hb1_5 hs1_5 _ hr28) ?_
 rintro _ F1 w31 hs32 le33 rfl
 refine Vs 5 <| Nss (Rg [0, 1, 2] ?_)
 refine Vs 3 <| Nt <| Rt ?_
 obtain rfl := Aa h29
 exact Re [(.bool (r27.1 == 0))] hs32 rfl
def D6 (N : Nat) (x0 : (List Line)) : Int -> Option (Ba Bool Int) := fun s24 =>
 (bif (decide (s24 < (x0.length : Int))) then ((idx x0 s24).bind fun x45 => (bif (decide ((x45.Call.length : Int) > 40)) then some (.ret false) else some (.next (W64 (s24 + 1))))) else some (.done s24))
def EI (N : Nat) (x0 : (List Line)) : Option Bool :=
 ((AO (D6 N x0) N 0).bind fun o => o.k (fun r => some r) (fun s31 => some true))
theorem H1 : Af Tryz.prog 61 := fun _ _ => by kernel_rfl
theorem I8 (N : Nat) (w0 : World) (F0 : Mem) (hF : UQ w0 F0) (x0 : (List Line)) (a0_0 : UP) (n0_0 : Nat) (hb0_0 : LC x0.length n0_0) (hs0_0 : SlA AF F0 a0_0 x0) (r : Bool) (h : EI N x0 = some r) :
  Calls Tryz.prog 61 ([(.slice a0_0 x0.length n0_0)] : List Value).toArray w0 (AA w0 F0 fun F' v => v = (.bool r)) := by
 have hs0 := Uv hF
 refine Go 17 Tryz.func61 <| Sq (Rg [0] ?_)
 refine Vs 1 <| Nss <| Sq (Rg [0] ?_)
 refine Vs 1 <| Nt ?_
 obtain ⟨o21, ho22, h23⟩ := bind_some h
 refine UA (fun f w => ∃ (s31 : Int) (F2 : Mem), o21 = .done s31 /\ HS w0 F0 w F2 [] /\ Ut F0 F2 /\ FI f [] []) ?_ ?_
 ·refine Bk ?_
  refine Us (by kernel_rfl) (fun m f w => ∃ (s24 : Int) (F1 : Mem), AO (D6 N x0) m s24 = some o21 /\ HS w0 F0 w F1 [] /\ Ut F0 F1 /\ FI f [] [(0, (.slice a0_0 x0.length n0_0)), (3, (vi s24))]) N ⟨0, F0, ho22, hs0, (Uu _), fI⟩ ?_
  rintro m36 f w25 ⟨s24, F1, hit37, hs26, le27, ⟨_, rfl⟩⟩
  obtain ⟨m38, fl39, rfl, hb40, hnx41⟩ := AD hit37
  refine Sq <| Sq (Rg (rG 4) ?_)
  refine Vs 4 <| Nt <| Cd hb40 (fun hb42 h43 => ?_) (fun hb42 h44 => ?_)
  ·refine Sc ?_
   refine Ab <| Sq <| Bk <| Sq (Rg (rG 7) ?_)
   refine Vs 2 ?_
   obtain ⟨x45, hx46, h48⟩ := bind_some h43
   obtain ⟨hi47, hx46'⟩ := Ak hx46
   obtain ⟨b49, o50, C51, E52, fz53, rfl, hF55, hE56⟩ := UB (Uw hs0_0 le27) hx46'
   have hc58 := hE56 _ _ hx46'
   refine Ix hi47 <| Vs 1 <| Lx 4 (hs26.pers _ _ hF55) hc58 <| Vs 2 <| Nt <| Cd h48 (fun hb59 h60 => ?_) (fun hb59 h61 => ?_)
   ·refine Sq (Rg [0] ?_)
    refine Vs 1 <| Nt <| Rt <| Ax <| Ae <| Ae <| Ax ?_
    have hret := BV h60 hnx41
    subst hret
    refine .inr <| Ae ?_
    obtain rfl := Aa h23
    exact Re [(.bool false)] hs26 rfl
   ·refine Sc ?_
    refine Aq <| Ab <| Rg [0, 1, 2] <| Vs 3 <| Up ?_
    have hn62 := AJ h61 hnx41
    exact ⟨m38, Nat.lt_succ_self _, (W64 (s24 + 1)), F1, hn62, hs26, le27, fI⟩
  ·refine Ex ?_
   refine Ao <| Ao <| Ay rfl ?_
   have ho63 := AE h44 hnx41
   exact .inl ⟨rfl, s24, F1, ho63, hs26, le27, fI⟩
 ·rintro f w32 ⟨s31, F2, rfl, hs33, le34, ⟨_, rfl⟩⟩
  have h64 := Bc h23
  refine Ab <| Sq (Rg [0] ?_)
  refine Vs 1 <| Nt <| Rt ?_
  obtain rfl := Aa h64
  exact Re [(.bool true)] hs33 rfl
def Is (N : Nat) (x0 : Log) : Option Bool :=
 ((bif (decide ((x0.Lines.length : Int) <= 60)) then (bif (decide ((x0.Jumps.length : Int) <= 40)) then (bif (decide ((x0.Call.length : Int) <= 40)) then ((EI N x0.Lines).bind fun r41 => some r41) else some false) else some false) else (bif (decide ((x0.Lines.length : Int) > 400)) then (bif (decide ((x0.Lines.length : Int) <= 800)) then (bif (decide ((x0.Jumps.length : Int) <= 40)) then (bif (decide ((x0.Call.length : Int) <= 40)) then ((EI N x0.Lines).bind fun r61 => some r61) else some false) else some false) else some false) else some false)).bind fun j27 => some j27)
theorem Ou : Af Tryz.prog 20 := fun _ _ => by kernel_rfl
theorem Pf (N : Nat) (w0 : World) (F0 : Mem) (hF : UQ w0 F0) (x0 : Log) (a0_4 : UP) (n0_4 : Nat) (hb0_4 : LC x0.Jumps.length n0_4) (hs0_4 : SlA AH F0 a0_4 x0.Jumps) (a0_5 : UP) (n0_5 : Nat) (hb0_5 : LC x0.Lines.length n0_5) (hs0_5 : SlA AF F0 a0_5 x0.Lines) (r : Bool) (h : Is N x0 = some r) :
  Calls Tryz.prog 20 ([(.agg (AC x0 a0_4 n0_4 a0_5 n0_5))] : List Value).toArray w0 (AA w0 F0 fun F' v => v = (.bool r)) := by
 have hs0 := Uv hF
 refine Go 36 Tryz.func20 <| Sq (Rg [0, 1] ?_)
 refine Bx' 27 (AC x0 a0_4 n0_4 a0_5 n0_5) hs0 (fun b21 w22 hs23 => ?_)
 refine Vs 1 <| Nss (Rg (rG 34) ?_)
 obtain ⟨j27, hj30, h31⟩ := bind_some h
 refine Uz (fun f w => ∃ (F1 : Mem), HS w0 F0 w F1 [] /\ Ut F0 F1 /\ FI f [] [(2, (.bool j27))]) ?_ ?_
 ·refine Vs 1 ?_
  refine Ld hs23.at0 <| Vs 3 <| Sp hj30 (fun hb32 h33 => ?_) (fun hb32 h34 => ?_)
  ·refine Ss hb32 5 ?_
   refine Su' 4 <| Ss hb32 1 <| Pk1 hb32 <| Vs 1 <| Vg 20 0 16 true 19 rfl (fa 27 1 4 4 1 b21 0 4) <| Vg 21 24 16 true 19 rfl (ld 24 20 b21 4 false 1 (.slice a0_4 x0.Jumps.length n0_4) hs23.at0) <| Vg 22 3 16 true 19 rfl (ln 21 24 a0_4 x0.Jumps.length n0_4 3 1 8) <| Vg 23 4 16 true 19 rfl (Iq (t := 3) (t' := 3) (x := (.tmp 22)) (y := (.const (vi 40))) (k := .i64) (a := (x0.Jumps.length : Int)) (b := 40) rfl rfl) <| Pk1 (rfl : true = true) <| Vs 1 <| Sp h33 (fun hb35 h36 => ?_) (fun hb35 h37 => ?_)
   ·refine Vgs hb35 1 ?_
    refine Lg hb35 hs23.at0 <| Vgs hb35 2 <| Pk1 hb35 <| Vs 1 <| Sp h36 (fun hb38 h39 => ?_) (fun hb38 h40 => ?_)
    ·refine Vgs hb38 1 ?_
     refine Lg hb38 hs23.at0 ?_
     obtain ⟨r41, hr42, h43⟩ := bind_some h39
     refine Cg hb38 H1 hs23 (I8 N w22 F0 hs23.pers x0.Lines a0_5 n0_5 hb0_5 hs0_5 _ hr42) ?_
     rintro _ F2 w45 hs46 le47 rfl
     refine Pk1 hb38 <| Vs 1 ?_
     obtain rfl := Aa h43
     exact Up ⟨rfl, F2, hs46.dr0, le47, fI⟩
    ·refine Ss hb38 3 ?_
     refine Pk0 hb38 <| Vs 1 ?_
     obtain rfl := Aa h40
     exact Up ⟨rfl, F0, hs23.dr0, (Uu _), fI⟩
   ·refine Ss hb35 4 ?_
    refine Pk0 hb35 <| Vs 1 <| Ss (rfl : false = false) 3 <| Pk0 (rfl : false = false) <| Vs 1 ?_
    obtain rfl := Aa h37
    exact Up ⟨rfl, F0, hs23.dr0, (Uu _), fI⟩
  ·refine Vgs hb32 1 ?_
   refine Lg hb32 hs23.at0 <| Vgs hb32 3 <| Sp h34 (fun hb49 h50 => ?_) (fun hb49 h51 => ?_)
   ·refine Vgs hb49 1 ?_
    refine Lg hb49 hs23.at0 <| Vgs hb49 2 <| Pg1 hb32 hb49 <| Pk0 hb32 <| Vs 1 <| Sp h50 (fun hb52 h53 => ?_) (fun hb52 h54 => ?_)
    ·refine Vgs hb52 1 ?_
     refine Lg hb52 hs23.at0 <| Vgs hb52 2 <| Pk1 hb52 <| Vs 1 <| Sp h53 (fun hb55 h56 => ?_) (fun hb55 h57 => ?_)
     ·refine Vgs hb55 1 ?_
      refine Lg hb55 hs23.at0 <| Vgs hb55 2 <| Pk1 hb55 <| Vs 1 <| Sp h56 (fun hb58 h59 => ?_) (fun hb58 h60 => ?_)
      ·refine Vgs hb58 1 ?_
       refine Lg hb58 hs23.at0 ?_
       obtain ⟨r61, hr62, h63⟩ := bind_some h59
       refine Cg hb58 H1 hs23 (I8 N w22 F0 hs23.pers x0.Lines a0_5 n0_5 hb0_5 hs0_5 _ hr62) ?_
       rintro _ F3 w65 hs66 le67 rfl
       refine Pk1 hb58 <| Vs 1 ?_
       obtain rfl := Aa h63
       exact Up ⟨rfl, F3, hs66.dr0, le67, fI⟩
      ·refine Ss hb58 3 ?_
       refine Pk0 hb58 <| Vs 1 ?_
       obtain rfl := Aa h60
       exact Up ⟨rfl, F0, hs23.dr0, (Uu _), fI⟩
     ·refine Ss hb55 4 ?_
      refine Pk0 hb55 <| Vs 1 <| Ss (rfl : false = false) 3 <| Pk0 (rfl : false = false) <| Vs 1 ?_
      obtain rfl := Aa h57
      exact Up ⟨rfl, F0, hs23.dr0, (Uu _), fI⟩
    ·refine Ss hb52 4 ?_
     refine Pk0 hb52 <| Vs 1 <| Ss (rfl : false = false) 4 <| Pk0 (rfl : false = false) <| Vs 1 <| Ss (rfl : false = false) 3 <| Pk0 (rfl : false = false) <| Vs 1 ?_
     obtain rfl := Aa h54
     exact Up ⟨rfl, F0, hs23.dr0, (Uu _), fI⟩
   ·refine Ss hb49 4 ?_
    refine Pg0 hb32 hb49 <| Pk0 hb32 <| Vs 1 <| Ss (rfl : false = false) 4 <| Pk0 (rfl : false = false) <| Vs 1 <| Ss (rfl : false = false) 4 <| Pk0 (rfl : false = false) <| Vs 1 <| Ss (rfl : false = false) 3 <| Pk0 (rfl : false = false) <| Vs 1 ?_
    obtain rfl := Aa h51
    exact Up ⟨rfl, F0, hs23.dr0, (Uu _), fI⟩
 ·rintro f w24 ⟨F1, hs25, le26, ⟨_, rfl⟩⟩
  refine Ab <| Rt ?_
  obtain rfl := Aa h31
  exact Re [(.bool j27)] hs25 rfl
section
open Go.Lib (decDigits)
theorem L1 {ρ σ : Type} {body : σ -> Option (Ba ρ σ)} (st : Nat -> σ) {o : Ba ρ σ} (k : Nat) (hb : ∀ i, i < k -> body (st i) = some (.next (st (i + 1)))) (he : body (st k) = some o) (ho : ∀ s', o ≠ .next s') {N : Nat} (hN : k < N) : AO body N (st 0) = some o := by
 have key : ∀ j i M, i + j = k -> j < M -> AO body M (st i) = some o := by
  intro j
  induction j with
  | zero =>
   intro i M hi hM
   obtain ⟨m, rfl⟩ : ∃ m, M = m + 1 := ⟨M - 1, by omega⟩
   rw [Nat.add_zero] at hi
   subst hi
   rw [AO, he]
   cases o with
   | next s => exact absurd rfl (ho s)
   | done s => rfl
   | ret r => rfl
  | succ j ih =>
   intro i M hi hM
   obtain ⟨m, rfl⟩ : ∃ m, M = m + 1 := ⟨M - 1, by omega⟩
   rw [AO, hb i (by omega)]
   exact ih (i + 1) m (by omega) (by omega)
 exact key k 0 N (by omega) hN
section
variable {N : Nat}
theorem lw (a b c : Int) : AP N a b c = some (decide (b <= a) && decide (a <= c)) := rfl
theorem rw2 (a b c : Int) : BH N a b c = some (decide (b <= a) && decide (a <= c)) := rfl
theorem R8 (b : UInt8) : W64 (b.toNat : Int) = (b.toNat : Int) := by
 have := b.toNat_lt
 exact ET (by omega) (by omega)
theorem Qq (b : UInt8) : Nl b = ((decide (65 <= (b.toNat : Int)) && decide ((b.toNat : Int) <= 90)) || ((decide (48 <= (b.toNat : Int)) && decide ((b.toNat : Int) <= 57)) || ((b.toNat : Int) == 47))) := by
 have e1 : isL b = (decide (65 <= (b.toNat : Int)) && decide ((b.toNat : Int) <= 90)) := by
  unfold isL; congr 1 <;> (rw [decide_eq_decide]; omega)
 have e2 : isD b = (decide (48 <= (b.toNat : Int)) && decide ((b.toNat : Int) <= 57)) := by
  unfold isD; congr 1 <;> (rw [decide_eq_decide]; omega)
 have e3 : (b == 47) = ((b.toNat : Int) == 47) := by
  rw [Bool.eq_iff_iff, beq_iff_eq, beq_iff_eq]
  constructor
  ·rintro rfl; rfl
  ·intro h
   have : b.toNat = 47 := by omega
   exact UInt8.toNat_inj.1 this
 unfold Nl
 rw [e1, e2, e3, Bool.or_assoc]
theorem SQ (s : UO) (hs : s.length < 4000000000) (hN : 4294967300 < N) : GY N s = some (HR s) := by
 unfold GY
 rw [lw, Option.bind_some, show (decide ((1 : Int) <= (s.length : Int)) && decide ((s.length : Int) <= (16 : Int))) = wiB s.length 1 16 from GQ _ 1 16]
 have h := L1 (body := Dp N s (wiB s.length 1 16)) (fun i => (wiB s.length 1 16 && (s.take i).all Nl, (i : Int))) (o := .done (HR s, (s.length : Int))) s.length (fun i hi => by
  unfold Dp
  simp only
  rw [EQ hi, cond_true, Gr hi, Option.bind_some, Iz i (by omega), R8, List.take_add_one, List.getElem?_eq_getElem hi, List.all_append]
  simp only [Option.toList_some, List.all_cons, List.all_nil, Bool.and_true]
  rw [Qq s[i], <- Bool.and_assoc]
  cases wiB s.length 1 16 && (s.take i).all Nl with
  | false => rfl
  | true =>
   rw [cond_true, lw, Option.bind_some, lw]
   cases (decide (65 <= (s[i].toNat : Int)) && decide ((s[i].toNat : Int) <= 90)) with
   | true => rfl
   | false =>
    rw [cond_false, Option.bind_some]
    cases (decide (48 <= (s[i].toNat : Int)) && decide ((s[i].toNat : Int) <= 57)) with
    | true => rfl
    | false => rfl) (by
  unfold Dp
  simp only
  rw [DC, cond_false, List.take_length]
  rfl) (fun s' h => by cases h) (N := N) (by omega)
 rw [show (wiB s.length 1 16, (0 : Int)) = (wiB s.length 1 16 && (s.take 0).all Nl, ((0 : Nat) : Int)) by simp, h]
 rfl
theorem SC (s : UO) (hs : s.length < 4000000000) (hN : 4294967300 < N) : FJ N s = some (HR s) := by
 unfold FJ HR
 have e : ((decide ((s.length : Int) < 1)) || (decide ((s.length : Int) > 16))) = !wiB s.length 1 16 := by
  unfold wiB
  rw [Bool.not_and, <- decide_not, <- decide_not]
  congr 1 <;> (rw [decide_eq_decide]; omega)
 rw [e]
 cases hw : wiB s.length 1 16 with
 | false => rfl
 | true =>
  rw [Bool.not_true, cond_false, Bool.true_and]
  rw [Iu (l := s) Nl false (fun i hi => by
   unfold D0
   rw [EQ hi, cond_true, Gr hi, Option.bind_some, Iz i (by omega)]
   have e : Dy N (s[i].toNat : Int) = some (Nl s[i]) := by
    rw [Qq]
    unfold Dy
    simp only [ge_iff_le]
    cases decide (65 <= (s[i].toNat : Int)) <;> cases decide ((s[i].toNat : Int) <= 90) <;> cases decide (48 <= (s[i].toNat : Int)) <;> cases decide ((s[i].toNat : Int) <= 57) <;> cases ((s[i].toNat : Int) == 47) <;> rfl
   rw [e, Option.bind_some]
   cases Nl s[i] <;> rfl) (by
   unfold D0
   rw [DC, cond_false]) (by omega)]
  cases s.all Nl <;> rfl
def S1 (x : Line) : Prop := x.Call.length < 4000000000
theorem Q3 (o : Ac) (x : Line) : L8 o x = ((decide (1 <= x.Num) && decide (x.Num <= 65535)) && ((decide (1 <= x.Khz) && decide (x.Khz <= 10000000)) && ((decide (1 <= x.Mode) && decide (x.Mode <= 3)) && ((decide (0 <= x.Minute) && decide (x.Minute <= 20000)) && (HR x.Call && (DT o x.Sent && DT o x.Got)))))) := by
 unfold L8
 simp only [Bool.decide_and]
theorem Qi (o : Ac) (x : Line) (hx : S1 x) (hN : 4294967300 < N) : BU N o x = some (L8 o x) := by
 unfold BU
 rw [Q3, lw, lw, lw, lw, SQ x.Call hx hN]
 simp only [Option.bind_some]
 rw [Mh _ _ hN, Mh _ _ hN]
 simp only [Option.bind_some]
 show _ = some _
 generalize (decide (1 <= x.Num) && decide (x.Num <= 65535)) = a
 generalize (decide (1 <= x.Khz) && decide (x.Khz <= 10000000)) = b
 generalize (decide (1 <= x.Mode) && decide (x.Mode <= 3)) = c
 generalize (decide (0 <= x.Minute) && decide (x.Minute <= 20000)) = d
 generalize HR x.Call = e
 cases a <;> cases b <;> cases c <;> cases d <;> cases e <;> first | rfl | (simp only [cond_true, cond_false, Bool.true_and]; cases DT o x.Sent <;> rfl)
theorem P7 (o : Ac) (x : Line) (hx : S1 x) (hN : 4294967300 < N) : B1 N o x = some (L8 o x) := by
 unfold B1
 rw [Q3, rw2, rw2, rw2, rw2, SC x.Call hx hN]
 simp only [Option.bind_some]
 rw [ND, ND]
 simp only [Option.bind_some]
 generalize (decide (1 <= x.Num) && decide (x.Num <= 65535)) = a
 generalize (decide (1 <= x.Khz) && decide (x.Khz <= 10000000)) = b
 generalize (decide (1 <= x.Mode) && decide (x.Mode <= 3)) = c
 generalize (decide (0 <= x.Minute) && decide (x.Minute <= 20000)) = d
 generalize HR x.Call = e
 cases a <;> cases b <;> cases c <;> cases d <;> cases e <;> first | rfl | (simp only [cond_true, cond_false, Bool.true_and, Bool.not_true, Bool.not_false, Option.bind_some]; cases DT o x.Sent <;> rfl)
def okJ (l : List Int) (i : Nat) : Bool := match l[i]? with
 | some x => decide (1 <= x /\ x <= 20000) && (decide (i = 0) || match l[i - 1]? with
  | some y => decide (y < x)
  | none => true)
 | none => true
theorem R6 {n : Nat} {ok : Nat -> Bool} : Jz n ok = true ↔ ∀ i, i < n -> ok i = true := ⟨fun h _ hi => R5 h hi, Qt⟩
theorem Tz : ∀ (l : List Int), QQ l = true ↔ ∀ i, i < l.length -> (i = 0 \/ ∃ x y, l[i]? = some x /\ l[i - 1]? = some y /\ y < x) := by
 intro l
 induction l with
 | nil => simp [QQ]
 | cons a r ih =>
  cases r with
  | nil =>
   simp only [QQ, true_iff]
   intro i hi
   exact .inl (by simpa using hi)
  | cons b r =>
   rw [QQ, Bool.and_eq_true, ih, decide_eq_true_eq]
   constructor
   ·rintro ⟨h1, h2⟩ i hi
    match i with
    | 0 => exact .inl rfl
    | 1 => exact .inr ⟨b, a, rfl, rfl, h1⟩
    | i + 2 =>
     rcases h2 (i + 1) (by simpa using hi) with h | ⟨x, y, e1, e2, h⟩
     ·omega
     ·exact .inr ⟨x, y, e1, e2, h⟩
   ·intro h
    refine ⟨?_, fun i hi => ?_⟩
    ·rcases h 1 (by simp) with h | ⟨x, y, e1, e2, h⟩
     ·omega
     ·cases e1; cases e2; exact h
    ·match i with
     | 0 => exact .inl rfl
     | i + 1 =>
      rcases h (i + 2) (by simpa using hi) with h | ⟨x, y, e1, e2, h⟩
      ·omega
      ·exact .inr ⟨x, y, e1, e2, h⟩
theorem RG (l : List Int) : O1 l = (Jz l.length (okJ l) && decide (l.length <= 16)) := by
 unfold O1
 rw [<- Bool.and_assoc]
 congr 1
 rw [Bool.eq_iff_iff, Bool.and_eq_true, Tz, R6, List.all_eq_true]
 constructor
 ·rintro ⟨h1, h2⟩ i hi
  unfold okJ
  rw [List.getElem?_eq_getElem hi]
  have := h1 l[i] (List.getElem_mem hi)
  simp only [this, Bool.true_and]
  rcases h2 i hi with h | ⟨x, y, e1, e2, h⟩
  ·rw [decide_eq_true h]; rfl
  ·rw [List.getElem?_eq_getElem hi] at e1
   cases e1
   rw [e2]
   simp [h]
 ·intro h
  refine ⟨fun x hx => ?_, fun i hi => ?_⟩
  ·obtain ⟨i, hi, rfl⟩ := List.mem_iff_getElem.1 hx
   have := h i hi
   unfold okJ at this
   rw [List.getElem?_eq_getElem hi] at this
   simp only [Bool.and_eq_true] at this
   exact this.1
  ·by_cases h0 : i = 0
   ·exact .inl h0
   ·have := h i hi
    unfold okJ at this
    rw [List.getElem?_eq_getElem hi] at this
    have hi1 : i - 1 < l.length := by omega
    rw [List.getElem?_eq_getElem hi1] at this
    simp only [Bool.and_eq_true, decide_eq_false h0, Bool.false_or, decide_eq_true_eq] at this
    exact .inr ⟨l[i], l[i - 1], List.getElem?_eq_getElem hi, List.getElem?_eq_getElem hi1, this.2⟩
theorem SP (l : List Int) (hl : l.length < 4000000000) (hN : 4294967300 < N) : En N l = some (O1 l) := by
 rw [RG]
 unfold En
 rw [Lt (n := l.length) (okJ l) false (fun i hi => by
  unfold Eu
  rw [EQ hi, cond_true, D7 hi, Option.bind_some, lw, Option.bind_some, Iz i (by omega)]
  unfold okJ
  rw [List.getElem?_eq_getElem hi]
  simp only [Bool.decide_and]
  cases (decide (1 <= l[i]) && decide (l[i] <= 20000)) with
  | false => rfl
  | true =>
   rw [Bool.not_true, cond_false, Bool.true_and]
   by_cases h0 : i = 0
   ·subst h0; rfl
   ·have hi1 : i - 1 < l.length := by omega
    rw [decide_eq_true (show (i : Int) > 0 by omega), cond_true, Si i (by omega) (by omega), D7 hi1, Option.bind_some, List.getElem?_eq_getElem hi1, decide_eq_false h0, Bool.false_or]
    simp only
    rw [show decide (l[i] <= l[i - 1]) = !decide (l[i - 1] < l[i]) by rw [<- decide_not, decide_eq_decide]; omega]
    cases decide (l[i - 1] < l[i]) <;> rfl) (by
  unfold Eu
  rw [DC, cond_false]) (by omega)]
 cases Jz l.length (okJ l) with
 | false => rfl
 | true => 
  rw [cond_true, Bool.true_and]
  congr 1
  rw [decide_eq_decide]; omega
theorem SB (l : List Int) (hl : l.length < 4000000000) (hN : 4294967300 < N) : FH N l = some (O1 l) := by
 rw [RG]
 unfold FH
 rw [Lt (n := l.length) (okJ l) false (fun i hi => by
  unfold DY
  rw [EQ hi, cond_true, D7 hi, Option.bind_some, rw2, Option.bind_some, Iz i (by omega)]
  unfold okJ
  rw [List.getElem?_eq_getElem hi]
  simp only [Bool.decide_and]
  cases (decide (1 <= l[i]) && decide (l[i] <= 20000)) with
  | false => rfl
  | true =>
   rw [Bool.not_true, cond_false, Bool.true_and]
   by_cases h0 : i = 0
   ·subst h0; rfl
   ·have hi1 : i - 1 < l.length := by omega
    rw [decide_eq_true (show (i : Int) > 0 by omega), cond_true, Option.bind_some, Si i (by omega) (by omega), D7 hi1, Option.bind_some, List.getElem?_eq_getElem hi1, decide_eq_false h0, Bool.false_or]
    simp only
    rw [show decide (l[i] <= l[i - 1]) = !decide (l[i - 1] < l[i]) by rw [<- decide_not, decide_eq_decide]; omega]
    cases decide (l[i - 1] < l[i]) <;> rfl) (by
  unfold DY
  rw [DC, cond_false]) (by omega)]
 cases Jz l.length (okJ l) with
 | false => rfl
 | true => 
  rw [cond_true, Bool.true_and]
  congr 1
  rw [decide_eq_decide]; omega
structure QY (l : Log) : Prop where
 j : l.Jumps.length < 4000000000
 n : l.Lines.length < 4000000000
 x : ∀ x, x ∈ l.Lines -> S1 x
theorem RZ {o : Ac} {l : List Line} {k : Nat} (h : Jk o l = some k) : k < l.length /\ PH o l k = false /\ ∀ i, i < k -> PH o l i = true := by
 unfold Jk at h
 rw [List.find?_range_eq_some] at h
 obtain ⟨h1, h2, h3⟩ := h
 refine ⟨by simpa using h2, by simpa using h1, fun i hi => ?_⟩
 have := h3 i hi
 simpa using this
theorem R2 {o : Ac} {l : List Line} (h : Jk o l = none) : ∀ i, i < l.length -> PH o l i = true := by
 unfold Jk at h
 rw [List.find?_range_eq_none] at h
 intro i hi
 have := h i hi
 simpa using this
theorem MA {body : Int -> Option (Ba (Int × Int) Int)} (o : Ac) (l : List Line) (hb : ∀ i, i < l.length -> body (i : Int) = some (bif PH o l i then .next ((i + 1 : Nat) : Int) else .ret (21, ((i + 1 : Nat) : Int))))
  (he : body (l.length : Int) = some (.done (l.length : Int))) (hN : l.length < N) : ((AO body N 0).bind fun o => o.k (fun r => some r) (fun _ => some ((0 : Int), (0 : Int)))) = some (match Jk o l with | some i => (21, (i : Int) + 1) | none => (0, 0)) := by
 cases h : Jk o l with
 | some k =>
  obtain ⟨h1, h2, h3⟩ := RZ h
  have := L1 (body := body) (fun i => (i : Int)) (o := .ret (21, ((k + 1 : Nat) : Int))) k (fun i hi => by rw [hb i (by omega), h3 i hi]; rfl) (by rw [hb k h1, h2]; rfl) (fun s' h => by cases h) (N := N) (by omega)
  rw [show (0 : Int) = ((0 : Nat) : Int) from rfl, this]
  rfl
 | none =>
  have h3 := R2 h
  have := L1 (body := body) (fun i => (i : Int)) (o := .done (l.length : Int)) l.length (fun i hi => by rw [hb i hi, h3 i hi]; rfl) he (fun s' h => by cases h) hN
  rw [show (0 : Int) = ((0 : Nat) : Int) from rfl, this]
  rfl
theorem Ko (a b c : Int) : (decide (b <= a) && decide (a <= c)) = decide (b <= a /\ a <= c) := (Bool.decide_and _ _).symm
theorem Qk (o : Ac) (l : Log) (hl : QY l) (hN : 4294967300 < N) : Cw N o l = some (chk o l) := by
 unfold Cw chk
 by_cases h1 : l.Jumps.length > 16 \/ l.Lines.length > 400
 ·rw [if_pos h1, show (decide ((l.Jumps.length : Int) > 16) || decide ((l.Lines.length : Int) > 400)) = true by simp; omega]
  rfl
 ·rw [if_neg h1, show (decide ((l.Jumps.length : Int) > 16) || decide ((l.Lines.length : Int) > 400)) = false by simp; omega, cond_false]
  unfold Dw
  rw [lw, lw, lw, SP _ hl.j hN, Ko, Ko, Ko]
  simp only [Option.bind_some]
  have e : O6 l = (Gc l.Call && (decide (1 <= l.Category /\ l.Category <= 9) && (decide (1 <= l.Power /\ l.Power <= 9999) && (decide (0 <= l.Claimed /\ l.Claimed <= 1000000) && O1 l.Jumps)))) := rfl
  rw [e]
  have key := MA (N := N) (body := Dq N o l false) o l.Lines (fun i hi => by
   unfold Dq
   have hfi := hl.x _ (List.getElem_mem hi)
   have hln := hl.n
   rw [EQ hi, cond_true, D7 hi, Option.bind_some, Qi _ _ hfi hN, Option.bind_some, Iz i (by omega)]
   unfold PH
   rw [List.getElem?_eq_getElem hi]
   simp only
   cases L8 o l.Lines[i] with
   | false => rfl
   | true =>
    rw [Bool.not_true, cond_false, Bool.true_and]
    by_cases h0 : i = 0
    ·subst h0; rfl
    ·have hi1 : i - 1 < l.Lines.length := by omega
     rw [decide_eq_true (show (i : Int) > 0 by omega), cond_true, Si i (by omega) (by omega), D7 hi1, Option.bind_some, List.getElem?_eq_getElem hi1, decide_eq_false h0, Bool.false_or]
     simp only [Option.bind_some]
     rw [show decide (l.Lines[i].Num <= l.Lines[i - 1].Num) = !decide (l.Lines[i - 1].Num < l.Lines[i].Num) by rw [<- decide_not, decide_eq_decide]; omega, show decide (l.Lines[i].Minute < l.Lines[i - 1].Minute) = !decide (l.Lines[i - 1].Minute <= l.Lines[i].Minute) by rw [<- decide_not, decide_eq_decide]; omega]
     cases decide (l.Lines[i - 1].Num < l.Lines[i].Num) <;> cases decide (l.Lines[i - 1].Minute <= l.Lines[i].Minute) <;> rfl) (by
   unfold Dq
   rw [DC, cond_false]) (by have := hl.n; omega)
  generalize Gc l.Call = a
  generalize decide (1 <= l.Category /\ l.Category <= 9) = b
  generalize decide (1 <= l.Power /\ l.Power <= 9999) = c
  generalize decide (0 <= l.Claimed /\ l.Claimed <= 1000000) = d
  generalize O1 l.Jumps = e
  cases a <;> cases b <;> cases c <;> cases d <;> cases e <;> first | rfl | exact key
theorem Tn (l : Log) (hl : QY l) (hN : 4294967300 < N) : GV N l = some (O6 l) := by
 unfold GV
 rw [Ra _ hN, rw2, rw2, rw2, SB _ hl.j hN, Ko, Ko, Ko]
 simp only [Option.bind_some]
 have e : O6 l = (Gc l.Call && (decide (1 <= l.Category /\ l.Category <= 9) && (decide (1 <= l.Power /\ l.Power <= 9999) && (decide (0 <= l.Claimed /\ l.Claimed <= 1000000) && O1 l.Jumps)))) := rfl
 rw [e]
 cases Gc l.Call <;> cases decide (1 <= l.Category /\ l.Category <= 9) <;> cases decide (1 <= l.Power /\ l.Power <= 9999) <;> cases decide (0 <= l.Claimed /\ l.Claimed <= 1000000) <;> rfl
theorem P8 (o : Ac) (l : Log) (hl : QY l) (hN : 4294967300 < N) : CV N o l = some (chk o l) := by
 unfold CV chk
 by_cases h1 : l.Jumps.length > 16 \/ l.Lines.length > 400
 ·rw [if_pos h1, show (decide ((l.Jumps.length : Int) > 16) || decide ((l.Lines.length : Int) > 400)) = true by simp; omega]
  rfl
 ·rw [if_neg h1, show (decide ((l.Jumps.length : Int) > 16) || decide ((l.Lines.length : Int) > 400)) = false by simp; omega, cond_false, Tn l hl hN, Option.bind_some]
  cases hd : O6 l with
  | false => rfl
  | true =>
   rw [Bool.not_true, cond_false, if_neg (by decide)]
   exact MA (N := N) (body := CU N o l true) o l.Lines (fun i hi => by
    unfold CU
    have hfi := hl.x _ (List.getElem_mem hi)
    have hln := hl.n
    rw [EQ hi, cond_true, D7 hi, Option.bind_some, P7 _ _ hfi hN, Option.bind_some, Iz i (by omega)]
    unfold PH
    rw [List.getElem?_eq_getElem hi]
    simp only
    cases L8 o l.Lines[i] with
    | false => rfl
    | true =>
     rw [Bool.not_true, cond_false, Bool.true_and]
     by_cases h0 : i = 0
     ·subst h0; rfl
     ·have hi1 : i - 1 < l.Lines.length := by omega
      rw [decide_eq_true (show (i : Int) > 0 by omega), cond_true, Si i (by omega) (by omega), D7 hi1, Option.bind_some, List.getElem?_eq_getElem hi1, decide_eq_false h0, Bool.false_or]
      simp only [Option.bind_some]
      rw [show decide (l.Lines[i].Num <= l.Lines[i - 1].Num) = !decide (l.Lines[i - 1].Num < l.Lines[i].Num) by rw [<- decide_not, decide_eq_decide]; omega, show decide (l.Lines[i].Minute < l.Lines[i - 1].Minute) = !decide (l.Lines[i - 1].Minute <= l.Lines[i].Minute) by rw [<- decide_not, decide_eq_decide]; omega]
      cases decide (l.Lines[i - 1].Num < l.Lines[i].Num) <;> cases decide (l.Lines[i - 1].Minute <= l.Lines[i].Minute) <;> rfl) (by
    unfold CU
    rw [DC, cond_false]) (by have := hl.n; omega)
def TS (o : Ac) (l : Log) : Bool := (chk o l).1 == 0
theorem Tt (o : Ac) (l : Log) (hl : QY l) (hN : 4294967300 < N) : CG N o l = some (TS o l) := by
 unfold CG
 show (Cw N o l).bind _ = _
 rw [Qk o l hl hN]; rfl
theorem To (o : Ac) (l : Log) (hl : QY l) (hN : 4294967300 < N) : CT N o l = some (TS o l) := by
 unfold CT
 show (CV N o l).bind _ = _
 rw [P8 o l hl hN]; rfl
end
end
def JP (N : Nat) (x0 : Log) : Option UO :=
 ((DE ([67, 65, 76, 76, 32] : UO) x0.Call).bind fun r24 => some r24)
theorem LR : Af Tryz.prog 154 := fun _ _ => by kernel_rfl
theorem MY (N : Nat) (w0 : World) (F0 : Mem) (hF : UQ w0 F0) (x0 : Log) (a0_4 : UP) (n0_4 : Nat) (hb0_4 : LC x0.Jumps.length n0_4) (hs0_4 : SlA AH F0 a0_4 x0.Jumps) (a0_5 : UP) (n0_5 : Nat) (hb0_5 : LC x0.Lines.length n0_5) (hs0_5 : SlA AF F0 a0_5 x0.Lines) (r : UO) (h : JP N x0 = some r) :
  Calls Tryz.prog 154 ([(.agg (AC x0 a0_4 n0_4 a0_5 n0_5))] : List Value).toArray w0 (AA w0 F0 fun F' v => v = (sv r)) := by
 have hs0 := Uv hF
 refine Go 6 Tryz.func154 <| Sq (Rg [0, 1] ?_)
 refine Bx' 27 (AC x0 a0_4 n0_4 a0_5 n0_5) hs0 (fun b21 w22 hs23 => ?_)
 refine Vs 1 <| Nss (Rg (rG 4) ?_)
 refine Vs 1 <| Ld hs23.at0 ?_
 obtain ⟨r24, hr25, h26⟩ := bind_some h
 refine V 5 9 (AV (t := 9) (t' := 9) (x := (.const (sv ([67, 65, 76, 76, 32] : UO)))) (y := (.tmp 4)) (a := ([67, 65, 76, 76, 32] : UO)) (b := x0.Call) (v := r24) rfl rfl hr25) <| Vs 1 <| Nt <| Rt ?_
 obtain rfl := Aa h26
 exact Re [(sv r24)] hs23 rfl
def Fj (N : Nat) (x0 : Log) : (UO × Int) -> Option (Ba UO (UO × Int)) := fun s27 =>
 (bif (decide (s27.2 < (x0.Jumps.length : Int))) then none else some (.done (s27.1, s27.2)))
def Hb (N : Nat) (x0 : Log) : Option UO :=
 ((AO (Fj N x0) N (([74, 85, 77, 80, 83] : UO), 0)).bind fun o => o.k (fun r => some r) (fun s36 => some s36.1))
theorem Jn : Af Tryz.prog 160 := fun _ _ => by kernel_rfl
theorem Kf (N : Nat) (w0 : World) (F0 : Mem) (hF : UQ w0 F0) (hG : Bm F0) (x0 : Log) (a0_4 : UP) (n0_4 : Nat) (hb0_4 : LC x0.Jumps.length n0_4) (hs0_4 : SlA AH F0 a0_4 x0.Jumps) (a0_5 : UP) (n0_5 : Nat) (hb0_5 : LC x0.Lines.length n0_5) (hs0_5 : SlA AF F0 a0_5 x0.Lines) (r : UO) (h : Hb N x0 = some r) :
  Calls Tryz.prog 160 ([(.agg (AC x0 a0_4 n0_4 a0_5 n0_5))] : List Value).toArray w0 (AA w0 F0 fun F' v => v = (sv r)) := by
 have hs0 := Uv hF
 refine Go 20 Tryz.func160 <| Sq (Rg [0, 1] ?_)
 refine Bx' 27 (AC x0 a0_4 n0_4 a0_5 n0_5) hs0 (fun b21 w22 hs23 => ?_)
 refine Vs 1 <| Nss (Rg [0] ?_)
 refine Vs 1 <| Nss <| Sq (Rg (rG 4) ?_)
 refine Vs 1 <| Ld hs23.at0 <| Vs 2 <| Nt ?_
 obtain ⟨o24, ho25, h26⟩ := bind_some h
 refine UA (fun f w => ∃ (s36 : (UO × Int)) (F2 : Mem), o24 = .done s36 /\ HS w0 F0 w F2 [] /\ Ut F0 F2 /\ FI f [] [(3, (sv s36.1))]) ?_ ?_
 ·refine Bk ?_
  refine Us (by kernel_rfl) (fun m f w => ∃ (s27 : (UO × Int)) (F1 : Mem), AO (Fj N x0) m s27 = some o24 /\ HS w0 F0 w F1 [] /\ Ut F0 F1 /\ FI f [] [(3, (sv s27.1)), (7, (.slice a0_4 x0.Jumps.length n0_4)), (8, (vi (x0.Jumps.length : Int))), (9, (vi s27.2))]) N ⟨(([74, 85, 77, 80, 83] : UO), 0), F0, ho25, hs23.dr0, (Uu _), fI⟩ ?_
  rintro m42 f w28 ⟨s27, F1, hit43, hs29, le30, ⟨_, rfl⟩⟩
  obtain ⟨m44, fl45, rfl, hb46, hnx47⟩ := AD hit43
  refine Sq (Rg [0] ?_)
  refine Vs 1 <| Nss <| Cd hb46 (fun hb48 h49 => ?_) (fun hb48 h50 => ?_)
  ·cases h49
  ·refine Ex ?_
   refine Ao <| Ao <| Ay rfl ?_
   have ho51 := AE h50 hnx47
   exact .inl ⟨rfl, (s27.1, s27.2), F1, ho51, hs29, le30, fI⟩
 ·rintro f w37 ⟨s36, F2, rfl, hs38, le39, ⟨_, rfl⟩⟩
  have h52 := Bc h26
  refine Ab <| Sq (Rg [0, 1] ?_)
  refine Vs 2 <| Nt <| Rt ?_
  obtain rfl := Aa h52
  exact Re [(sv s36.1)] hs38 rfl
def Fl (N : Nat) (x0 : Ac) (x1 : Line) : Option (UO × Int) :=
 ((BU N ({ Report := x0.Report, Serial := x0.Serial, Zone := x0.Zone } : Ac) x1).bind fun r27 => (bif (!r27) then none else ((CH N x1.Minute).bind fun r38 => ((Bt N ({ Report := x0.Report, Serial := x0.Serial, Zone := x0.Zone } : Ac) ({ Report := x1.Sent.Report, Serial := x1.Sent.Serial, Zone := x1.Sent.Zone } : Ad)).bind fun r46 => ((Bt N ({ Report := x0.Report, Serial := x0.Serial, Zone := x0.Zone } : Ac) ({ Report := x1.Got.Report, Serial := x1.Got.Serial, Zone := x1.Got.Zone } : Ad)).bind fun r54 => (((JE ([32, 77, 86, 68] : UO) x1.Mode (W64 (x1.Mode + 1))).bind fun r73 => ((strconv_Itoa N x1.Num).bind fun r76 => ((strconv_Itoa N x1.Khz).bind fun r84 => ((strings_Join N ([([81, 83, 79] : UO), r76, r84, r73, r38.1, x1.Call, ([62] : UO), r46.1, ([60] : UO), r54.1]) ([32] : UO)).bind fun r101 => some r101)))).bind fun j67 => some (j67, 0)))))))
theorem FX : Af Tryz.prog 27 := fun _ _ => by kernel_rfl
theorem GO (N : Nat) (w0 : World) (F0 : Mem) (hF : UQ w0 F0) (hG : Bm F0) (x0 : Ac) (x1 : Line) (r : (UO × Int)) (h : Fl N x0 x1 = some r) :
  Calls Tryz.prog 27 ([(.agg (Ag x0)), (.agg (BN x1))] : List Value).toArray w0 (AA w0 F0 fun F' v => v = (.tuple #[(sv r.1), (vi r.2)])) := by
 have hs0 := Uv hF
 refine Go 55 Tryz.func27 <| Sq (Rg (rG 4) ?_)
 refine Bx' 23 (Ag x0) hs0 (fun b21 w22 hs23 => ?_)
 refine Bx' 34 (BN x1) hs23 (fun b24 w25 hs26 => ?_)
 refine Vs 2 <| Nss <| Sq (Rg (rG 4) ?_)
 refine Ld hs26.at1 <| Ld hs26.at0 ?_
 obtain ⟨r27, hr28, h29⟩ := bind_some h
 refine Cl' Ea hs26 (Ep N w25 F0 hs26.pers (({ Report := x0.Report, Serial := x0.Serial, Zone := x0.Zone } : Ac)) x1 _ hr28) ?_
 rintro _ F1 w31 hs32 le33 rfl
 refine Vs 1 <| Nt <| Cd h29 (fun hb35 h36 => ?_) (fun hb35 h37 => ?_)
 ·cases h36
 ·refine Sc ?_
  refine Ab <| Sq (Rg (rG 8) ?_)
  refine Vs 1 <| Ld hs32.at0 ?_
  obtain ⟨r38, hr39, h40⟩ := bind_some h37
  refine Cl' GJ hs32 (Hp N w31 F1 hs32.pers (hG.mono le33) x1.Minute _ hr39) ?_
  rintro _ F2 w42 hs43 le44 rfl
  refine Vs 5 <| Nss (Rg (rG 9) ?_)
  refine Ld hs43.at1 <| Vs 1 <| Ld hs43.at0 ?_
  obtain ⟨r46, hr47, h48⟩ := bind_some h40
  refine Cl' CY hs43 (Dj N w42 F2 hs43.pers (hG.mono (le33.t le44)) (({ Report := x0.Report, Serial := x0.Serial, Zone := x0.Zone } : Ac)) (({ Report := x1.Sent.Report, Serial := x1.Sent.Serial, Zone := x1.Sent.Zone } : Ad)) _ hr47) ?_
  rintro _ F3 w50 hs51 le52 rfl
  refine Vs 5 <| Nss (Rg (rG 9) ?_)
  refine Ld hs51.at1 <| Vs 1 <| Ld hs51.at0 ?_
  obtain ⟨r54, hr55, h56⟩ := bind_some h48
  refine Cl' CY hs51 (Dj N w50 F3 hs51.pers (hG.mono ((le33.t le44).trans le52)) (({ Report := x0.Report, Serial := x0.Serial, Zone := x0.Zone } : Ac)) (({ Report := x1.Got.Report, Serial := x1.Got.Serial, Zone := x1.Got.Zone } : Ad)) _ hr55) ?_
  rintro _ F4 w58 hs59 le60 rfl
  refine Vs 5 <| Nss ?_
  obtain ⟨j67, hj71, h72⟩ := bind_some h56
  refine RD 21 21 [(sb b24 (BN x1) 34), (sb b21 (Ag x0) 23)] [] hs59 (fun f w => ∃ (F5 : Mem), HS w0 F0 w F5 [] /\ Ut F4 F5 /\ FI f [] [(4, (sv j67)), (5, (vi 0))]) (fun wd62 hw63 => ?_) ?_
  ·refine Dvl [0] (tf 1 20) ?_
   refine Dl 1 (fun _ hq => (hq.1.2 0 _ _ rfl)) <| Dvl [3] [tt, tt, ff, tt, ff, ff, ff, ff, ff, ff, ff, ff, ff, ff, ff, ff, ff, ff, ff, ff, ff] <| Dl 4 (fun _ hq => (hq.1.2 0 _ _ rfl)) <| Dvl [6] [tt, tt, ff, tt, tt, ff, tt, ff, ff, ff, ff, ff, ff, ff, ff, ff, ff, ff, ff, ff, ff] <| Dl 7 (fun _ hq => (hq.1.2 0 _ _ rfl)) <| Dvl [8] [tt, tt, ff, tt, tt, ff, tt, tt, tt, ff, ff, ff, ff, ff, ff, ff, ff, ff, ff, ff, ff] <| Dl 9 (fun _ hq => (hq.1.2 0 _ _ rfl)) <| Dvl [10] [tt, tt, ff, tt, tt, ff, tt, tt, tt, tt, tt, ff, ff, ff, ff, ff, ff, ff, ff, ff, ff] ?_
   obtain ⟨r73, hr74, h75⟩ := bind_some hj71
   refine Dtl 11 47 9 (sv r73) [tt, tt, ff, tt, tt, ff, tt, tt, tt, tt, tt, tt, ff, ff, ff, ff, ff, ff, ff, ff, ff] (fun _ hq => Fg (t := 9) (x := (.const (sv ([32, 77, 86, 68] : UO)))) (lo := (some (.tmp 43))) (hi := (some (.tmp 46))) (a := ([32, 77, 86, 68] : UO)) (il := x1.Mode) (ih := (W64 (x1.Mode + 1))) (v := r73) rfl (by kernel_rfl) rfl rfl hr74) <| Dvl [12, 13] [tt, tt, ff, tt, tt, ff, tt, tt, tt, tt, tt, tt, tt, tt, ff, ff, ff, ff, ff, ff, ff] <| Dl 14 (fun _ hq => (hq.1.2 0 _ _ rfl)) <| Dvl [15, 16] [tt, tt, ff, tt, tt, ff, tt, tt, tt, tt, tt, tt, tt, tt, tt, tt, tt, ff, ff, ff, ff] <| D1 2 ?_
   obtain ⟨r76, hr77, h78⟩ := bind_some h75
   refine DCl Bz hw63 (BJ N wd62 F4 hw63.pers (hG.mono (((le33.t le44).trans le52).trans le60)) x1.Num _ hr77) ?_
   rintro _ F6 w80 hs81 le82 rfl
   refine D1 5 ?_
   obtain ⟨r84, hr85, h86⟩ := bind_some h78
   refine DCl Bz hs81 (BJ N w80 F6 hs81.pers (hG.mono ((((le33.t le44).trans le52).trans le60).trans le82)) x1.Khz _ hr85) ?_
   rintro _ F7 w88 hs89 le90 rfl
   refine D1 17 <| DBs 9 [(sv (([81, 83, 79] : UO))), (sv r76), (sv r84), (sv r73), (sv r38.1), (sv x1.Call), (sv (([62] : UO))), (sv r46.1), (sv (([60] : UO))), (sv r54.1)] hs89 (le82.t le90) (fun b92 w93 hs94 => ?_)
   have hr96 : Av AK 9 F7 (some ⟨b92, 0, none⟩) 10 [([81, 83, 79] : UO), r76, r84, r73, r38.1, x1.Call, ([62] : UO), r46.1, ([60] : UO), r54.1] (some b92, .cells ([(sv (([81, 83, 79] : UO))), (sv r76), (sv r84), (sv r73), (sv r38.1), (sv x1.Call), (sv (([62] : UO))), (sv r46.1), (sv (([60] : UO))), (sv r54.1)] : List Value).toArray 9 (0, 0)) := UJ ⟨rfl, ⟨rfl, ⟨rfl, ⟨rfl, ⟨rfl, ⟨rfl, ⟨rfl, ⟨rfl, ⟨rfl, ⟨rfl, rfl⟩⟩⟩⟩⟩⟩⟩⟩⟩⟩ (by simp)
   refine D1 18 ?_
   have hb100 := UH hr96
   obtain ⟨F8, hs97, le98, hs99⟩ := hs94.fr0 hr96
   obtain ⟨r101, hr102, h103⟩ := bind_some h86
   refine DCl B3 hs97 (Ck N w93 F8 hs97.pers ([([81, 83, 79] : UO), r76, r84, r73, r38.1, x1.Call, ([62] : UO), r46.1, ([60] : UO), r54.1]) (some ⟨b92, 0, none⟩) 10 hb100 hs99 (([32] : UO)) _ hr102) ?_
   rintro _ F9 w105 hs106 le107 rfl
   refine Dvl [19, 20] (tf 21 0) ?_
   obtain rfl := Aa h103
   exact UG (by kernel_rfl) ⟨F9, hs106.dr0.dr0, (((le82.t le90).trans le98).trans le107), fI⟩
  ·rintro f w64 ⟨F5, hs65, le66, ⟨_, rfl⟩⟩
   refine Ab <| Rt ?_
   obtain rfl := Aa h72
   exact Re [(sv j67), (vi 0)] hs65 rfl
theorem KX : Af Tryz.prog 156 := fun _ _ => by kernel_rfl
set_option maxRecDepth 100000 in
theorem MX (w0 : World) (F0 : Mem) (hF : UQ w0 F0) (b o : Nat) : Calls Tryz.prog 156 ([(.pointer (some ⟨b, o, none⟩))] : List Value).toArray w0 (AA w0 F0 fun _ v => v = .pointer (some ⟨b, o + 1, none⟩)) := by
 have hs0 := Uv hF
 refine Go 6 Tryz.func156 <| Sq <| Rg [0] <| V 2 194 (GU (x := .const (.pointer none)) (v := .pointer none) rfl) <| Up <| Ab <| Sq <| Rg [0, 1, 2, 3] <| Vs 2 <| V 5 0 (CF (s := 27) (x := .tmp 4) (i := 1) (b := b) (o0 := o) (o := 1) (k := 1) rfl (by kernel_rfl) (by decide) rfl) <| Vs 1 <| Up <| Ab <| Rt ?_
 exact Re [(.pointer (some ⟨b, o + 1, none⟩))] hs0 rfl
theorem KW : Af Tryz.prog 157 := fun _ _ => by kernel_rfl
set_option maxRecDepth 100000 in
theorem MW (w0 : World) (F0 : Mem) (hF : UQ w0 F0) (b o : Nat) : Calls Tryz.prog 157 ([(.pointer (some ⟨b, o, none⟩))] : List Value).toArray w0 (AA w0 F0 fun _ v => v = .pointer (some ⟨b, o + 2, none⟩)) := by
 have hs0 := Uv hF
 refine Go 6 Tryz.func157 <| Sq <| Rg [0] <| V 2 194 (GU (x := .const (.pointer none)) (v := .pointer none) rfl) <| Up <| Ab <| Sq <| Rg [0, 1, 2, 3] <| Vs 2 <| V 5 0 (CF (s := 27) (x := .tmp 4) (i := 2) (b := b) (o0 := o) (o := 2) (k := 1) rfl (by kernel_rfl) (by decide) rfl) <| Vs 1 <| Up <| Ab <| Rt ?_
 exact Re [(.pointer (some ⟨b, o + 2, none⟩))] hs0 rfl
theorem KV : Af Tryz.prog 158 := fun _ _ => by kernel_rfl
set_option maxRecDepth 100000 in
theorem MV (w0 : World) (F0 : Mem) (hF : UQ w0 F0) (b o : Nat) : Calls Tryz.prog 158 ([(.pointer (some ⟨b, o, none⟩))] : List Value).toArray w0 (AA w0 F0 fun _ v => v = .pointer (some ⟨b, o + 3, none⟩)) := by
 have hs0 := Uv hF
 refine Go 6 Tryz.func158 <| Sq <| Rg [0] <| V 2 194 (GU (x := .const (.pointer none)) (v := .pointer none) rfl) <| Up <| Ab <| Sq <| Rg [0, 1, 2, 3] <| Vs 2 <| V 5 0 (CF (s := 27) (x := .tmp 4) (i := 3) (b := b) (o0 := o) (o := 3) (k := 1) rfl (by kernel_rfl) (by decide) rfl) <| Vs 1 <| Up <| Ab <| Rt ?_
 exact Re [(.pointer (some ⟨b, o + 3, none⟩))] hs0 rfl
def GA (N : Nat) (x0 : Log) (z0 : UO) : Option UO :=
 (((DE z0 ([32] : UO)).bind fun r34 => ((strconv_Itoa N x0.Category).bind fun r40 => ((DE r34 r40).bind fun r48 => some r48))).bind fun j29 => some j29)
theorem ID : Af Tryz.prog 191 := fun _ _ => by kernel_rfl
theorem Js (N : Nat) (w0 : World) (F0 : Mem) (hF : UQ w0 F0) (hG : Bm F0) (x0 : Log) (a0_4 : UP) (n0_4 : Nat) (hb0_4 : LC x0.Jumps.length n0_4) (hs0_4 : SlA AH F0 a0_4 x0.Jumps) (a0_5 : UP) (n0_5 : Nat) (hb0_5 : LC x0.Lines.length n0_5) (hs0_5 : SlA AF F0 a0_5 x0.Lines) (bz0 : Nat) (z0 : UO) (hz0 : F0 bz0 = some (oc #[(sv z0)] 9)) (bz1 : Nat) (hz1 : F0 bz1 = some (oc #[(fV 156 #[])] 195)) (r : UO) (h : GA N x0 z0 = some r) :
  Calls Tryz.prog 191 ([(.agg (AC x0 a0_4 n0_4 a0_5 n0_5)), (pt bz0 0), (pt bz1 0)] : List Value).toArray w0 (AA w0 F0 fun F' v => v = (sv r)) := by
 have hs0 := Uv hF
 refine Go 13 Tryz.func191 <| Sq (Rg [0, 1] ?_)
 refine Bx' 27 (AC x0 a0_4 n0_4 a0_5 n0_5) hs0 (fun b21 w22 hs23 => ?_)
 refine Vs 1 <| Nss ?_
 obtain ⟨j29, hj32, h33⟩ := bind_some h
 refine RD 9 9 [(sb b21 (AC x0 a0_4 n0_4 a0_5 n0_5) 27)] [] hs23 (fun f w => ∃ (F1 : Mem), HS w0 F0 w F1 [] /\ Ut F0 F1 /\ FI f [] [(4, (sv j29))]) (fun wd24 hw25 => ?_) ?_
 ·refine Dl 0 (fun _ hq => (hq.1.1 _ _ hz0)) ?_
  obtain ⟨r34, hr35, h36⟩ := bind_some hj32
  refine Dt 1 6 9 (sv r34) (fun _ hq => AV (t := 9) (t' := 9) (x := (.tmp 5)) (y := (.const (sv ([32] : UO)))) (a := z0) (b := ([32] : UO)) (v := r34) rfl rfl hr35) <| Dl 2 (fun _ hq => (hq.1.1 _ _ hz1)) <| D1 3 <| DCl KX hw25 (MX wd24 F0 hw25.pers b21 0) ?_
  rintro _ F2 w37 hs38 le39 rfl
  refine Dv [4] <| Dl 5 (fun _ hq => (hq.1.2 0 _ _ rfl)) <| D1 6 ?_
  obtain ⟨r40, hr41, h42⟩ := bind_some h36
  refine DCl Bz hs38 (BJ N w37 F2 hs38.pers (hG.mono le39) x0.Category _ hr41) ?_
  rintro _ F3 w44 hs45 le46 rfl
  obtain ⟨r48, hr49, h50⟩ := bind_some h42
  refine Dt 7 12 9 (sv r48) (fun _ hq => AV (t := 9) (t' := 9) (x := (.tmp 6)) (y := (.tmp 11)) (a := r34) (b := r40) (v := r48) rfl rfl hr49) <| Dv [8] ?_
  obtain rfl := Aa h50
  exact UG (by kernel_rfl) ⟨F3, hs45.dr0, (le39.t le46), fI⟩
 ·rintro f w26 ⟨F1, hs27, le28, ⟨_, rfl⟩⟩
  refine Ab <| Rt ?_
  obtain rfl := Aa h33
  exact Re [(sv j29)] hs27 rfl
def Gy (N : Nat) (x0 : Log) (z0 : UO) : Option UO :=
 (((DE z0 ([32] : UO)).bind fun r34 => ((strconv_Itoa N x0.Power).bind fun r40 => ((DE r34 r40).bind fun r48 => some r48))).bind fun j29 => some j29)
theorem IB : Af Tryz.prog 191 := fun _ _ => by kernel_rfl
theorem Jq (N : Nat) (w0 : World) (F0 : Mem) (hF : UQ w0 F0) (hG : Bm F0) (x0 : Log) (a0_4 : UP) (n0_4 : Nat) (hb0_4 : LC x0.Jumps.length n0_4) (hs0_4 : SlA AH F0 a0_4 x0.Jumps) (a0_5 : UP) (n0_5 : Nat) (hb0_5 : LC x0.Lines.length n0_5) (hs0_5 : SlA AF F0 a0_5 x0.Lines) (bz0 : Nat) (z0 : UO) (hz0 : F0 bz0 = some (oc #[(sv z0)] 9)) (bz1 : Nat) (hz1 : F0 bz1 = some (oc #[(fV 157 #[])] 195)) (r : UO) (h : Gy N x0 z0 = some r) :
  Calls Tryz.prog 191 ([(.agg (AC x0 a0_4 n0_4 a0_5 n0_5)), (pt bz0 0), (pt bz1 0)] : List Value).toArray w0 (AA w0 F0 fun F' v => v = (sv r)) := by
 have hs0 := Uv hF
 refine Go 13 Tryz.func191 <| Sq (Rg [0, 1] ?_)
 refine Bx' 27 (AC x0 a0_4 n0_4 a0_5 n0_5) hs0 (fun b21 w22 hs23 => ?_)
 refine Vs 1 <| Nss ?_
 obtain ⟨j29, hj32, h33⟩ := bind_some h
 refine RD 9 9 [(sb b21 (AC x0 a0_4 n0_4 a0_5 n0_5) 27)] [] hs23 (fun f w => ∃ (F1 : Mem), HS w0 F0 w F1 [] /\ Ut F0 F1 /\ FI f [] [(4, (sv j29))]) (fun wd24 hw25 => ?_) ?_
 ·refine Dl 0 (fun _ hq => (hq.1.1 _ _ hz0)) ?_
  obtain ⟨r34, hr35, h36⟩ := bind_some hj32
  refine Dt 1 6 9 (sv r34) (fun _ hq => AV (t := 9) (t' := 9) (x := (.tmp 5)) (y := (.const (sv ([32] : UO)))) (a := z0) (b := ([32] : UO)) (v := r34) rfl rfl hr35) <| Dl 2 (fun _ hq => (hq.1.1 _ _ hz1)) <| D1 3 <| DCl KW hw25 (MW wd24 F0 hw25.pers b21 0) ?_
  rintro _ F2 w37 hs38 le39 rfl
  refine Dv [4] <| Dl 5 (fun _ hq => (hq.1.2 0 _ _ rfl)) <| D1 6 ?_
  obtain ⟨r40, hr41, h42⟩ := bind_some h36
  refine DCl Bz hs38 (BJ N w37 F2 hs38.pers (hG.mono le39) x0.Power _ hr41) ?_
  rintro _ F3 w44 hs45 le46 rfl
  obtain ⟨r48, hr49, h50⟩ := bind_some h42
  refine Dt 7 12 9 (sv r48) (fun _ hq => AV (t := 9) (t' := 9) (x := (.tmp 6)) (y := (.tmp 11)) (a := r34) (b := r40) (v := r48) rfl rfl hr49) <| Dv [8] ?_
  obtain rfl := Aa h50
  exact UG (by kernel_rfl) ⟨F3, hs45.dr0, (le39.t le46), fI⟩
 ·rintro f w26 ⟨F1, hs27, le28, ⟨_, rfl⟩⟩
  refine Ab <| Rt ?_
  obtain rfl := Aa h33
  exact Re [(sv j29)] hs27 rfl
def Gz (N : Nat) (x0 : Log) (z0 : UO) : Option UO :=
 (((DE z0 ([32] : UO)).bind fun r34 => ((strconv_Itoa N x0.Claimed).bind fun r40 => ((DE r34 r40).bind fun r48 => some r48))).bind fun j29 => some j29)
theorem IC : Af Tryz.prog 191 := fun _ _ => by kernel_rfl
theorem Jr (N : Nat) (w0 : World) (F0 : Mem) (hF : UQ w0 F0) (hG : Bm F0) (x0 : Log) (a0_4 : UP) (n0_4 : Nat) (hb0_4 : LC x0.Jumps.length n0_4) (hs0_4 : SlA AH F0 a0_4 x0.Jumps) (a0_5 : UP) (n0_5 : Nat) (hb0_5 : LC x0.Lines.length n0_5) (hs0_5 : SlA AF F0 a0_5 x0.Lines) (bz0 : Nat) (z0 : UO) (hz0 : F0 bz0 = some (oc #[(sv z0)] 9)) (bz1 : Nat) (hz1 : F0 bz1 = some (oc #[(fV 158 #[])] 195)) (r : UO) (h : Gz N x0 z0 = some r) :
  Calls Tryz.prog 191 ([(.agg (AC x0 a0_4 n0_4 a0_5 n0_5)), (pt bz0 0), (pt bz1 0)] : List Value).toArray w0 (AA w0 F0 fun F' v => v = (sv r)) := by
 have hs0 := Uv hF
 refine Go 13 Tryz.func191 <| Sq (Rg [0, 1] ?_)
 refine Bx' 27 (AC x0 a0_4 n0_4 a0_5 n0_5) hs0 (fun b21 w22 hs23 => ?_)
 refine Vs 1 <| Nss ?_
 obtain ⟨j29, hj32, h33⟩ := bind_some h
 refine RD 9 9 [(sb b21 (AC x0 a0_4 n0_4 a0_5 n0_5) 27)] [] hs23 (fun f w => ∃ (F1 : Mem), HS w0 F0 w F1 [] /\ Ut F0 F1 /\ FI f [] [(4, (sv j29))]) (fun wd24 hw25 => ?_) ?_
 ·refine Dl 0 (fun _ hq => (hq.1.1 _ _ hz0)) ?_
  obtain ⟨r34, hr35, h36⟩ := bind_some hj32
  refine Dt 1 6 9 (sv r34) (fun _ hq => AV (t := 9) (t' := 9) (x := (.tmp 5)) (y := (.const (sv ([32] : UO)))) (a := z0) (b := ([32] : UO)) (v := r34) rfl rfl hr35) <| Dl 2 (fun _ hq => (hq.1.1 _ _ hz1)) <| D1 3 <| DCl KV hw25 (MV wd24 F0 hw25.pers b21 0) ?_
  rintro _ F2 w37 hs38 le39 rfl
  refine Dv [4] <| Dl 5 (fun _ hq => (hq.1.2 0 _ _ rfl)) <| D1 6 ?_
  obtain ⟨r40, hr41, h42⟩ := bind_some h36
  refine DCl Bz hs38 (BJ N w37 F2 hs38.pers (hG.mono le39) x0.Claimed _ hr41) ?_
  rintro _ F3 w44 hs45 le46 rfl
  obtain ⟨r48, hr49, h50⟩ := bind_some h42
  refine Dt 7 12 9 (sv r48) (fun _ hq => AV (t := 9) (t' := 9) (x := (.tmp 6)) (y := (.tmp 11)) (a := r34) (b := r40) (v := r48) rfl rfl hr49) <| Dv [8] ?_
  obtain rfl := Aa h50
  exact UG (by kernel_rfl) ⟨F3, hs45.dr0, (le39.t le46), fI⟩
 ·rintro f w26 ⟨F1, hs27, le28, ⟨_, rfl⟩⟩
  refine Ab <| Rt ?_
  obtain rfl := Aa h33
  exact Re [(sv j29)] hs27 rfl
section
open Go.Proofs Go.Lib
def Sh (a : UP) (cap : Nat) (t : UO) (e : Option Nat × Obj) : Prop :=
 (a = none /\ cap = 0 /\ t = [] /\ e.1 = none) \/ ∃ g cur, a = some ⟨g, 0, none⟩ /\ e = (some g, .cells cur 5 (0, 0)) /\ t ≠ [] /\ t.length <= cap /\ cap <= maxLen /\ cur.size = cap /\ cur.toList.take t.length = byteCells t
def Jy (t s : UO) : Option UO := if t.length + s.length <= 140737488355328 then some (t ++ s) else none
theorem QU {t s r : UO} (h : Jy t s = some r) : t.length + s.length <= 140737488355328 /\ r = t ++ s := by
 unfold Jy at h; split at h
 ·rename_i h1; exact ⟨h1, by cases h; rfl⟩
 ·cases h
section
variable {w w0 : World} {F0 F : Mem} {L : Own}
theorem Eg (l : UO) : (byteCells l).length = l.length := by simp [byteCells]
theorem RY (l m : UO) : byteCells (l ++ m) = byteCells l ++ byteCells m := by simp [byteCells]
theorem Pq {g : Nat} {cur cs : Array Value} {e : TypeId} {fz : Nat × Nat} (hg : w.heap[g]? = some (.cells cur e fz)) : w.setRow g cs = BZ w g (.cells cs e fz) := by
 have hlt : g < w.heap.size := (Array.getElem?_eq_some_iff.1 hg).1
 have hv : w.heap[g] = .cells cur e fz := (Array.getElem?_eq_some_iff.1 hg).2
 unfold World.setRow BZ
 congr 1
 apply Array.ext_getElem?
 intro i
 rw [Array.getElem?_modify, Array.getElem?_setIfInBounds]
 by_cases hi : g = i
 ·subst hi; simp [hlt, hv]
 ·simp [hi]
theorem Mk {ty : TypeId} (hs : HS w0 F0 w F L) {k : Nat} {e : Option Nat × Obj} (hk : L[k]? = some e) {a : UP} {cap : Nat} {t s r : UO} (hr : Sh a cap t e) (hap : Jy t s = some r) :
  ∃ a' cap' e' w', (Builtin.append_ #[103, 9] ty #[.slice a t.length cap, .string ⟨s.toArray⟩]).run Tryz.prog w = .ok (.slice a' r.length cap') w' /\ HS w0 F0 w' F (L.set k e') /\ Sh a' cap' r e' := by
 obtain ⟨hlen, rfl⟩ := QU hap
 have hu9 : Tryz.prog.underlying 9 = some .string := Tryz.underlying9
 have hu42 : Tryz.prog.underlying 103 = some (.slice 5) := Tryz.underlying103
 obtain ⟨i0, hi, hz0, hz1, hz2⟩ := info_parts (show (Tryz.prog.info? 5).map (fun i => (i.zero, i.size, i.bytes)) = some (some (.int .u8 0), 1, 1) by kernel_rfl)
 have hss : (⟨s.toArray⟩ : ByteArray).size = s.length := by simp [ByteArray.size]
 have hsc : strCells ⟨s.toArray⟩ = byteCells s := by simp [strCells, byteCells]
 have hm : maxLen = 9223372036854775807 := rfl
 rcases hr with ⟨rfl, rfl, rfl, he⟩ | ⟨g, cur, rfl, rfl, hne, hlc, hcm, hcs, htk⟩
 ·by_cases h0 : s = []
  ·subst h0
   refine ⟨none, 0, e, w, ?_, by rw [Mf hk]; exact hs, .inl ⟨rfl, rfl, rfl, he⟩⟩
   simp [Builtin.append_, run_underlying hu42, run_underlying hu9, sizeOf, typeInfo, hi, hz1, Builtin.lenOf, Builtin.firstCells, ByteArray.size]
  ·have hpos : 0 < s.length := List.length_pos_iff.2 h0
   have hrun := run_append_nil_string (P := Tryz.prog) w 103 9 ty 5 i0 (.int .u8 0) hu42 hu9 hi hz0 ⟨s.toArray⟩ (by rw [hss]; exact hpos) (by rw [hss]; simp at hlen; omega) (by rw [hss, hz2]; simp at hlen; omega)
   rw [hss] at hrun
   refine ⟨_, _, _, _, hrun, (hs.heap (w' := w.drew) rfl).renew k _, .inr ⟨_, _, rfl, rfl, by simpa using h0, by simpa using grownCap_ge w s.length 0 5, grownCap_le_maxLen w s.length 0 5 (by rw [hm]; simp at hlen; omega), ?_, ?_⟩⟩
   ·have := grownCap_ge w s.length 0 5
    simp [Builtin.zeroCells, Value.cells]; omega
   ·rw [List.nil_append]
    have e1 : (s.toArray.map fun b => Value.int .u8 (b.toNat : Int)).toList = byteCells s := by simp [byteCells]
    rw [Array.toList_append, e1, List.take_append_of_le_length (by rw [Eg]; exact Nat.le_refl _), <- Eg s, List.take_length]
 ·have hg : w.heap[g]? = some (.cells cur 5 (0, 0)) := hs.ownAt hk
  by_cases hfit : t.length + s.length <= cap
  ·have hrun := run_append_room_string (P := Tryz.prog) w 103 9 ty 5 i0 hu42 hu9 hi hz1 g t.length cap cur hg ⟨s.toArray⟩ (by rw [hss]; exact hfit) (by rw [hss, hcs]; exact hfit)
   rw [hss, hsc, Pq hg] at hrun
   refine ⟨some ⟨g, 0, none⟩, cap, _, _, by rw [List.length_append]; exact hrun, hs.put hk _, .inr ⟨g, _, rfl, rfl, by simp [hne], by simpa using hfit, hcm, ?_, ?_⟩⟩
   ·simp [Eg, hcs]; omega
   ·rw [htk, List.length_append, RY]
    rw [List.take_append_of_le_length (by simp [Eg])]
    have : t.length + s.length = (byteCells t ++ byteCells s).length := by simp [Eg]
    rw [this, List.take_length]
  ·have hholds : ∀ j v, (byteCells t)[j]? = some v -> w.cell? ((⟨g, 0, none⟩ : Addr).add j) = some v := fun j v hj => by
    have hjl : j < t.length := by
     rcases Nat.lt_or_ge j t.length with h' | h'
     ·exact h'
     ·rw [List.getElem?_eq_none (by rw [Eg]; exact h')] at hj; cases hj
    have : cur[j]? = some v := by
     rw [<- htk, List.getElem?_take_of_lt hjl, Array.getElem?_toList] at hj; exact hj
    rw [Addr.add_lit]; simp [World.cell?, hg, this]
   have hrun := run_append_grow_string (P := Tryz.prog) w 103 9 ty 5 i0 (.int .u8 0) hu42 hu9 hi hz0 ⟨g, 0, none⟩ t.length cap (byteCells t) (by rw [Eg, hz1, Nat.mul_one]) hholds ⟨s.toArray⟩ (by rw [hss]; omega) (by rw [hss]; omega) (by rw [hss, hz2]; exact growslice_fits (by omega) (by omega))
   rw [hss, hsc] at hrun
   refine ⟨_, _, _, _, by rw [List.length_append]; exact hrun, (hs.heap (w' := w.drew) rfl).renew k _, .inr ⟨_, _, rfl, rfl, by simp [hne], by simpa using grownCap_ge w (t.length + s.length) cap 5, grownCap_le_maxLen w (t.length + s.length) cap 5 (by rw [hm]; omega), ?_, ?_⟩⟩
   ·have := grownCap_ge w (t.length + s.length) cap 5
    simp [Builtin.zeroCells, Value.cells, Eg]; omega
   ·rw [Array.toList_append, Array.toList_append, RY, List.length_append]
    have : t.length + s.length = (byteCells t ++ byteCells s).length := by simp [Eg]
    rw [List.take_append_of_le_length (by simp [Eg]), this]
    simp only [List.take_length]
end
section
variable {ρ : Operand -> Value} {w : World}
theorem HT (op : BinOp) (t : TypeId) (x y : Operand) (p q : UP) : (eqGuard op t x y (.pointer p) (.pointer q)).run Tryz.prog w = .ok () w := by
 unfold eqGuard; cases op <;> simp
theorem N9 (p : UP) (d : Nat) : (Op.equalIn (d + 1) 102 (.pointer p) (.pointer none)).run Tryz.prog w = .ok p.isNone w := by
 unfold Op.equalIn
 simp only [Sem.run_bind, run_underlying Tryz.underlying102, Result.andThen_ok]
 cases p <;> rfl
theorem OS {x y : Operand} {p : UP} {ty : TypeId} (hx : ρ x = .pointer p) (hy : ρ y = .pointer none) : (Aj ρ (.binOp .eql 102 x y 102) ty).run Tryz.prog w = .ok (.value (.bool p.isNone)) w := by
 have e : Aj ρ (.binOp .eql 102 x y 102) ty = (do pure (Next.value (<- (do eqGuard .eql 102 x y (ρ x) (ρ y); binOp .eql 102 (ρ x) (ρ y))))) := rfl
 have e2 : binOp .eql 102 (.pointer p) (.pointer none) = (do pure (Value.bool (<- Op.equalIn (9999 + 1) 102 (.pointer p) (.pointer none)))) := rfl
 rw [e, hx, hy, e2]
 simp only [Sem.run_bind, HT, Result.andThen_ok, N9, Sem.run_pure]
theorem N5 {x y : Operand} {a : Addr} {ty : TypeId} (hx : ρ x = .pointer (some a)) (hy : ρ y = .pointer (some a)) : (Aj ρ (.binOp .neq 102 x y 102) ty).run Tryz.prog w = .ok (.value (.bool false)) w := by
 have e : Aj ρ (.binOp .neq 102 x y 102) ty = (do pure (Next.value (<- (do eqGuard .neq 102 x y (ρ x) (ρ y); binOp .neq 102 (ρ x) (ρ y))))) := rfl
 obtain ⟨j, hj, _⟩ := Option.map_eq_some_iff.1 (show (Tryz.prog.info? 105).map (·.size) = some 2 by kernel_rfl)
 rw [e, hx, hy]
 simp only [Sem.run_bind, HT, Result.andThen_ok, run_neq_ptr_same w a Tryz.underlying102 hj, Sem.run_pure]
theorem OU {x : Operand} {v u : Value} {s d ty : TypeId} (hx : ρ x = v) (h : (convert s d v).run Tryz.prog w = .ok u w) : (Aj ρ (.convert s d x) ty).run Tryz.prog w = .ok (.value u) w := by
 have e : Aj ρ (.convert s d x) ty = (do pure (Next.value (<- convert s d (ρ x)))) := rfl
 rw [e, hx, Sem.run_bind, h]; rfl
theorem QB {x : Operand} {v : Value} {ty : TypeId} (hx : ρ x = v) (hf : ρ (.func 192) = .func (.func 192) #[] #[]) : (Aj ρ (.call { callee := .value (.func 192), args := #[x], argTypes := #[235] }) ty).run Tryz.prog w = .ok (.value v) w := by
 have e : Aj ρ (.call { callee := .value (.func 192), args := #[x], argTypes := #[235] }) ty = (do let d <- Deferred.ofValue (ρ (.func 192)) (#[x].map ρ); invoke d.target d.args) := rfl
 rw [e, hf]
 simp only [Deferred.ofValue, Sem.run_bind, Sem.run_pure, Result.andThen_ok, invoke]
 rw [run_callFunc_extern Tryz.func192 (by kernel_rfl) (by kernel_rfl) (by kernel_rfl) (e := Extern.AbiNoEscape.same) (by kernel_rfl)]
 have : (#[] ++ Array.map ρ #[x] ++ #[] : Array Value) = #[v] := by simp [hx]
 rw [this, run_noEscape]; rfl
end
theorem Ov : Af Tryz.prog 161 := fun _ _ => by kernel_rfl
theorem Pg {wb w0 : World} {Fb F0 : Mem} {Lf : Own} (b : Nat) (p : UP) (hp : p = none \/ p = some ⟨b, 0, none⟩) (v : Value) (hv : v.oneCell' = true) (hs0 : HS wb Fb w0 F0 ((some b, .cells #[.pointer p, v] 105 (0, 0)) :: Lf)) :
  Calls Tryz.prog 161 ([(.pointer (some ⟨b, 0, none⟩))] : List Value).toArray w0 (Es wb Fb F0 fun _ r L' => r = .tuple #[] /\ L' = (some b, .cells #[.pointer (some ⟨b, 0, none⟩), v] 105 (0, 0)) :: Lf) := by
 have hsh : w0.shape? b = some (105, 2) := by simp [World.shape?, hs0.at0]
 refine Go 20 Tryz.func161 <| Sq <| Rg [0, 1, 2, 3, 4] <| Vs 3 <| Ld hs0.at0 <| V 6 4 (OS (x := .tmp 5) (y := .const (.pointer none)) (p := p) rfl rfl) <| Up <| Ab ?_
 rcases hp with rfl | rfl
 ·refine C1 (t := true) rfl ?_
  refine Rg [0, 1, 2, 3, 4, 5, 6, 7] ?_
  obtain ⟨j, hj, hjs⟩ := Option.map_eq_some_iff.1 (show (Tryz.prog.info? 105).map (·.size) = some 2 by kernel_rfl)
  refine Vs 2 <| V 9 235 (OU (s := 102) (d := 235) (x := .tmp 8) rfl (run_to_unsafe w0 ⟨b, 0, none⟩ Tryz.underlying102 Tryz.underlying235 hj (by rw [hjs]; decide) hsh (Nat.zero_lt_succ 1))) <| V 10 235 (QB (x := .tmp 9) rfl rfl) <| V 11 102 (OU (s := 235) (d := 102) (x := .tmp 10) rfl (run_from_unsafe w0 ⟨b, 0, none⟩ Tryz.underlying235 Tryz.underlying102 hj hsh (by kernel_rfl))) <| Vs 2 <| St0 #[.pointer (some ⟨b, 0, none⟩), v] hs0 (fun w1 hs1 => ?_)
  refine Up ?_
  exact ReB [] hs1 (Uu _) ⟨rfl, rfl⟩
 ·refine C0 (t := false) rfl ?_
  refine Sq <| Rg [0, 1, 2, 3, 4, 5] <| Vs 3 <| Ld hs0.at0 <| Vs 1 <| V 19 4 (N5 (x := .tmp 17) (y := .tmp 18) rfl rfl) <| Up <| Ab <| C0 (t := false) rfl <| CWP.skip (by kernel_rfl) ?_
  exact ReB [] hs0 (Uu _) ⟨rfl, rfl⟩
theorem Bf : Af Tryz.prog 90 := fun _ _ => by kernel_rfl
theorem Nz {wb w0 : World} {Fb F0 : Mem} {Lf : Own} (b : Nat) (p : UP) (hp : p = none \/ p = some ⟨b, 0, none⟩) (a : UP) (cap : Nat) (e : Option Nat × Obj) (t s r : UO) (hb : Sh a cap t e) (hap : Jy t s = some r)
  (hs0 : HS wb Fb w0 F0 ((some b, .cells #[.pointer p, .slice a t.length cap] 105 (0, 0)) :: e :: Lf)) :
  Calls Tryz.prog 90 ([(.pointer (some ⟨b, 0, none⟩)), (.string ⟨s.toArray⟩)] : List Value).toArray w0 (Es wb Fb F0 fun _ v L' => v = .tuple #[.int .i64 (s.length : Int), .nilIface] /\ ∃ a' cap' e', L' = (some b, .cells #[.pointer (some ⟨b, 0, none⟩), .slice a' r.length cap'] 105 (0, 0)) :: e' :: Lf /\ Sh a' cap' r e') := by
 refine Go 19 Tryz.func90 <| Sq <| Rg [0, 1] <| Vs 2 <| Up <| Ab <| Sq <| Rg [0, 1] <| Vs 1 <| CB Ov (Pg b p hp (.slice a t.length cap) rfl hs0) ?_
 rintro _ F1 w1 _ hs1 le1 ⟨rfl, rfl⟩
 refine Up <| Ab <| Sq <| Rg [0, 1, 2, 3, 4, 5, 6, 7, 8, 9] <| Vs 4 <| Ld hs1.at0 <| Vs 1 ?_
 obtain ⟨a', cap', e', w2, hrun, hs2, hb2⟩ := Mk (ty := 103) hs1 (k := 1) rfl hb hap
 refine Uq (dst := some 14) (ty := 103) (g := none) (v := .slice a' r.length cap') (by kernel_rfl) rfl (by
  have e : ∀ ρ : Operand -> Value, Aj ρ (.call { callee := .builtin .append, args := #[.tmp 12, .tmp 13], argTypes := #[103, 9] }) 103 = (do pure (Next.value (<- Builtin.append_ #[103, 9] 103 (#[.tmp 12, .tmp 13].map ρ)))) := fun _ => rfl
  rw [e]
  simp only [List.map_toArray, List.map_cons, List.map_nil]
  rw [Sem.run_bind]
  refine Eq.trans (congrArg (fun x => Result.andThen x _) (show _ = _ from hrun)) rfl) ?_
 have hs2 : HS wb Fb w2 F1 ((some b, .cells #[.pointer (some ⟨b, 0, none⟩), .slice a t.length cap] 105 (0, 0)) :: e' :: Lf) := hs2
 refine Vs 2 <| St0 #[.pointer (some ⟨b, 0, none⟩), .slice a' r.length cap'] hs2 (fun w3 hs3 => ?_)
 refine Up <| Ab <| Sq <| Rg [0, 1, 2, 3] <| Vs 4 <| Up <| Ab <| Rt ?_
 exact ReB [.int .i64 (s.length : Int), .nilIface] hs3 le1 ⟨rfl, a', cap', e', rfl, hb2⟩
def Fa (b : Nat) (t : UO) (_ : Mem) (Lf : Own) : Prop := ∃ p a n e, (p = none \/ p = some ⟨b, 0, none⟩) /\ Lf = [e, (some b, .cells #[.pointer p, .slice a t.length n] 105 (0, 0))] /\ Sh a n t e
theorem Fa.mono {b : Nat} : NY (Fa b) := fun _ _ _ _ h _ => h
section
variable {w w0 : World} {F0 F : Mem} {L : Own} {b : Nat}
theorem Fa.new (hs : HS w0 F0 w F ((some b, .cells #[.pointer none, .slice none 0 0] 105 (0, 0)) :: L)) : ∃ Lf, HS w0 F0 w F (L ++ Lf) /\ Fa b [] F Lf :=
 ⟨_, HS.swap (A := [(none, .cells #[] 0 (0, 0)), _]) (hs.dummy (.cells #[] 0 (0, 0))), none, none, 0, _, .inl rfl, rfl, .inl ⟨rfl, rfl, rfl, rfl⟩⟩
theorem Ds {Lf : Own} {t s r : UO} (hap : Jy t s = some r) (hJ : Fa b t F Lf) (hs : HS w0 F0 w F (L ++ Lf)) :
  Calls Tryz.prog 90 ([(.pointer (some ⟨b, 0, none⟩)), (.string ⟨s.toArray⟩)] : List Value).toArray w (Es w0 F0 F fun F' v L' => v = .tuple #[.int .i64 (s.length : Int), .nilIface] /\ ∃ Lf', L' = L ++ Lf' /\ Fa b r F' Lf') := by
 obtain ⟨p, a, n, e, hp, rfl, hb⟩ := hJ
 have h1 : HS w0 F0 w F (e :: (some b, .cells #[.pointer p, .slice a t.length n] 105 (0, 0)) :: L) := HS.swap hs
 refine (Nz b p hp a n e t s r hb hap h1.pk1).mono ?_
 rintro _ w' ⟨F', v, _, rfl, h2, h3, rfl, a', n', e', rfl, hb'⟩
 exact ⟨F', _, L ++ [e', _], rfl, HS.swap (A := [e', _]) h2.pk1, h3, rfl, _, rfl, _, a', n', e', .inr rfl, rfl, hb'⟩
theorem MN : Af Tryz.prog 91 := fun _ _ => by kernel_rfl
theorem NX {Lf : Own} {t : UO} (hJ : Fa b t F Lf) (hs : HS w0 F0 w F (L ++ Lf)) : Calls Tryz.prog 91 ([(.pointer (some ⟨b, 0, none⟩))] : List Value).toArray w (Es w0 F0 F0 fun F' v L' => v = .string ⟨t.toArray⟩ /\ L' = [] /\ F' = F0) := by
 obtain ⟨p, a, n, e, hp, rfl, hb⟩ := hJ
 have h1 : HS w0 F0 w F (e :: (some b, .cells #[.pointer p, .slice a t.length n] 105 (0, 0)) :: L) := HS.swap hs
 have hB : w0.heap.size <= b := (h1.own b _ (.tail _ (.head _))).2.2
 have hbk := h1.at1
 have hbuf : IsBuilder 105 5 w0.heap.size b (byteCells t) w := by
  have : BuilderAt 105 5 w0.heap.size b (.pointer p) (byteCells t) w := by
   refine ⟨hB, .slice a t.length n, hbk, ?_, ?_⟩
   ·rcases hb with ⟨rfl, rfl, rfl, _⟩ | ⟨g, cur, rfl, rfl, hne, hlc, hcm, hcs, htk⟩
    ·exact ⟨rfl, .inl ⟨rfl, rfl⟩⟩
    ·exact ⟨by simp [Eg], .inr ⟨g, n, cur, by rw [Eg], (h1.own g _ (.head _)).2.2, h1.at0, by rw [Eg]; exact hlc, hcm, by simpa using hcs, by rw [Eg, Nat.mul_one]; exact htk⟩⟩
   ·rcases hb with ⟨rfl, rfl, rfl, _⟩ | ⟨g, cur, rfl, rfl, hne, hlc, hcm, hcs, htk⟩
    ·simp [Value.ownBlock]
    ·have := h1.nd
     simp only [Value.ownBlock]
     intro e
     simp at e
     subst e
     simp at this
  rcases hp with rfl | rfl
  ·exact .inl this
  ·exact .inr this
 refine (Tryz.Builder_String_any w0.heap.size b t w hbuf h1.size).mono ?_
 rintro _ w' ⟨rfl, hbel⟩
 refine ⟨F0, _, [], rfl, ?_, Uu _, rfl, rfl, rfl⟩
 exact ⟨h1.base, h1.fix.trans ⟨hbel.os, hbel.output, hbel.tape⟩, Nat.le_trans h1.size hbel.size, fun c hc => (hbel.block c hc).trans (h1.keep c hc), fun _ _ => rfl, fun c o hc => (hbel.block c (A3 (h1.base c o hc))).trans ((h1.keep c (A3 (h1.base c o hc))).trans (h1.base c o hc)), fun _ _ h => (by cases h), List.nodup_nil⟩
end
end
theorem Gu {P : Program} {w : World} {ρ : Operand -> Value} {ty t E : TypeId} {len s : Nat} {x y : Operand} {k : IntKind} {i : Int} {cs C : List Value} (hx : ρ x = .agg cs.toArray) (hy : ρ y = .int k i) (hu : P.underlying t = some (.array len E)) (ht : Ei P E = some (true, s)) (hi : 0 <= i /\ i < (len : Int)) (hc : Ap cs.toArray (i.toNat * s) s = C) (hl : C.length = s) :
  (Aj ρ (.index t x y) ty).run P w = .ok (.value (.agg C.toArray)) w := by
 have hp := Gs (P := P) (t := E) (C := cs.toArray) (o := i.toNat * s) ht (by rw [hc]; exact hl) (.inl rfl) w
 rw [hc] at hp
 simp only [Aj, execOp, hx, hy, Instr.index, asIntOf, Sem.run_bind, Sem.run_pure, Result.andThen_ok, run_underlying hu, Cs ht]
 rw [if_pos hi]
 simp only [Sem.run_bind, Cs ht, Result.andThen_ok]
 rw [hp]
 rfl
theorem Gt {P : Program} {w : World} {ρ : Operand -> Value} {ty t E : TypeId} {len s : Nat} {x y : Operand} {k : IntKind} {i n : Int} {cs C : List Value} (hx : ρ x = .agg cs.toArray) (hy : ρ y = .int k i) (hu : P.underlying t = some (.array len E)) (ht : Ei P E = some (true, s)) (hd : decide (i = n) = true) (hi : 0 <= n /\ n < (len : Int)) (hc : Ap cs.toArray (n.toNat * s) s = C) (hl : C.length = s) :
  (Aj ρ (.index t x y) ty).run P w = .ok (.value (.agg C.toArray)) w := by
 have e := of_decide_eq_true hd
 subst e
 exact Gu hx hy hu ht hi hc hl
theorem JH {P : Program} {w : World} {ρ : Operand -> Value} {ty t E : TypeId} {len s b o0 o1 : Nat} {g : Bool} {x y : Operand} {k : IntKind} {i n : Int} (hx : ρ x = .pointer (some ⟨b, o0, none⟩)) (hy : ρ y = .int k i) (hu : P.underlying t = some (.array len E)) (ht : Ei P E = some (g, s)) (hd : decide (i = n) = true) (hi : 0 <= n /\ n < (len : Int)) (ho : o0 + n.toNat * s = o1) :
  (Aj ρ (.indexAddr t x y) ty).run P w = .ok (.value (.pointer (some ⟨b, o1, none⟩))) w := by
 have e := of_decide_eq_true hd
 subst e
 subst ho
 have hdo : Aj ρ (.indexAddr t x y) ty = (do pure (Next.value (<- Instr.indexAt t (ρ x) (ρ y)))) := rfl
 rw [hdo, hx, hy]
 have e2 : (Instr.sureAddr (.pointer (some ⟨b, o0, none⟩))).run P w = .ok ⟨b, o0, none⟩ w := rfl
 simp only [Instr.indexAt, asIntOf, Sem.run_bind, Sem.run_pure, Result.andThen_ok, run_underlying hu, e2, hi, and_self, if_true, Cs ht, Addr.add]
 first | rfl | (split <;> simp_all)
section
variable {P : Program} {n : Nat} {Q : Exit -> Fr -> World -> Prop} {f : Fr} {w w0 : World} {F0 F : Mem} {L : Own}
theorem CWP.rangeRet {X α σ : Type} {enc : X -> List Value} {ok : Mem -> X -> Prop} {px : X -> α} {m : ∀ {σ : Type}, (σ -> α -> Option (Bool × σ)) -> σ -> Option σ} {c : Code} (hk : SV c = 1) {gf : FuncId} {cap : List Value} {B : Own}
  (hg : fev f (Sz c) = .func (.func gf) #[] cap.toArray) (hgf : Af P gf) (hd : f.d = []) {ps : List Nat} (hps0 : rps c = ps) (hps : ps.all (· < n) = true) (hlen : ∀ x, (enc x).length = ps.length) (hs : HS w0 F0 w F (B ++ L)) (hseq : Qv P gf cap F B enc ok px m)
  (lp : σ -> α -> Option (σ × Bool)) (J : σ -> Mem -> Own -> Prop) (hJm : NY J) {s : σ} {r : σ × Bool} (hJ : J s F L) (hm : m (RX lp) (s, true) = some r)
  (hround : ∀ (l : Nat) (s : σ) (x : X) (w' : World) (F' : Mem) (Lf Rf : Own) (t : σ × Bool), Ut F F' -> ok F' x -> J s F' Lf -> HS w0 F0 w' F' (Lf ++ Rf) -> lp s (px x) = some t ->
   CWP P (some l) n (SA c) (fun e f1 w1 => e = .normal /\ ∃ F1 Lu, HS w0 F0 w1 F1 (Lu ++ Rf) /\ ∀ w2 Rg, HS w0 F0 w2 F1 (Lu ++ Rg) -> CWP P (some l) n (P6 c) (fun e f2 w3 => ((e = .normal /\ t.2 = true) \/ (e = .ret /\ t.2 = false)) /\ ∃ F2 Lf2, HS w0 F0 w3 F2 (Lf2 ++ Rg) /\ Ut F' F2 /\ J t.1 F2 Lf2) f1 w2) (setps f ps (enc x)) w')
  (hdone : r.2 = true -> ∀ (D : Nat) (w' : World) (F' : Mem) (Lf : Own), HS w0 F0 w' F' ((some D, .deferred (some [])) :: Lf) -> Ut F F' -> J r.1 F' Lf -> Q .normal ⟨f.v, [{ target := .collected D, args := #[] }]⟩ w')
  (hstop : r.2 = false -> ∀ (D : Nat) (w' : World) (F' : Mem) (Lf : Own), HS w0 F0 w' F' ((some D, .deferred (some [])) :: Lf) -> Ut F F' -> J r.1 F' Lf -> Q .ret ⟨f.v, [{ target := .collected D, args := #[] }]⟩ w') : CWP P none n c Q f w := by
 refine CWP.rangeFunc2 hk hg hgf hd hps0 hps hlen hs hseq (RX lp) (fun s => s.2) (fun s F L => J s.1 F L) (fun s F F' L h hl => hJm s.1 F F' L h hl) (s := (s, true)) (r := r) hJ rfl hm (fun s x q h => ⟨(K9 h).1, (K9 h).2.1⟩) ?_ (fun D w' F' Lf h0 h1 h2 h3 => hdone h0 D w' F' Lf h1 h2 h3) (fun D w' F' Lf h0 h1 h2 h3 => hstop h0 D w' F' Lf h1 h2 h3)
 intro l s x w' F' Lf Rf q hle hok hJ hs hyq
 obtain ⟨h1, h2, h3⟩ := K9 hyq
 refine (hround l s.1 x w' F' Lf Rf q.2 hle hok hJ hs h3).mono ?_
 rintro e f1 w1 ⟨rfl, F1, Lu, hs1, h⟩
 refine ⟨rfl, F1, Lu, hs1, fun w2 Rg hs2 => (h w2 Rg hs2).mono ?_⟩
 rintro e f2 w3 ⟨he, h⟩
 rw [h2]
 exact ⟨he, h⟩
end
def osk {α τ : Type} (q : Option α) (f : τ) (g : α -> τ) : τ := match q with
 | none => f
 | some a => g a
theorem Td {α τ : Type} {f : τ} {g : α -> τ} {r : τ} (h : osk none f g = r) : f = r := h
theorem Tc {α τ : Type} {x : α} {f : τ} {g : α -> τ} {r : τ} (h : osk (some x) f g = r) : g x = r := h
structure Ar where
 o_ : Ac
 l_ : Log
 done_ : Int
 ended_ : Bool
abbrev rdv (b1 b2 b3 b4 : Nat) : Value := .func (.func 190) #[] #[.pointer (some ⟨b1, 0, none⟩), .pointer (some ⟨b2, 0, none⟩), .pointer (some ⟨b3, 0, none⟩), .pointer (some ⟨b4, 0, none⟩)]
abbrev wrv (b1 b4 : Nat) : Value := .func (.func 191) #[] #[.pointer (some ⟨b1, 0, none⟩), .pointer (some ⟨b4, 0, none⟩)]
abbrev fcv (k : FuncId) : Value := .func (.func k) #[] #[]
theorem ER : Af Tryz.prog 155 := fun _ _ => by kernel_rfl
set_option maxRecDepth 100000 in
theorem Fu (w0 : World) (F0 : Mem) (hF : UQ w0 F0) (s : UO) (lo hi : Int) (k : FuncId) : Calls Tryz.prog 155 ([(.string ⟨s.toArray⟩), (.int .i64 lo), (.int .i64 hi), fcv k] : List Value).toArray w0 (AA w0 F0 fun F' v => ∃ b1 b2 b3 b4, v = .agg #[rdv b1 b2 b3 b4, wrv b1 b4] /\
  F' b1 = some (.cells #[.string ⟨s.toArray⟩] 9 (0, 0)) /\ F' b2 = some (.cells #[.int .i64 lo] 3 (0, 0)) /\ F' b3 = some (.cells #[.int .i64 hi] 3 (0, 0)) /\ F' b4 = some (.cells #[fcv k] 195 (0, 0))) := by
 have hs0 := Uv hF
 refine Go 12 Tryz.func155 <| Sq <| Rg [0, 1, 2, 3, 4] <| Bx' 9 #[(.string ⟨s.toArray⟩)] hs0 (fun b1 w1 hs1 => ?_)
 refine Bx' 3 #[(.int .i64 lo)] hs1 (fun b2 w2 hs2 => ?_)
 refine Bx' 3 #[(.int .i64 hi)] hs2 (fun b3 w3 hs3 => ?_)
 refine Bx' 195 #[fcv k] hs3 (fun b4 w4 hs4 => ?_)
 refine Al' 109 #[.nilFunc, .nilFunc] hs4 (fun b5 w5 hs5 => ?_)
 refine Up <| Ab <| Sq <| Rg [0, 1, 2, 3] <| Vs 3 <| St0 #[rdv b1 b2 b3 b4, wrv b1 b4] hs5 (fun w6 hs6 => ?_)
 refine Up <| Ab <| Rt ?_
 obtain ⟨F1, hs7, le1, f4⟩ := hs6.fc1
 obtain ⟨F2, hs8, le2, f3⟩ := hs7.fc1
 obtain ⟨F3, hs9, le3, f2⟩ := hs8.fc1
 obtain ⟨F4, hs10, le4, f1⟩ := hs9.fc1
 exact ⟨rfl, (.agg #[rdv b1 b2 b3 b4, wrv b1 b4]), AQ (l := [.cell 8 109]) (by kernel_rfl) (vs := [(.agg #[rdv b1 b2 b3 b4, wrv b1 b4])]) ⟨b5, 0, rfl, Am (t := 109) (g := true) (s := 2) (by kernel_rfl) hs10.at0 rfl (by decide), trivial⟩, (.agg #[rdv b1 b2 b3 b4, wrv b1 b4]), F4, rfl, hs10.clear, b1, b2, b3, b4, rfl, f1, le4 _ _ f2, le4 _ _ (le3 _ _ f3), le4 _ _ (le3 _ _ (le2 _ _ f4))⟩
theorem Ey : Af Tryz.prog 89 := fun _ _ => by kernel_rfl
set_option maxRecDepth 100000 in
theorem E6 (w0 : World) (F0 : Mem) (hF : UQ w0 F0) : Calls Tryz.prog 89 ([] : List Value).toArray w0 (AA w0 F0 fun F' v => ∃ (b1 b2 b3 b4 b5 b6 b7 b8 b9 b10 b11 b12 : Nat), v = .agg #[fcv 153, fcv 154, rdv b1 b2 b3 b4, wrv b1 b4, rdv b5 b6 b7 b8, wrv b5 b8, rdv b9 b10 b11 b12, wrv b9 b12, fcv 159, fcv 160] /\ F' b1 = some (.cells #[(.string ⟨([67, 65, 84, 69, 71, 79, 82, 89] : UO).toArray⟩)] 9 (0, 0)) /\ F' b2 = some (.cells #[.int .i64 1] 3 (0, 0)) /\ F' b3 = some (.cells #[.int .i64 9] 3 (0, 0)) /\ F' b4 = some (.cells #[fcv 156] 195 (0, 0)) /\ F' b5 = some (.cells #[(.string ⟨([80, 79, 87, 69, 82] : UO).toArray⟩)] 9 (0, 0)) /\ F' b6 = some (.cells #[.int .i64 1] 3 (0, 0)) /\ F' b7 = some (.cells #[.int .i64 9999] 3 (0, 0)) /\ F' b8 = some (.cells #[fcv 157] 195 (0, 0)) /\ F' b9 = some (.cells #[(.string ⟨([67, 76, 65, 73, 77, 69, 68] : UO).toArray⟩)] 9 (0, 0)) /\ F' b10 = some (.cells #[.int .i64 0] 3 (0, 0)) /\ F' b11 = some (.cells #[.int .i64 1000000] 3 (0, 0)) /\ F' b12 = some (.cells #[fcv 158] 195 (0, 0))) := by
 have hs0 := Uv hF
 refine Go 7 Tryz.func89 <| Sq <| Rg [0] <| Al' 110 #[.nilFunc, .nilFunc, .nilFunc, .nilFunc, .nilFunc, .nilFunc, .nilFunc, .nilFunc, .nilFunc, .nilFunc] hs0 (fun b0 w1 hs1 => ?_)
 refine Up <| Ab <| Sq <| Rg [0, 1, 2, 3, 4, 5, 6] <| Vs 1 <| Cl' ER hs1 (Fu w1 F0 hs1.pers [67, 65, 84, 69, 71, 79, 82, 89] 1 9 156) ?_
 rintro _ F1 w2 hs2 le1 ⟨b1, b2, b3, b4, rfl, f1, f2, f3, f4⟩
 refine Cl' ER hs2 (Fu w2 F1 hs2.pers [80, 79, 87, 69, 82] 1 9999 157) ?_
 rintro _ F2 w3 hs3 le2 ⟨b5, b6, b7, b8, rfl, f5, f6, f7, f8⟩
 refine Cl' ER hs3 (Fu w3 F2 hs3.pers [67, 76, 65, 73, 77, 69, 68] 0 1000000 158) ?_
 rintro _ F3 w4 hs4 le3 ⟨b9, b10, b11, b12, rfl, f9, f10, f11, f12⟩
 refine Vs 1 <| V 6 110 (Je (t := 110) (parts := #[(0, .tmp 1), (1, .tmp 2), (2, .tmp 3), (3, .tmp 4), (4, .tmp 5)]) (vs := [(0, .agg #[fcv 153, fcv 154]), (1, .agg #[rdv b1 b2 b3 b4, wrv b1 b4]), (2, .agg #[rdv b5 b6 b7 b8, wrv b5 b8]), (3, .agg #[rdv b9 b10 b11 b12, wrv b9 b12]), (4, .agg #[fcv 159, fcv 160])]) rfl (cs := [fcv 153, fcv 154, rdv b1 b2 b3 b4, wrv b1 b4, rdv b5 b6 b7 b8, wrv b5 b8, rdv b9 b10 b11 b12, wrv b9 b12, fcv 159, fcv 160]) (by kernel_rfl)) <| St0 #[fcv 153, fcv 154, rdv b1 b2 b3 b4, wrv b1 b4, rdv b5 b6 b7 b8, wrv b5 b8, rdv b9 b10 b11 b12, wrv b9 b12, fcv 159, fcv 160] hs4 (fun w5 hs5 => ?_)
 refine Up <| Ab <| Rt ?_
 exact ⟨rfl, (.agg #[fcv 153, fcv 154, rdv b1 b2 b3 b4, wrv b1 b4, rdv b5 b6 b7 b8, wrv b5 b8, rdv b9 b10 b11 b12, wrv b9 b12, fcv 159, fcv 160]), AQ (l := [.cell 0 110]) (by kernel_rfl) (vs := [(.agg #[fcv 153, fcv 154, rdv b1 b2 b3 b4, wrv b1 b4, rdv b5 b6 b7 b8, wrv b5 b8, rdv b9 b10 b11 b12, wrv b9 b12, fcv 159, fcv 160])]) ⟨b0, 0, rfl, Am (t := 110) (g := true) (s := 10) (by kernel_rfl) hs5.at0 rfl (by decide), trivial⟩, (.agg #[fcv 153, fcv 154, rdv b1 b2 b3 b4, wrv b1 b4, rdv b5 b6 b7 b8, wrv b5 b8, rdv b9 b10 b11 b12, wrv b9 b12, fcv 159, fcv 160]), F3, rfl, hs5.clear, b1, b2, b3, b4, b5, b6, b7, b8, b9, b10, b11, b12, rfl, le3 _ _ (le2 _ _ f1), le3 _ _ (le2 _ _ f2), le3 _ _ (le2 _ _ f3), le3 _ _ (le2 _ _ f4), le3 _ _ f5, le3 _ _ f6, le3 _ _ f7, le3 _ _ f8, f9, f10, f11, f12⟩
def IW (N : Nat) (x0 : Ac) (x1 : Log) (r27 : (Int × Int)) (r54 : UO) (r62 : UO) (t68 : UO) (r79 : UO) (r87 : UO) (t93 : UO) (r104 : UO) (r112 : UO) (t118 : UO) (r129 : UO) (r137 : UO) (t143 : UO) (r154 : UO) (r162 : UO) (t168 : UO) : (Int × UO) -> Option (Ba (UO × Int) (Int × UO)) := fun s178 =>
 (bif (decide (s178.1 < (x1.Lines.length : Int))) then ((idx x1.Lines s178.1).bind fun x207 => ((Fl N ({ Report := x0.Report, Serial := x0.Serial, Zone := x0.Zone } : Ac) x207).bind fun r226 => ((DE r226.1 ([10] : UO)).bind fun r234 => ((Jy s178.2 r234).bind fun t240 => some (.next ((W64 (s178.1 + 1)), t240)))))) else some (.done (s178.1, s178.2)))
def Mz (N : Nat) (x0 : Ac) (x1 : Log) : Option (UO × Int) :=
 ((Cw N ({ Report := x0.Report, Serial := x0.Serial, Zone := x0.Zone } : Ac) x1).bind fun r27 => (bif (r27.1 != 0) then none else ((JP N x1).bind fun r54 => ((DE r54 ([10] : UO)).bind fun r62 => ((Jy ([] : UO) r62).bind fun t68 => ((GA N x1 ([67, 65, 84, 69, 71, 79, 82, 89] : UO)).bind fun r79 => ((DE r79 ([10] : UO)).bind fun r87 => ((Jy t68 r87).bind fun t93 => ((Gy N x1 ([80, 79, 87, 69, 82] : UO)).bind fun r104 => ((DE r104 ([10] : UO)).bind fun r112 => ((Jy t93 r112).bind fun t118 => ((Gz N x1 ([67, 76, 65, 73, 77, 69, 68] : UO)).bind fun r129 => ((DE r129 ([10] : UO)).bind fun r137 => ((Jy t118 r137).bind fun t143 => ((Hb N x1).bind fun r154 => ((DE r154 ([10] : UO)).bind fun r162 => ((Jy t143 r162).bind fun t168 => ((AO (IW N x0 x1 r27 r54 r62 t68 r79 r87 t93 r104 r112 t118 r129 r137 t143 r154 r162 t168) N (0, t168)).bind fun o => o.k (fun r => some r) (fun s190 => ((Jy s190.2 ([69, 78, 68, 10] : UO)).bind fun t252 => some (t252, 0)))))))))))))))))))))
theorem Nj : Af Tryz.prog 29 := fun _ _ => by kernel_rfl
theorem OD (N : Nat) (w0 : World) (F0 : Mem) (hF : UQ w0 F0) (hG : Bm F0) (x0 : Ac) (x1 : Log) (a1_4 : UP) (n1_4 : Nat) (hb1_4 : LC x1.Jumps.length n1_4) (hs1_4 : SlA AH F0 a1_4 x1.Jumps) (a1_5 : UP) (n1_5 : Nat) (hb1_5 : LC x1.Lines.length n1_5) (hs1_5 : SlA AF F0 a1_5 x1.Lines) (r : (UO × Int)) (h : Mz N x0 x1 = some r) :
  Calls Tryz.prog 29 ([(.agg (Ag x0)), (.agg (AC x1 a1_4 n1_4 a1_5 n1_5))] : List Value).toArray w0 (AA w0 F0 fun F' v => v = (.tuple #[(sv r.1), (vi r.2)])) := by
 have hs0 := Uv hF
 refine Go 54 Tryz.func29 <| Sq (Rg (rG 4) ?_)
 refine Bx' 23 (Ag x0) hs0 (fun b21 w22 hs23 => ?_)
 refine Bx' 27 (AC x1 a1_4 n1_4 a1_5 n1_5) hs23 (fun b24 w25 hs26 => ?_)
 refine Vs 2 <| Nss <| Sq (Rg (rG 8) ?_)
 refine Ld hs26.at1 <| Ld hs26.at0 ?_
 obtain ⟨r27, hr28, h29⟩ := bind_some h
 refine Cl' EA hs26 (E8 N w25 F0 hs26.pers hG (({ Report := x0.Report, Serial := x0.Serial, Zone := x0.Zone } : Ac)) x1 a1_4 n1_4 hb1_4 hs1_4 a1_5 n1_5 hb1_5 hs1_5 _ hr28) ?_
 rintro _ F1 w31 hs32 le33 rfl
 refine Vs 5 <| Nss (Rg [0, 1] ?_)
 refine Vs 2 <| Nt <| Cd h29 (fun hb35 h36 => ?_) (fun hb35 h37 => ?_)
 ·cases h36
 ·refine Sc ?_
  refine Ab <| Sq (Rg [0] ?_)
  refine Al' 105 #[.pointer none, .slice none 0 0] hs32 (fun b38 w39 hs40 => ?_)
  obtain ⟨Lf41, hs42, hJ43⟩ := Fa.new hs40
  have hs44 : HS w0 F0 w39 F1 ((sb b24 (AC x1 a1_4 n1_4 a1_5 n1_5) 27) :: (sb b21 (Ag x0) 23) :: Lf41) := hs42
  refine Nss <| Sq (Rg [0, 1] ?_)
  refine Cl' Ey hs44 (E6 w39 F1 hs44.pers) ?_
  rintro _ F2 w45 hs46 le47 ⟨tbt48_0_0, tbt48_0_1, tbt48_0_2, tbt48_0_3, tbt48_0_4, tbt48_0_5, tbt48_0_6, tbt48_0_7, tbt48_0_8, tbt48_0_9, tbt48_0_10, tbt48_0_11, rfl, htbt48_0_0, htbt48_0_1, htbt48_0_2, htbt48_0_3, htbt48_0_4, htbt48_0_5, htbt48_0_6, htbt48_0_7, htbt48_0_8, htbt48_0_9, htbt48_0_10, htbt48_0_11⟩
  refine Vs 1 <| Nt <| Bk <| CWP.unroll (by kernel_rfl) 6 <| URL.step <| Sq (Rg [0] ?_)
  refine Vs 1 <| Nss <| C1 (rfl : true = true) <| Sc <| Ab <| Sq <| Bk <| Sq (Rg [0, 1, 2] ?_)
  refine V 27 109 (Gu (t := 110) (E := 109) (len := 5) (s := 2) (x := (.tmp 24)) (y := (.tmp 25)) (k := .i64) (i := 0) (cs := [(fV 153 #[]), (fV 154 #[]), (fV 190 #[(pt tbt48_0_0 0), (pt tbt48_0_1 0), (pt tbt48_0_2 0), (pt tbt48_0_3 0)]), (fV 191 #[(pt tbt48_0_0 0), (pt tbt48_0_3 0)]), (fV 190 #[(pt tbt48_0_4 0), (pt tbt48_0_5 0), (pt tbt48_0_6 0), (pt tbt48_0_7 0)]), (fV 191 #[(pt tbt48_0_4 0), (pt tbt48_0_7 0)]), (fV 190 #[(pt tbt48_0_8 0), (pt tbt48_0_9 0), (pt tbt48_0_10 0), (pt tbt48_0_11 0)]), (fV 191 #[(pt tbt48_0_8 0), (pt tbt48_0_11 0)]), (fV 159 #[]), (fV 160 #[])]) (C := [(fV 153 #[]), (fV 154 #[])]) rfl rfl (by kernel_rfl) (by kernel_rfl) (by decide) rfl rfl) <| Al' 109 #[.nilFunc, .nilFunc] hs46 (fun b49 w50 hs51 => ?_)
  refine St0 #[(fV 153 #[]), (fV 154 #[])] hs51 (fun w52 hs53 => ?_)
  refine Nt <| Rg (rG 6) <| Vs 1 <| Ld hs53.at0 <| Ld hs53.at1 ?_
  obtain ⟨r54, hr55, h56⟩ := bind_some h37
  refine Cl' LR hs53 (MY N w52 F2 hs53.pers x1 a1_4 n1_4 hb1_4 (Uw hs1_4 (le33.t le47)) a1_5 n1_5 hb1_5 (Uw hs1_5 (le33.t le47)) _ hr55) ?_
  rintro _ F3 w58 hs59 le60 rfl
  obtain ⟨r62, hr63, h64⟩ := bind_some h56
  refine V 32 9 (AV (t := 9) (t' := 9) (x := (.tmp 31)) (y := (.const (sv ([10] : UO)))) (a := r54) (b := ([10] : UO)) (v := r62) rfl rfl hr63) ?_
  obtain ⟨t68, ht69, h70⟩ := bind_some h64
  refine CB Bf (Ds (L := [(sb b49 #[(fV 153 #[]), (fV 154 #[])] 109), (sb b24 (AC x1 a1_4 n1_4 a1_5 n1_5) 27), (sb b21 (Ag x0) 23)]) ht69 (Fa.mono _ _ _ _ hJ43 (le47.t le60)) hs59) ?_
  rintro _ F4 w65 _ hs66 le67 ⟨rfl, Lf71, rfl, hJ72⟩
  have hs73 : HS w0 F0 w65 F4 ((sb b49 #[(fV 153 #[]), (fV 154 #[])] 109) :: (sb b24 (AC x1 a1_4 n1_4 a1_5 n1_5) 27) :: (sb b21 (Ag x0) 23) :: Lf71) := hs66
  refine Up <| Aq <| Ab <| Rg [0, 1] <| Vs 2 <| Nt <| URL.step <| Sq (Rg [0] ?_)
  refine Vs 1 <| Nss <| C1 (rfl : true = true) <| Sc <| Ab <| Sq <| Bk <| Sq (Rg [0, 1, 2] ?_)
  refine V 27 109 (Gu (t := 110) (E := 109) (len := 5) (s := 2) (x := (.tmp 24)) (y := (.tmp 25)) (k := .i64) (i := 1) (cs := [(fV 153 #[]), (fV 154 #[]), (fV 190 #[(pt tbt48_0_0 0), (pt tbt48_0_1 0), (pt tbt48_0_2 0), (pt tbt48_0_3 0)]), (fV 191 #[(pt tbt48_0_0 0), (pt tbt48_0_3 0)]), (fV 190 #[(pt tbt48_0_4 0), (pt tbt48_0_5 0), (pt tbt48_0_6 0), (pt tbt48_0_7 0)]), (fV 191 #[(pt tbt48_0_4 0), (pt tbt48_0_7 0)]), (fV 190 #[(pt tbt48_0_8 0), (pt tbt48_0_9 0), (pt tbt48_0_10 0), (pt tbt48_0_11 0)]), (fV 191 #[(pt tbt48_0_8 0), (pt tbt48_0_11 0)]), (fV 159 #[]), (fV 160 #[])]) (C := [(fV 190 #[(pt tbt48_0_0 0), (pt tbt48_0_1 0), (pt tbt48_0_2 0), (pt tbt48_0_3 0)]), (fV 191 #[(pt tbt48_0_0 0), (pt tbt48_0_3 0)])]) rfl rfl (by kernel_rfl) (by kernel_rfl) (by decide) rfl rfl) <| Al' 109 #[.nilFunc, .nilFunc] hs73 (fun b74 w75 hs76 => ?_)
  refine St0 #[(fV 190 #[(pt tbt48_0_0 0), (pt tbt48_0_1 0), (pt tbt48_0_2 0), (pt tbt48_0_3 0)]), (fV 191 #[(pt tbt48_0_0 0), (pt tbt48_0_3 0)])] hs76 (fun w77 hs78 => ?_)
  refine Nt <| Rg (rG 6) <| Vs 1 <| Ld hs78.at0 <| Ld hs78.at2 ?_
  obtain ⟨r79, hr80, h81⟩ := bind_some h70
  refine Cl' ID hs78 (Js N w77 F4 hs78.pers (hG.mono (((le33.t le47).trans le60).trans le67)) x1 a1_4 n1_4 hb1_4 (Uw hs1_4 (((le33.t le47).trans le60).trans le67)) a1_5 n1_5 hb1_5 (Uw hs1_5 (((le33.t le47).trans le60).trans le67)) tbt48_0_0 ([67, 65, 84, 69, 71, 79, 82, 89] : UO) ((le60.t le67) _ _ htbt48_0_0) tbt48_0_3 ((le60.t le67) _ _ htbt48_0_3) _ hr80) ?_
  rintro _ F5 w83 hs84 le85 rfl
  obtain ⟨r87, hr88, h89⟩ := bind_some h81
  refine V 32 9 (AV (t := 9) (t' := 9) (x := (.tmp 31)) (y := (.const (sv ([10] : UO)))) (a := r79) (b := ([10] : UO)) (v := r87) rfl rfl hr88) ?_
  obtain ⟨t93, ht94, h95⟩ := bind_some h89
  refine CB Bf (Ds (L := [(sb b74 #[(fV 190 #[(pt tbt48_0_0 0), (pt tbt48_0_1 0), (pt tbt48_0_2 0), (pt tbt48_0_3 0)]), (fV 191 #[(pt tbt48_0_0 0), (pt tbt48_0_3 0)])] 109), (sb b49 #[(fV 153 #[]), (fV 154 #[])] 109), (sb b24 (AC x1 a1_4 n1_4 a1_5 n1_5) 27), (sb b21 (Ag x0) 23)]) ht94 (Fa.mono _ _ _ _ hJ72 le85) hs84) ?_
  rintro _ F6 w90 _ hs91 le92 ⟨rfl, Lf96, rfl, hJ97⟩
  have hs98 : HS w0 F0 w90 F6 ((sb b74 #[(fV 190 #[(pt tbt48_0_0 0), (pt tbt48_0_1 0), (pt tbt48_0_2 0), (pt tbt48_0_3 0)]), (fV 191 #[(pt tbt48_0_0 0), (pt tbt48_0_3 0)])] 109) :: (sb b49 #[(fV 153 #[]), (fV 154 #[])] 109) :: (sb b24 (AC x1 a1_4 n1_4 a1_5 n1_5) 27) :: (sb b21 (Ag x0) 23) :: Lf96) := hs91
  refine Up <| Aq <| Ab <| Rg [0, 1] <| Vs 2 <| Nt <| URL.step <| Sq (Rg [0] ?_)
  refine Vs 1 <| Nss <| C1 (rfl : true = true) <| Sc <| Ab <| Sq <| Bk <| Sq (Rg [0, 1, 2] ?_)
  refine V 27 109 (Gu (t := 110) (E := 109) (len := 5) (s := 2) (x := (.tmp 24)) (y := (.tmp 25)) (k := .i64) (i := 2) (cs := [(fV 153 #[]), (fV 154 #[]), (fV 190 #[(pt tbt48_0_0 0), (pt tbt48_0_1 0), (pt tbt48_0_2 0), (pt tbt48_0_3 0)]), (fV 191 #[(pt tbt48_0_0 0), (pt tbt48_0_3 0)]), (fV 190 #[(pt tbt48_0_4 0), (pt tbt48_0_5 0), (pt tbt48_0_6 0), (pt tbt48_0_7 0)]), (fV 191 #[(pt tbt48_0_4 0), (pt tbt48_0_7 0)]), (fV 190 #[(pt tbt48_0_8 0), (pt tbt48_0_9 0), (pt tbt48_0_10 0), (pt tbt48_0_11 0)]), (fV 191 #[(pt tbt48_0_8 0), (pt tbt48_0_11 0)]), (fV 159 #[]), (fV 160 #[])]) (C := [(fV 190 #[(pt tbt48_0_4 0), (pt tbt48_0_5 0), (pt tbt48_0_6 0), (pt tbt48_0_7 0)]), (fV 191 #[(pt tbt48_0_4 0), (pt tbt48_0_7 0)])]) rfl rfl (by kernel_rfl) (by kernel_rfl) (by decide) rfl rfl) <| Al' 109 #[.nilFunc, .nilFunc] hs98 (fun b99 w100 hs101 => ?_)
  refine St0 #[(fV 190 #[(pt tbt48_0_4 0), (pt tbt48_0_5 0), (pt tbt48_0_6 0), (pt tbt48_0_7 0)]), (fV 191 #[(pt tbt48_0_4 0), (pt tbt48_0_7 0)])] hs101 (fun w102 hs103 => ?_)
  refine Nt <| Rg (rG 6) <| Vs 1 <| Ld hs103.at0 <| Ld hs103.at3 ?_
  obtain ⟨r104, hr105, h106⟩ := bind_some h95
  refine Cl' IB hs103 (Jq N w102 F6 hs103.pers (hG.mono (((((le33.t le47).trans le60).trans le67).trans le85).trans le92)) x1 a1_4 n1_4 hb1_4 (Uw hs1_4 (((((le33.t le47).trans le60).trans le67).trans le85).trans le92)) a1_5 n1_5 hb1_5 (Uw hs1_5 (((((le33.t le47).trans le60).trans le67).trans le85).trans le92)) tbt48_0_4 ([80, 79, 87, 69, 82] : UO) ((((le60.t le67).trans le85).trans le92) _ _ htbt48_0_4) tbt48_0_7 ((((le60.t le67).trans le85).trans le92) _ _ htbt48_0_7) _ hr105) ?_
  rintro _ F7 w108 hs109 le110 rfl
  obtain ⟨r112, hr113, h114⟩ := bind_some h106
  refine V 32 9 (AV (t := 9) (t' := 9) (x := (.tmp 31)) (y := (.const (sv ([10] : UO)))) (a := r104) (b := ([10] : UO)) (v := r112) rfl rfl hr113) ?_
  obtain ⟨t118, ht119, h120⟩ := bind_some h114
  refine CB Bf (Ds (L := [(sb b99 #[(fV 190 #[(pt tbt48_0_4 0), (pt tbt48_0_5 0), (pt tbt48_0_6 0), (pt tbt48_0_7 0)]), (fV 191 #[(pt tbt48_0_4 0), (pt tbt48_0_7 0)])] 109), (sb b74 #[(fV 190 #[(pt tbt48_0_0 0), (pt tbt48_0_1 0), (pt tbt48_0_2 0), (pt tbt48_0_3 0)]), (fV 191 #[(pt tbt48_0_0 0), (pt tbt48_0_3 0)])] 109), (sb b49 #[(fV 153 #[]), (fV 154 #[])] 109), (sb b24 (AC x1 a1_4 n1_4 a1_5 n1_5) 27), (sb b21 (Ag x0) 23)]) ht119 (Fa.mono _ _ _ _ hJ97 le110) hs109) ?_
  rintro _ F8 w115 _ hs116 le117 ⟨rfl, Lf121, rfl, hJ122⟩
  have hs123 : HS w0 F0 w115 F8 ((sb b99 #[(fV 190 #[(pt tbt48_0_4 0), (pt tbt48_0_5 0), (pt tbt48_0_6 0), (pt tbt48_0_7 0)]), (fV 191 #[(pt tbt48_0_4 0), (pt tbt48_0_7 0)])] 109) :: (sb b74 #[(fV 190 #[(pt tbt48_0_0 0), (pt tbt48_0_1 0), (pt tbt48_0_2 0), (pt tbt48_0_3 0)]), (fV 191 #[(pt tbt48_0_0 0), (pt tbt48_0_3 0)])] 109) :: (sb b49 #[(fV 153 #[]), (fV 154 #[])] 109) :: (sb b24 (AC x1 a1_4 n1_4 a1_5 n1_5) 27) :: (sb b21 (Ag x0) 23) :: Lf121) := hs116
  refine Up <| Aq <| Ab <| Rg [0, 1] <| Vs 2 <| Nt <| URL.step <| Sq (Rg [0] ?_)
  refine Vs 1 <| Nss <| C1 (rfl : true = true) <| Sc <| Ab <| Sq <| Bk <| Sq (Rg [0, 1, 2] ?_)
  refine V 27 109 (Gu (t := 110) (E := 109) (len := 5) (s := 2) (x := (.tmp 24)) (y := (.tmp 25)) (k := .i64) (i := 3) (cs := [(fV 153 #[]), (fV 154 #[]), (fV 190 #[(pt tbt48_0_0 0), (pt tbt48_0_1 0), (pt tbt48_0_2 0), (pt tbt48_0_3 0)]), (fV 191 #[(pt tbt48_0_0 0), (pt tbt48_0_3 0)]), (fV 190 #[(pt tbt48_0_4 0), (pt tbt48_0_5 0), (pt tbt48_0_6 0), (pt tbt48_0_7 0)]), (fV 191 #[(pt tbt48_0_4 0), (pt tbt48_0_7 0)]), (fV 190 #[(pt tbt48_0_8 0), (pt tbt48_0_9 0), (pt tbt48_0_10 0), (pt tbt48_0_11 0)]), (fV 191 #[(pt tbt48_0_8 0), (pt tbt48_0_11 0)]), (fV 159 #[]), (fV 160 #[])]) (C := [(fV 190 #[(pt tbt48_0_8 0), (pt tbt48_0_9 0), (pt tbt48_0_10 0), (pt tbt48_0_11 0)]), (fV 191 #[(pt tbt48_0_8 0), (pt tbt48_0_11 0)])]) rfl rfl (by kernel_rfl) (by kernel_rfl) (by decide) rfl rfl) <| Al' 109 #[.nilFunc, .nilFunc] hs123 (fun b124 w125 hs126 => ?_)
  refine St0 #[(fV 190 #[(pt tbt48_0_8 0), (pt tbt48_0_9 0), (pt tbt48_0_10 0), (pt tbt48_0_11 0)]), (fV 191 #[(pt tbt48_0_8 0), (pt tbt48_0_11 0)])] hs126 (fun w127 hs128 => ?_)
  refine Nt <| Rg (rG 6) <| Vs 1 <| Ld hs128.at0 <| Ld hs128.at4 ?_
  obtain ⟨r129, hr130, h131⟩ := bind_some h120
  refine Cl' IC hs128 (Jr N w127 F8 hs128.pers (hG.mono (((((((le33.t le47).trans le60).trans le67).trans le85).trans le92).trans le110).trans le117)) x1 a1_4 n1_4 hb1_4 (Uw hs1_4 (((((((le33.t le47).trans le60).trans le67).trans le85).trans le92).trans le110).trans le117)) a1_5 n1_5 hb1_5 (Uw hs1_5 (((((((le33.t le47).trans le60).trans le67).trans le85).trans le92).trans le110).trans le117)) tbt48_0_8 ([67, 76, 65, 73, 77, 69, 68] : UO) ((((((le60.t le67).trans le85).trans le92).trans le110).trans le117) _ _ htbt48_0_8) tbt48_0_11 ((((((le60.t le67).trans le85).trans le92).trans le110).trans le117) _ _ htbt48_0_11) _ hr130) ?_
  rintro _ F9 w133 hs134 le135 rfl
  obtain ⟨r137, hr138, h139⟩ := bind_some h131
  refine V 32 9 (AV (t := 9) (t' := 9) (x := (.tmp 31)) (y := (.const (sv ([10] : UO)))) (a := r129) (b := ([10] : UO)) (v := r137) rfl rfl hr138) ?_
  obtain ⟨t143, ht144, h145⟩ := bind_some h139
  refine CB Bf (Ds (L := [(sb b124 #[(fV 190 #[(pt tbt48_0_8 0), (pt tbt48_0_9 0), (pt tbt48_0_10 0), (pt tbt48_0_11 0)]), (fV 191 #[(pt tbt48_0_8 0), (pt tbt48_0_11 0)])] 109), (sb b99 #[(fV 190 #[(pt tbt48_0_4 0), (pt tbt48_0_5 0), (pt tbt48_0_6 0), (pt tbt48_0_7 0)]), (fV 191 #[(pt tbt48_0_4 0), (pt tbt48_0_7 0)])] 109), (sb b74 #[(fV 190 #[(pt tbt48_0_0 0), (pt tbt48_0_1 0), (pt tbt48_0_2 0), (pt tbt48_0_3 0)]), (fV 191 #[(pt tbt48_0_0 0), (pt tbt48_0_3 0)])] 109), (sb b49 #[(fV 153 #[]), (fV 154 #[])] 109), (sb b24 (AC x1 a1_4 n1_4 a1_5 n1_5) 27), (sb b21 (Ag x0) 23)]) ht144 (Fa.mono _ _ _ _ hJ122 le135) hs134) ?_
  rintro _ F10 w140 _ hs141 le142 ⟨rfl, Lf146, rfl, hJ147⟩
  have hs148 : HS w0 F0 w140 F10 ((sb b124 #[(fV 190 #[(pt tbt48_0_8 0), (pt tbt48_0_9 0), (pt tbt48_0_10 0), (pt tbt48_0_11 0)]), (fV 191 #[(pt tbt48_0_8 0), (pt tbt48_0_11 0)])] 109) :: (sb b99 #[(fV 190 #[(pt tbt48_0_4 0), (pt tbt48_0_5 0), (pt tbt48_0_6 0), (pt tbt48_0_7 0)]), (fV 191 #[(pt tbt48_0_4 0), (pt tbt48_0_7 0)])] 109) :: (sb b74 #[(fV 190 #[(pt tbt48_0_0 0), (pt tbt48_0_1 0), (pt tbt48_0_2 0), (pt tbt48_0_3 0)]), (fV 191 #[(pt tbt48_0_0 0), (pt tbt48_0_3 0)])] 109) :: (sb b49 #[(fV 153 #[]), (fV 154 #[])] 109) :: (sb b24 (AC x1 a1_4 n1_4 a1_5 n1_5) 27) :: (sb b21 (Ag x0) 23) :: Lf146) := hs141
  refine Up <| Aq <| Ab <| Rg [0, 1] <| Vs 2 <| Nt <| URL.step <| Sq (Rg [0] ?_)
  refine Vs 1 <| Nss <| C1 (rfl : true = true) <| Sc <| Ab <| Sq <| Bk <| Sq (Rg [0, 1, 2] ?_)
  refine V 27 109 (Gu (t := 110) (E := 109) (len := 5) (s := 2) (x := (.tmp 24)) (y := (.tmp 25)) (k := .i64) (i := 4) (cs := [(fV 153 #[]), (fV 154 #[]), (fV 190 #[(pt tbt48_0_0 0), (pt tbt48_0_1 0), (pt tbt48_0_2 0), (pt tbt48_0_3 0)]), (fV 191 #[(pt tbt48_0_0 0), (pt tbt48_0_3 0)]), (fV 190 #[(pt tbt48_0_4 0), (pt tbt48_0_5 0), (pt tbt48_0_6 0), (pt tbt48_0_7 0)]), (fV 191 #[(pt tbt48_0_4 0), (pt tbt48_0_7 0)]), (fV 190 #[(pt tbt48_0_8 0), (pt tbt48_0_9 0), (pt tbt48_0_10 0), (pt tbt48_0_11 0)]), (fV 191 #[(pt tbt48_0_8 0), (pt tbt48_0_11 0)]), (fV 159 #[]), (fV 160 #[])]) (C := [(fV 159 #[]), (fV 160 #[])]) rfl rfl (by kernel_rfl) (by kernel_rfl) (by decide) rfl rfl) <| Al' 109 #[.nilFunc, .nilFunc] hs148 (fun b149 w150 hs151 => ?_)
  refine St0 #[(fV 159 #[]), (fV 160 #[])] hs151 (fun w152 hs153 => ?_)
  refine Nt <| Rg (rG 6) <| Vs 1 <| Ld hs153.at0 <| Ld hs153.at5 ?_
  obtain ⟨r154, hr155, h156⟩ := bind_some h145
  refine Cl' Jn hs153 (Kf N w152 F10 hs153.pers (hG.mono (((((((((le33.t le47).trans le60).trans le67).trans le85).trans le92).trans le110).trans le117).trans le135).trans le142)) x1 a1_4 n1_4 hb1_4 (Uw hs1_4 (((((((((le33.t le47).trans le60).trans le67).trans le85).trans le92).trans le110).trans le117).trans le135).trans le142)) a1_5 n1_5 hb1_5 (Uw hs1_5 (((((((((le33.t le47).trans le60).trans le67).trans le85).trans le92).trans le110).trans le117).trans le135).trans le142)) _ hr155) ?_
  rintro _ F11 w158 hs159 le160 rfl
  obtain ⟨r162, hr163, h164⟩ := bind_some h156
  refine V 32 9 (AV (t := 9) (t' := 9) (x := (.tmp 31)) (y := (.const (sv ([10] : UO)))) (a := r154) (b := ([10] : UO)) (v := r162) rfl rfl hr163) ?_
  obtain ⟨t168, ht169, h170⟩ := bind_some h164
  refine CB Bf (Ds (L := [(sb b149 #[(fV 159 #[]), (fV 160 #[])] 109), (sb b124 #[(fV 190 #[(pt tbt48_0_8 0), (pt tbt48_0_9 0), (pt tbt48_0_10 0), (pt tbt48_0_11 0)]), (fV 191 #[(pt tbt48_0_8 0), (pt tbt48_0_11 0)])] 109), (sb b99 #[(fV 190 #[(pt tbt48_0_4 0), (pt tbt48_0_5 0), (pt tbt48_0_6 0), (pt tbt48_0_7 0)]), (fV 191 #[(pt tbt48_0_4 0), (pt tbt48_0_7 0)])] 109), (sb b74 #[(fV 190 #[(pt tbt48_0_0 0), (pt tbt48_0_1 0), (pt tbt48_0_2 0), (pt tbt48_0_3 0)]), (fV 191 #[(pt tbt48_0_0 0), (pt tbt48_0_3 0)])] 109), (sb b49 #[(fV 153 #[]), (fV 154 #[])] 109), (sb b24 (AC x1 a1_4 n1_4 a1_5 n1_5) 27), (sb b21 (Ag x0) 23)]) ht169 (Fa.mono _ _ _ _ hJ147 le160) hs159) ?_
  rintro _ F12 w165 _ hs166 le167 ⟨rfl, Lf171, rfl, hJ172⟩
  have hs173 : HS w0 F0 w165 F12 ((sb b149 #[(fV 159 #[]), (fV 160 #[])] 109) :: (sb b124 #[(fV 190 #[(pt tbt48_0_8 0), (pt tbt48_0_9 0), (pt tbt48_0_10 0), (pt tbt48_0_11 0)]), (fV 191 #[(pt tbt48_0_8 0), (pt tbt48_0_11 0)])] 109) :: (sb b99 #[(fV 190 #[(pt tbt48_0_4 0), (pt tbt48_0_5 0), (pt tbt48_0_6 0), (pt tbt48_0_7 0)]), (fV 191 #[(pt tbt48_0_4 0), (pt tbt48_0_7 0)])] 109) :: (sb b74 #[(fV 190 #[(pt tbt48_0_0 0), (pt tbt48_0_1 0), (pt tbt48_0_2 0), (pt tbt48_0_3 0)]), (fV 191 #[(pt tbt48_0_0 0), (pt tbt48_0_3 0)])] 109) :: (sb b49 #[(fV 153 #[]), (fV 154 #[])] 109) :: (sb b24 (AC x1 a1_4 n1_4 a1_5 n1_5) 27) :: (sb b21 (Ag x0) 23) :: Lf171) := hs166
  refine Up <| Aq <| Ab <| Rg [0, 1] <| Vs 2 <| Nt <| URL.step <| Sq (Rg [0] ?_)
  refine Vs 1 <| Nss <| C0 (rfl : false = false) <| Ex <| Ao <| Ao <| Ay rfl <| Ab <| Sq <| Sq (Rg (rG 4) ?_)
  refine Vs 1 <| Ld hs173.at5 <| Vs 2 <| Nt ?_
  have hs174 := hs173.dr0.dr0.dr0.dr0.dr0
  obtain ⟨o175, ho176, h177⟩ := bind_some h170
  refine UA (fun f w => ∃ (s190 : (Int × UO)) (F14 : Mem) (Lf194 : Own), o175 = .done s190 /\ HS w0 F0 w F14 Lf194 /\ Ut F12 F14 /\ FI f [] [(8, (pt b38 0))] /\ Fa b38 s190.2 F14 Lf194) ?_ ?_
  ·refine Bk ?_
   refine Us (by kernel_rfl) (fun m f w => ∃ (s178 : (Int × UO)) (F13 : Mem) (Lf182 : Own), AO (IW N x0 x1 r27 r54 r62 t68 r79 r87 t93 r104 r112 t118 r129 r137 t143 r154 r162 t168) m s178 = some o175 /\ HS w0 F0 w F13 ((sb b21 (Ag x0) 23) :: Lf182) /\ Ut F12 F13 /\ FI f [] [(2, (pt b21 0)), (8, (pt b38 0)), (36, (.slice a1_5 x1.Lines.length n1_5)), (37, (vi (x1.Lines.length : Int))), (38, (vi s178.1))] /\ Fa b38 s178.2 F13 Lf182) N ⟨(0, t168), F12, Lf171, ho176, hs174.dr0, (Uu _), fI, hJ172⟩ ?_
   rintro m198 f w179 ⟨s178, F13, Lf182, hit199, hs180, le181, ⟨_, rfl⟩, hJ183⟩
   obtain ⟨m200, fl201, rfl, hb202, hnx203⟩ := AD hit199
   refine Sq (Rg [0] ?_)
   refine Vs 1 <| Nss <| Cd hb202 (fun hb204 h205 => ?_) (fun hb204 h206 => ?_)
   ·refine Sc ?_
    refine Ab <| Sq <| Bk <| Sq (Rg (rG 4) ?_)
    obtain ⟨x207, hx208, h210⟩ := bind_some h205
    obtain ⟨hi209, hx208'⟩ := Ak hx208
    obtain ⟨b211, o212, C213, E214, fz215, rfl, hF217, hE218⟩ := UB (Uw hs1_5 ((((((((((((le33.t le47).trans le60).trans le67).trans le85).trans le92).trans le110).trans le117).trans le135).trans le142).trans le160).trans le167).trans le181)) hx208'
    have hc220 := hE218 _ _ hx208'
    refine Ix hi209 <| Lx 0 (hs180.pers _ _ hF217) hc220 <| Al' 34 #[(vi 0), (vi 0), (vi 0), (vi 0), (sv (([] : UO))), (vi 0), (vi 0), (vi 0), (vi 0), (vi 0), (vi 0)] hs180 (fun b221 w222 hs223 => ?_)
    refine St0 (BN x207) hs223 (fun w224 hs225 => ?_)
    refine Nss (Rg (rG 8) ?_)
    refine Ld hs225.at1 <| Ld hs225.at0 ?_
    obtain ⟨r226, hr227, h228⟩ := bind_some h210
    refine Cl' FX hs225 (GO N w224 F13 hs225.pers (hG.mono ((((((((((((le33.t le47).trans le60).trans le67).trans le85).trans le92).trans le110).trans le117).trans le135).trans le142).trans le160).trans le167).trans le181)) (({ Report := x0.Report, Serial := x0.Serial, Zone := x0.Zone } : Ac)) x207 _ hr227) ?_
    rintro _ F15 w230 hs231 le232 rfl
    refine Vs 5 <| Nt <| Rg [0, 1, 2] <| Vs 1 ?_
    obtain ⟨r234, hr235, h236⟩ := bind_some h228
    refine V 49 9 (AV (t := 9) (t' := 9) (x := (.tmp 48)) (y := (.const (sv ([10] : UO)))) (a := r226.1) (b := ([10] : UO)) (v := r234) rfl rfl hr235) ?_
    obtain ⟨t240, ht241, h242⟩ := bind_some h236
    refine CB Bf (Ds (L := [(sb b221 (BN x207) 34), (sb b21 (Ag x0) 23)]) ht241 (Fa.mono _ _ _ _ hJ183 le232) hs231) ?_
    rintro _ F16 w237 _ hs238 le239 ⟨rfl, Lf243, rfl, hJ244⟩
    have hs245 : HS w0 F0 w237 F16 ((sb b221 (BN x207) 34) :: (sb b21 (Ag x0) 23) :: Lf243) := hs238
    refine Up <| Aq <| Ab <| Rg [0, 1] <| Vs 2 <| Up ?_
    have hn246 := AJ h242 hnx203
    exact ⟨m200, Nat.lt_succ_self _, ((W64 (s178.1 + 1)), t240), F16, Lf243, hn246, hs245.dr0, ((le181.t le232).trans le239), fI, hJ244⟩
   ·refine Ex ?_
    refine Ao <| Ao <| Ay rfl ?_
    have ho247 := AE h206 hnx203
    exact .inl ⟨rfl, (s178.1, s178.2), F13, Lf182, ho247, hs180.dr0, le181, fI, hJ183⟩
  ·rintro f w191 ⟨s190, F14, Lf194, rfl, hs192, le193, ⟨_, rfl⟩, hJ195⟩
   have h248 := Bc h177
   refine Ab <| Sq (Rg [0] ?_)
   obtain ⟨t252, ht253, h254⟩ := bind_some h248
   refine CB Bf (Ds (L := []) ht253 hJ195 hs192) ?_
   rintro _ F17 w249 Lf255 hs250 le251 ⟨rfl, _, rfl, hJ256⟩
   have hs257 : HS w0 F0 w249 F17 Lf255 := hs250
   refine Nss (Rg [0, 1, 2] ?_)
   refine CB MN (NX (L := []) hJ256 hs257) ?_
   rintro _ _ w258 _ hs259 _ ⟨rfl, rfl, rfl⟩
   refine Vs 2 <| Nt <| Rt ?_
   obtain rfl := Aa h254
   exact Re [(sv t252), (vi 0)] hs259 rfl
def BI (N : Nat) (x0 : UO) : Option (Int × Bool) :=
 ((DU N x0).bind fun r21 => ((bif (!r21.2) then ((strconv_Itoa N r21.1).bind fun r41 => some (r41 == x0)) else some false).bind fun j32 => some (r21.1, j32)))
theorem Bg : Af Tryz.prog 95 := fun _ _ => by kernel_rfl
theorem Bp (N : Nat) (w0 : World) (F0 : Mem) (hF : UQ w0 F0) (hG : Bm F0) (x0 : UO) (r : (Int × Bool)) (h : BI N x0 = some r) :
  Calls Tryz.prog 95 ([(sv x0)] : List Value).toArray w0 (AA w0 F0 fun F' v => v = (.tuple #[(vi r.1), (.bool r.2)])) := by
 have hs0 := Uv hF
 refine Go 20 Tryz.func95 <| Sq (Rg [0, 1] ?_)
 refine Vs 2 <| Nss (Rg (rG 7) ?_)
 refine Vs 1 ?_
 obtain ⟨r21, hr22, h23⟩ := bind_some h
 refine Cl' Hf hs0 (Ia N w0 F0 hs0.pers hG x0 _ hr22) ?_
 rintro _ F1 w25 hs26 le27 ⟨vr21_1_0, rfl, her21_1_0⟩
 refine Vs 5 <| Nss (Rg (rG 11) ?_)
 obtain ⟨j32, hj36, h37⟩ := bind_some h23
 refine Uz (fun f w => ∃ (F2 : Mem), HS w0 F0 w F2 [] /\ Ut F1 F2 /\ FI f [] [(2, (vi r21.1)), (3, (.bool j32))]) ?_ ?_
 ·refine Vs 2 ?_
  refine V 13 4 (PA (t := 113) (t' := 113) (x := (.tmp 12)) (c := .nilIface) her21_1_0 rfl rfl (by kernel_rfl)) <| Vs 1 <| Sp hj36 (fun hb38 h39 => ?_) (fun hb38 h40 => ?_)
  ·refine Vgs hb38 1 ?_
   obtain ⟨r41, hr42, h43⟩ := bind_some h39
   refine Cg hb38 Bz hs26 (BJ N w25 F1 hs26.pers (hG.mono le27) r21.1 _ hr42) ?_
   rintro _ F3 w45 hs46 le47 rfl
   refine Vgs hb38 2 <| Pk1 hb38 <| Vs 2 ?_
   obtain rfl := Aa h43
   exact Up ⟨rfl, F3, hs46, le47, fI⟩
  ·refine Ss hb38 4 ?_
   refine Pk0 hb38 <| Vs 2 ?_
   obtain rfl := Aa h40
   exact Up ⟨rfl, F1, hs26, (Uu _), fI⟩
 ·rintro f w29 ⟨F2, hs30, le31, ⟨_, rfl⟩⟩
  refine Ab <| Rt ?_
  obtain rfl := Aa h37
  exact Re [(vi r21.1), (.bool j32)] hs30 rfl
end Go.Proofs.YthljkpeimofbbaaGreatDoor
