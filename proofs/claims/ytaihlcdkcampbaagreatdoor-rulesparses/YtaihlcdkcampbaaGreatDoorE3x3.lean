/- Lemmas of the claim RulesParses, printed by a program of the claimant and by hand. No statement of the seat is proved here. -/
import Derived.Test.YtaihlcdkcampbaaGreatDoorE3x2
set_option linter.unusedVariables false
set_option linter.unusedSimpArgs false
set_option linter.unusedSectionVars false
set_option maxHeartbeats 4000000
set_option maxRecDepth 100000
namespace Go.Proofs.YtaihlcdkcampbaaGreatDoor
def E0 (N : Nat) (x0 : TN) (s26 : (List Af × Int)) (j53 : Bool) (c75 : Int) (r78 : Bool) : Int -> Option (Bv (List Af) Int) := fun s102 =>
 ((bif (decide (s102 < (x0.length : Int))) then ((Gi x0 s102).bind fun c141 => ((DB N c141).bind fun r144 => some r144)) else some false).bind fun j129 => (bif j129 then some (.next (W64 (s102 + 1))) else some (.done s102)))
def EZ (N : Nat) (x0 : TN) (s26 : (List Af × Int)) (j53 : Bool) (c75 : Int) (r78 : Bool) (c175 : Int) (r178 : Bool) : Int -> Option (Bv (List Af) Int) := fun s202 =>
 ((bif (decide (s202 < (x0.length : Int))) then ((Gi x0 s202).bind fun c241 => ((DA N c241).bind fun r244 => some r244)) else some false).bind fun j229 => (bif j229 then some (.next (W64 (s202 + 1))) else some (.done s202)))
def CJ (N : Nat) (x0 : TN) : (List Af × Int) -> Option (Bv (List Af) (List Af × Int)) := fun s26 =>
 (bif (decide (s26.2 < (x0.length : Int))) then (((Gi x0 s26.2).bind fun c62 => (bif (c62 == 32) then some true else ((Gi x0 s26.2).bind fun c68 => some (c68 == 9)))).bind fun j53 => (bif j53 then some (.next (s26.1, (W64 (s26.2 + 1)))) else ((Gi x0 s26.2).bind fun c75 => ((DB N c75).bind fun r78 => ((bif r78 then ((Be (E0 N x0 s26 j53 c75 r78) N s26.2).bind fun o => o.k (fun r => none) (fun s111 => ((IZ x0 s26.2 s111).bind fun r158 => ((CU s26.1 [({ Kind := 1, At := s26.2, Text := r158 } : Af)]).bind fun r166 => some (r166, s111))))) else ((Gi x0 s26.2).bind fun c175 => ((DA N c175).bind fun r178 => ((bif r178 then ((Be (EZ N x0 s26 j53 c75 r78 c175 r178) N s26.2).bind fun o => o.k (fun r => none) (fun s211 => ((IZ x0 s26.2 s211).bind fun r258 => ((CU s26.1 [({ Kind := 2, At := s26.2, Text := r258 } : Af)]).bind fun r266 => some (r266, s211))))) else ((Gi x0 s26.2).bind fun c275 => ((bif (c275 == 10) then ((CU s26.1 [({ Kind := 4, At := s26.2, Text := ([10] : TN) } : Af)]).bind fun r296 => some (r296, (W64 (s26.2 + 1)))) else (((Gi x0 s26.2).bind fun c317 => (bif (c317 == 61) then (bif (decide ((W64 (s26.2 + 1)) < (x0.length : Int))) then ((Gi x0 (W64 (s26.2 + 1))).bind fun c326 => some (c326 == 62)) else some false) else some false)).bind fun j308 => ((bif j308 then ((CU s26.1 [({ Kind := 3, At := s26.2, Text := ([61, 62] : TN) } : Af)]).bind fun r347 => some (r347, (W64 (s26.2 + 2)))) else ((Gi x0 s26.2).bind fun c356 => ((GP N c356).bind fun r359 => ((bif r359 then ((IZ x0 s26.2 (W64 (s26.2 + 1))).bind fun r380 => ((CU s26.1 [({ Kind := 3, At := s26.2, Text := r380 } : Af)]).bind fun r388 => some r388)) else ((IZ x0 s26.2 (W64 (s26.2 + 1))).bind fun r397 => ((CU s26.1 [({ Kind := 0, At := s26.2, Text := r397 } : Af)]).bind fun r405 => some r405))).bind fun j370 => some (j370, (W64 (s26.2 + 1))))))).bind fun j332 => some (j332.1, j332.2)))).bind fun j281 => some (j281.1, j281.2)))).bind fun j189 => some (j189.1, j189.2))))).bind fun j89 => some (.next (j89.1, j89.2))))))) else some (.done (s26.1, s26.2)))
def Fi (N : Nat) (x0 : TN) : Option (List Af) :=
 ((Be (CJ N x0) N (([] : List Af), 0)).bind fun o => o.k (fun r => some r) (fun s34 => ((CU s34.1 [({ Kind := 5, At := (x0.length : Int), Text := ([] : TN) } : Af)]).bind fun r422 => some r422)))
theorem K7 : Au Tryz.prog 82 := fun _ _ => by kernel_rfl
theorem Md (N : Nat) (w0 : World) (F0 : Mem) (hF : TP w0 F0) (x0 : TN) (r : (List Af)) (h : Fi N x0 = some r) :
  Calls Tryz.prog 82 ([(.string ⟨(x0).toArray⟩)] : List Value).toArray w0 (Bd w0 F0 fun F' v => ∃ (aq0_0 : TO) (nq0_0 : Nat), v = (.slice aq0_0 r.length nq0_0) /\ LC r.length nq0_0 /\ SlA Ag F' aq0_0 r) := by
 have hs0 := Tp hF
 refine Go 147 Tryz.func82 ?_
 refine Sq (Rg [0] ?_)
 refine Vs 1 ?_
 refine Nss (Rg [0] ?_)
 refine Vs 1 ?_
 refine Nss (Rg [0] ?_)
 refine Vs 1 ?_
 refine Nss ?_
 have hs21 := hs0.dummy (oc #[] 0)
 obtain ⟨o23, ho24, h25⟩ := bind_some h
 refine Tu (fun f w => ∃ (s34 : (List Af × Int)) (F2 : Mem) (as34_0 : TO) (ns34_0 : Nat) (es34_0 : Option Nat × Obj), o23 = .done s34 /\ HS w0 F0 w F2 [es34_0] /\ Tn F0 F2 /\ FI f [] [(0, (.string ⟨(x0).toArray⟩)), (3, (.slice as34_0 s34.1.length ns34_0))] /\ Av Ag 110 F2 as34_0 ns34_0 s34.1 es34_0) ?_ ?_
 ·refine Bk ?_
  refine Tm (by kernel_rfl) (fun m f w => ∃ (s26 : (List Af × Int)) (F1 : Mem) (as26_0 : TO) (ns26_0 : Nat) (es26_0 : Option Nat × Obj), Be (CJ N x0) m s26 = some o23 /\ HS w0 F0 w F1 [es26_0] /\ Tn F0 F1 /\ FI f [] [(0, (.string ⟨(x0).toArray⟩)), (3, (.slice as26_0 s26.1.length ns26_0)), (4, (vi s26.2))] /\ Av Ag 110 F1 as26_0 ns26_0 s26.1 es26_0) N ⟨(([] : List Af), 0), F0, none, 0, (none, .cells #[] 0 (0, 0)), ho24, hs21, (To _), fI, (TG Ag 110 F0 _)⟩ ?_
  rintro m41 f w27 ⟨s26, F1, as26_0, ns26_0, es26_0, hit42, hs28, le29, ⟨_, rfl⟩, hrs26_0⟩
  obtain ⟨m43, fl44, rfl, hb45, hnx46⟩ := A5 hit42
  refine Sq ?_
  refine Sq (Rg [0, 1, 2, 3] ?_)
  refine Vs 4 ?_
  refine Nt ?_
  refine Cd hb45 (fun hb47 h48 => ?_) (fun hb47 h49 => ?_)
  ·refine Sc ?_
   refine Ad ?_
   refine Bk ?_
   refine Sq (Rg [0, 1] ?_)
   refine Vs 2 ?_
   refine Nt ?_
   refine Bk ?_
   refine Sq (Rg [0, 1, 2, 3, 4, 5, 6, 7, 8, 9, 10] ?_)
   obtain ⟨j53, hj60, h61⟩ := bind_some h48
   refine Tt (fun f w => ∃ (F3 : Mem), HS w0 F0 w F3 [es26_0] /\ Tn F1 F3 /\ FI f [] [(0, (.string ⟨(x0).toArray⟩)), (3, (.slice as26_0 s26.1.length ns26_0)), (4, (vi s26.2)), (5, (vi s26.2)), (22, (.bool j53))]) ?_ ?_
   ·refine Vs 2 ?_
    obtain ⟨c62, hr63, h64⟩ := bind_some hj60
    refine V 25 5 (CC (t := 9) (x := (.tmp 23)) (y := (.tmp 24)) (a := x0) (k := .i64) (i := s26.2) (v := c62) rfl rfl (by kernel_rfl) hr63) ?_
    refine Vs 2 ?_
    refine Sp h64 (fun hb65 h66 => ?_) (fun hb65 h67 => ?_)
    ·refine Ss hb65 4 ?_
     refine Pk1 hb65 ?_
     refine Vs 1 ?_
     obtain rfl := Ab h66
     exact Tj ⟨rfl, F1, hs28, (To _), fI⟩
    ·refine Vgs hb65 2 ?_
     obtain ⟨c68, hr69, h70⟩ := bind_some h67
     refine Vg 30 5 4 false 27 hb65 (CC (t := 9) (x := (.tmp 28)) (y := (.tmp 29)) (a := x0) (k := .i64) (i := s26.2) (v := c68) rfl rfl (by kernel_rfl) hr69) ?_
     refine Vgs hb65 1 ?_
     refine Pk0 hb65 ?_
     refine Vs 1 ?_
     obtain rfl := Ab h70
     exact Tj ⟨rfl, F1, hs28, (To _), fI⟩
   ·rintro f w50 ⟨F3, hs51, le52, ⟨_, rfl⟩⟩
    refine Ad ?_
    refine Cd h61 (fun hb71 h72 => ?_) (fun hb71 h73 => ?_)
    ·refine Sq (Rg [0, 1, 2] ?_)
     refine Vs 3 ?_
     refine Nt ?_
     refine Ex ?_
     refine KX (by decide) ?_
     refine AL rfl ?_
     have hn74 := AW h72 hnx46
     exact ⟨m43, Nat.lt_succ_self _, (s26.1, (W64 (s26.2 + 1))), F3, as26_0, ns26_0, es26_0, hn74, hs51, (le29.trans le52), fI, (hrs26_0.mono le52)⟩
    ·refine Sq (Rg [0, 1, 2, 3, 4] ?_)
     refine Vs 2 ?_
     obtain ⟨c75, hr76, h77⟩ := bind_some h73
     refine V 38 5 (CC (t := 9) (x := (.tmp 36)) (y := (.tmp 37)) (a := x0) (k := .i64) (i := s26.2) (v := c75) rfl rfl (by kernel_rfl) hr76) ?_
     obtain ⟨r78, hr79, h80⟩ := bind_some h77
     refine Cl' HK hs51 (IV N w50 F3 hs51.pers c75 _ hr79) ?_
     rintro _ F4 w82 hs83 le84 rfl
     refine Vs 1 ?_
     refine Nt ?_
     obtain ⟨j89, hj94, h95⟩ := bind_some h80
     refine Tu (fun f w => ∃ (F5 : Mem) (aj89_0 : TO) (nj89_0 : Nat) (ej89_0 : Option Nat × Obj), HS w0 F0 w F5 [ej89_0] /\ Tn F4 F5 /\ FI f [] [(0, (.string ⟨(x0).toArray⟩)), (3, (.slice aj89_0 j89.1.length nj89_0)), (4, (vi j89.2))] /\ Av Ag 110 F5 aj89_0 nj89_0 j89.1 ej89_0) ?_ ?_
     ·refine Cd hj94 (fun hb96 h97 => ?_) (fun hb96 h98 => ?_)
      ·refine Sq ?_
       obtain ⟨o99, ho100, h101⟩ := bind_some h97
       refine Tu (fun f w => ∃ (s111 : Int) (F7 : Mem), o99 = .done s111 /\ HS w0 F0 w F7 [es26_0] /\ Tn F4 F7 /\ FI f [] [(0, (.string ⟨(x0).toArray⟩)), (3, (.slice as26_0 s26.1.length ns26_0)), (4, (vi s111)), (5, (vi s26.2))]) ?_ ?_
       ·refine Bk ?_
        refine Tm (by kernel_rfl) (fun m f w => ∃ (s102 : Int) (F6 : Mem), Be (E0 N x0 s26 j53 c75 r78) m s102 = some o99 /\ HS w0 F0 w F6 [es26_0] /\ Tn F4 F6 /\ FI f [] [(0, (.string ⟨(x0).toArray⟩)), (3, (.slice as26_0 s26.1.length ns26_0)), (4, (vi s102)), (5, (vi s26.2))]) N ⟨s26.2, F4, ho100, hs83, (To _), fI⟩ ?_
        rintro m120 f w103 ⟨s102, F6, hit121, hs104, le105, ⟨_, rfl⟩⟩
        obtain ⟨m122, fl123, rfl, hb124, hnx125⟩ := A5 hit121
        refine Sq ?_
        refine Sq (Rg [0, 1, 2, 3, 4, 5, 6, 7, 8, 9] ?_)
        obtain ⟨j129, hj136, h137⟩ := bind_some hb124
        refine Tt (fun f w => ∃ (F8 : Mem), HS w0 F0 w F8 [es26_0] /\ Tn F6 F8 /\ FI f [] [(0, (.string ⟨(x0).toArray⟩)), (3, (.slice as26_0 s26.1.length ns26_0)), (4, (vi s102)), (5, (vi s26.2)), (49, (.bool j129))]) ?_ ?_
        ·refine Vs 5 ?_
         refine Sp hj136 (fun hb138 h139 => ?_) (fun hb138 h140 => ?_)
         ·refine Vgs hb138 2 ?_
          obtain ⟨c141, hr142, h143⟩ := bind_some h139
          refine Vg 47 5 4 true 44 hb138 (CC (t := 9) (x := (.tmp 45)) (y := (.tmp 46)) (a := x0) (k := .i64) (i := s102) (v := c141) rfl rfl (by kernel_rfl) hr142) ?_
          obtain ⟨r144, hr145, h146⟩ := bind_some h143
          refine Cg hb138 HK hs104 (IV N w103 F6 hs104.pers c141 _ hr145) ?_
          rintro _ F9 w148 hs149 le150 rfl
          refine Pk1 hb138 ?_
          obtain rfl := Ab h146
          exact Tj ⟨rfl, F9, hs149, le150, fI⟩
         ·refine Ss hb138 4 ?_
          refine Pk0 hb138 ?_
          obtain rfl := Ab h140
          exact Tj ⟨rfl, F6, hs104, (To _), fI⟩
        ·rintro f w126 ⟨F8, hs127, le128, ⟨_, rfl⟩⟩
         refine Ad ?_
         refine Cd h137 (fun hb152 h153 => ?_) (fun hb152 h154 => ?_)
         ·refine Sc ?_
          refine Ad ?_
          refine Bk ?_
          refine Rg [0, 1, 2] ?_
          refine Vs 3 ?_
          refine Tj ?_
          refine AA ?_
          have hn155 := AW h153 hnx125
          exact ⟨m122, Nat.lt_succ_self _, (W64 (s102 + 1)), F8, hn155, hs127, (le105.trans le128), fI⟩
         ·refine Ex ?_
          refine AC ?_
          refine AC ?_
          refine AL rfl ?_
          have ho156 := A8 h154 hnx125
          exact .inl ⟨rfl, s102, F8, ho156, hs127, (le105.trans le128), fI⟩
       ·rintro f w112 ⟨s111, F7, rfl, hs113, le114, ⟨_, rfl⟩⟩
        have h157 := BT h101
        refine Ad ?_
        refine Rg [0, 1, 2, 3, 4, 5, 6, 7, 8, 9] ?_
        refine Vs 5 ?_
        obtain ⟨r158, hr159, h160⟩ := bind_some h157
        refine V 57 9 (Fw (t := 9) (x := (.tmp 54)) (lo := (some (.tmp 55))) (hi := (some (.tmp 56))) (a := x0) (il := s26.2) (ih := s111) (v := r158) rfl (by kernel_rfl) rfl rfl hr159) ?_
        refine Vs 1 ?_
        refine Bs 110 [(vi 1), (vi s26.2), (.string ⟨(r158).toArray⟩)] hs113 (fun b161 w162 hs163 => ?_)
        have hr165 : Av Ag 110 F7 (some ⟨b161, 0, none⟩) 1 [({ Kind := 1, At := s26.2, Text := r158 } : Af)] (some b161, .cells ([(vi 1), (vi s26.2), (.string ⟨(r158).toArray⟩)] : List Value).toArray 110 (0, 0)) := TH ⟨rfl, rfl⟩ (by simp)
        obtain ⟨r166, hap167, h168⟩ := bind_some h160
        refine Ap1 BX hs163 (hrs26_0.mono ((le52.trans le84).trans le114)) (hs163.rd0 hr165) hap167 (fun a169 n170 e171 w172 hs173 hr174 => ?_)
        refine Vs 1 ?_
        refine Tj ?_
        obtain rfl := Ab h168
        exact .inl ⟨rfl, F7, a169, n170, e171, hs173.dr0, le114, fI, hr174⟩
      ·refine Sq (Rg [0, 1, 2, 3, 4] ?_)
       refine Vs 2 ?_
       obtain ⟨c175, hr176, h177⟩ := bind_some h98
       refine V 64 5 (CC (t := 9) (x := (.tmp 62)) (y := (.tmp 63)) (a := x0) (k := .i64) (i := s26.2) (v := c175) rfl rfl (by kernel_rfl) hr176) ?_
       obtain ⟨r178, hr179, h180⟩ := bind_some h177
       refine Cl' HH hs83 (IU N w82 F4 hs83.pers c175 _ hr179) ?_
       rintro _ F10 w182 hs183 le184 rfl
       refine Vs 1 ?_
       refine Nt ?_
       obtain ⟨j189, hj194, h195⟩ := bind_some h180
       refine Tu (fun f w => ∃ (F11 : Mem) (aj189_0 : TO) (nj189_0 : Nat) (ej189_0 : Option Nat × Obj), HS w0 F0 w F11 [ej189_0] /\ Tn F10 F11 /\ FI f [] [(0, (.string ⟨(x0).toArray⟩)), (3, (.slice aj189_0 j189.1.length nj189_0)), (4, (vi j189.2))] /\ Av Ag 110 F11 aj189_0 nj189_0 j189.1 ej189_0) ?_ ?_
       ·refine Cd hj194 (fun hb196 h197 => ?_) (fun hb196 h198 => ?_)
        ·refine Sq ?_
         obtain ⟨o199, ho200, h201⟩ := bind_some h197
         refine Tu (fun f w => ∃ (s211 : Int) (F13 : Mem), o199 = .done s211 /\ HS w0 F0 w F13 [es26_0] /\ Tn F10 F13 /\ FI f [] [(0, (.string ⟨(x0).toArray⟩)), (3, (.slice as26_0 s26.1.length ns26_0)), (4, (vi s211)), (5, (vi s26.2))]) ?_ ?_
         ·refine Bk ?_
          refine Tm (by kernel_rfl) (fun m f w => ∃ (s202 : Int) (F12 : Mem), Be (EZ N x0 s26 j53 c75 r78 c175 r178) m s202 = some o199 /\ HS w0 F0 w F12 [es26_0] /\ Tn F10 F12 /\ FI f [] [(0, (.string ⟨(x0).toArray⟩)), (3, (.slice as26_0 s26.1.length ns26_0)), (4, (vi s202)), (5, (vi s26.2))]) N ⟨s26.2, F10, ho200, hs183, (To _), fI⟩ ?_
          rintro m220 f w203 ⟨s202, F12, hit221, hs204, le205, ⟨_, rfl⟩⟩
          obtain ⟨m222, fl223, rfl, hb224, hnx225⟩ := A5 hit221
          refine Sq ?_
          refine Sq (Rg [0, 1, 2, 3, 4, 5, 6, 7, 8, 9] ?_)
          obtain ⟨j229, hj236, h237⟩ := bind_some hb224
          refine Tt (fun f w => ∃ (F14 : Mem), HS w0 F0 w F14 [es26_0] /\ Tn F12 F14 /\ FI f [] [(0, (.string ⟨(x0).toArray⟩)), (3, (.slice as26_0 s26.1.length ns26_0)), (4, (vi s202)), (5, (vi s26.2)), (75, (.bool j229))]) ?_ ?_
          ·refine Vs 5 ?_
           refine Sp hj236 (fun hb238 h239 => ?_) (fun hb238 h240 => ?_)
           ·refine Vgs hb238 2 ?_
            obtain ⟨c241, hr242, h243⟩ := bind_some h239
            refine Vg 73 5 4 true 70 hb238 (CC (t := 9) (x := (.tmp 71)) (y := (.tmp 72)) (a := x0) (k := .i64) (i := s202) (v := c241) rfl rfl (by kernel_rfl) hr242) ?_
            obtain ⟨r244, hr245, h246⟩ := bind_some h243
            refine Cg hb238 HH hs204 (IU N w203 F12 hs204.pers c241 _ hr245) ?_
            rintro _ F15 w248 hs249 le250 rfl
            refine Pk1 hb238 ?_
            obtain rfl := Ab h246
            exact Tj ⟨rfl, F15, hs249, le250, fI⟩
           ·refine Ss hb238 4 ?_
            refine Pk0 hb238 ?_
            obtain rfl := Ab h240
            exact Tj ⟨rfl, F12, hs204, (To _), fI⟩
          ·rintro f w226 ⟨F14, hs227, le228, ⟨_, rfl⟩⟩
           refine Ad ?_
           refine Cd h237 (fun hb252 h253 => ?_) (fun hb252 h254 => ?_)
           ·refine Sc ?_
            refine Ad ?_
            refine Bk ?_
            refine Rg [0, 1, 2] ?_
            refine Vs 3 ?_
            refine Tj ?_
            refine AA ?_
            have hn255 := AW h253 hnx225
            exact ⟨m222, Nat.lt_succ_self _, (W64 (s202 + 1)), F14, hn255, hs227, (le205.trans le228), fI⟩
           ·refine Ex ?_
            refine AC ?_
            refine AC ?_
            refine AL rfl ?_
            have ho256 := A8 h254 hnx225
            exact .inl ⟨rfl, s202, F14, ho256, hs227, (le205.trans le228), fI⟩
         ·rintro f w212 ⟨s211, F13, rfl, hs213, le214, ⟨_, rfl⟩⟩
          have h257 := BT h201
          refine Ad ?_
          refine Rg [0, 1, 2, 3, 4, 5, 6, 7, 8, 9] ?_
          refine Vs 5 ?_
          obtain ⟨r258, hr259, h260⟩ := bind_some h257
          refine V 83 9 (Fw (t := 9) (x := (.tmp 80)) (lo := (some (.tmp 81))) (hi := (some (.tmp 82))) (a := x0) (il := s26.2) (ih := s211) (v := r258) rfl (by kernel_rfl) rfl rfl hr259) ?_
          refine Vs 1 ?_
          refine Bs 110 [(vi 2), (vi s26.2), (.string ⟨(r258).toArray⟩)] hs213 (fun b261 w262 hs263 => ?_)
          have hr265 : Av Ag 110 F13 (some ⟨b261, 0, none⟩) 1 [({ Kind := 2, At := s26.2, Text := r258 } : Af)] (some b261, .cells ([(vi 2), (vi s26.2), (.string ⟨(r258).toArray⟩)] : List Value).toArray 110 (0, 0)) := TH ⟨rfl, rfl⟩ (by simp)
          obtain ⟨r266, hap267, h268⟩ := bind_some h260
          refine Ap1 BX hs263 (hrs26_0.mono (((le52.trans le84).trans le184).trans le214)) (hs263.rd0 hr265) hap267 (fun a269 n270 e271 w272 hs273 hr274 => ?_)
          refine Vs 1 ?_
          refine Tj ?_
          obtain rfl := Ab h268
          exact .inl ⟨rfl, F13, a269, n270, e271, hs273.dr0, le214, fI, hr274⟩
        ·refine Sq (Rg [0, 1, 2, 3, 4] ?_)
         refine Vs 2 ?_
         obtain ⟨c275, hr276, h277⟩ := bind_some h198
         refine V 90 5 (CC (t := 9) (x := (.tmp 88)) (y := (.tmp 89)) (a := x0) (k := .i64) (i := s26.2) (v := c275) rfl rfl (by kernel_rfl) hr276) ?_
         refine Vs 2 ?_
         refine Nt ?_
         obtain ⟨j281, hj286, h287⟩ := bind_some h277
         refine Tu (fun f w => ∃ (F16 : Mem) (aj281_0 : TO) (nj281_0 : Nat) (ej281_0 : Option Nat × Obj), HS w0 F0 w F16 [ej281_0] /\ Tn F10 F16 /\ FI f [] [(0, (.string ⟨(x0).toArray⟩)), (3, (.slice aj281_0 j281.1.length nj281_0)), (4, (vi j281.2))] /\ Av Ag 110 F16 aj281_0 nj281_0 j281.1 ej281_0) ?_ ?_
         ·refine Cd hj286 (fun hb288 h289 => ?_) (fun hb288 h290 => ?_)
          ·refine Sq (Rg [0, 1, 2] ?_)
           refine Vs 3 ?_
           refine Nt ?_
           refine Rg [0, 1, 2, 3, 4, 5] ?_
           refine Vs 3 ?_
           refine Bs 110 [(vi 4), (vi s26.2), (.string ⟨(([10] : TN)).toArray⟩)] hs183 (fun b291 w292 hs293 => ?_)
           have hr295 : Av Ag 110 F10 (some ⟨b291, 0, none⟩) 1 [({ Kind := 4, At := s26.2, Text := ([10] : TN) } : Af)] (some b291, .cells ([(vi 4), (vi s26.2), (.string ⟨(([10] : TN)).toArray⟩)] : List Value).toArray 110 (0, 0)) := TH ⟨rfl, rfl⟩ (by simp)
           obtain ⟨r296, hap297, h298⟩ := bind_some h289
           refine Ap1 BX hs293 (hrs26_0.mono ((le52.trans le84).trans le184)) (hs293.rd0 hr295) hap297 (fun a299 n300 e301 w302 hs303 hr304 => ?_)
           refine Vs 1 ?_
           refine Tj ?_
           obtain rfl := Ab h298
           exact .inl ⟨rfl, F10, a299, n300, e301, hs303.dr0, (To _), fI, hr304⟩
          ·refine Sq (Rg [0, 1, 2, 3, 4, 5, 6, 7, 8, 9, 10, 11, 12, 13, 14, 15, 16, 17, 18] ?_)
           obtain ⟨j308, hj315, h316⟩ := bind_some h290
           refine Tt (fun f w => ∃ (F17 : Mem), HS w0 F0 w F17 [es26_0] /\ Tn F10 F17 /\ FI f [] [(0, (.string ⟨(x0).toArray⟩)), (3, (.slice as26_0 s26.1.length ns26_0)), (4, (vi s26.2)), (5, (vi s26.2)), (99, (.bool j308))]) ?_ ?_
           ·refine Vs 2 ?_
            obtain ⟨c317, hr318, h319⟩ := bind_some hj315
            refine V 102 5 (CC (t := 9) (x := (.tmp 100)) (y := (.tmp 101)) (a := x0) (k := .i64) (i := s26.2) (v := c317) rfl rfl (by kernel_rfl) hr318) ?_
            refine Vs 2 ?_
            refine Sp h319 (fun hb320 h321 => ?_) (fun hb320 h322 => ?_)
            ·refine Vgs hb320 5 ?_
             refine Pk1 hb320 ?_
             refine Vs 1 ?_
             refine Sp h321 (fun hb323 h324 => ?_) (fun hb323 h325 => ?_)
             ·refine Vgs hb323 3 ?_
              obtain ⟨c326, hr327, h328⟩ := bind_some h324
              refine Vg 115 5 11 true 111 hb323 (CC (t := 9) (x := (.tmp 112)) (y := (.tmp 114)) (a := x0) (k := .i64) (i := (W64 (s26.2 + 1))) (v := c326) rfl rfl (by kernel_rfl) hr327) ?_
              refine Vgs hb323 1 ?_
              refine Pk1 hb323 ?_
              refine Vs 1 ?_
              obtain rfl := Ab h328
              exact Tj ⟨rfl, F10, hs183, (To _), fI⟩
             ·refine Ss hb323 5 ?_
              refine Pk0 hb323 ?_
              refine Vs 1 ?_
              obtain rfl := Ab h325
              exact Tj ⟨rfl, F10, hs183, (To _), fI⟩
            ·refine Ss hb320 5 ?_
             refine Pk0 hb320 ?_
             refine Vs 1 ?_
             refine Ss (rfl : false = false) 5 ?_
             refine Pk0 (rfl : false = false) ?_
             refine Vs 1 ?_
             obtain rfl := Ab h322
             exact Tj ⟨rfl, F10, hs183, (To _), fI⟩
           ·rintro f w305 ⟨F17, hs306, le307, ⟨_, rfl⟩⟩
            refine Ad ?_
            obtain ⟨j332, hj337, h338⟩ := bind_some h316
            refine Tu (fun f w => ∃ (F18 : Mem) (aj332_0 : TO) (nj332_0 : Nat) (ej332_0 : Option Nat × Obj), HS w0 F0 w F18 [ej332_0] /\ Tn F17 F18 /\ FI f [] [(0, (.string ⟨(x0).toArray⟩)), (3, (.slice aj332_0 j332.1.length nj332_0)), (4, (vi j332.2))] /\ Av Ag 110 F18 aj332_0 nj332_0 j332.1 ej332_0) ?_ ?_
            ·refine Cd hj337 (fun hb339 h340 => ?_) (fun hb339 h341 => ?_)
             ·refine Sq (Rg [0, 1, 2] ?_)
              refine Vs 3 ?_
              refine Nt ?_
              refine Rg [0, 1, 2, 3, 4, 5] ?_
              refine Vs 3 ?_
              refine Bs 110 [(vi 3), (vi s26.2), (.string ⟨(([61, 62] : TN)).toArray⟩)] hs306 (fun b342 w343 hs344 => ?_)
              have hr346 : Av Ag 110 F17 (some ⟨b342, 0, none⟩) 1 [({ Kind := 3, At := s26.2, Text := ([61, 62] : TN) } : Af)] (some b342, .cells ([(vi 3), (vi s26.2), (.string ⟨(([61, 62] : TN)).toArray⟩)] : List Value).toArray 110 (0, 0)) := TH ⟨rfl, rfl⟩ (by simp)
              obtain ⟨r347, hap348, h349⟩ := bind_some h340
              refine Ap1 BX hs344 (hrs26_0.mono (((le52.trans le84).trans le184).trans le307)) (hs344.rd0 hr346) hap348 (fun a350 n351 e352 w353 hs354 hr355 => ?_)
              refine Vs 1 ?_
              refine Tj ?_
              obtain rfl := Ab h349
              exact .inl ⟨rfl, F17, a350, n351, e352, hs354.dr0, (To _), fI, hr355⟩
             ·refine Sq (Rg [0, 1, 2, 3, 4] ?_)
              refine Vs 2 ?_
              obtain ⟨c356, hr357, h358⟩ := bind_some h341
              refine V 128 5 (CC (t := 9) (x := (.tmp 126)) (y := (.tmp 127)) (a := x0) (k := .i64) (i := s26.2) (v := c356) rfl rfl (by kernel_rfl) hr357) ?_
              obtain ⟨r359, hr360, h361⟩ := bind_some h358
              refine Cl' Mv hs306 (Nk N w305 F17 hs306.pers c356 _ hr360) ?_
              rintro _ F19 w363 hs364 le365 rfl
              refine Vs 1 ?_
              refine Nt ?_
              obtain ⟨j370, hj375, h376⟩ := bind_some h361
              refine Tu (fun f w => ∃ (F20 : Mem) (aj370_0 : TO) (nj370_0 : Nat) (ej370_0 : Option Nat × Obj), HS w0 F0 w F20 [ej370_0] /\ Tn F19 F20 /\ FI f [] [(0, (.string ⟨(x0).toArray⟩)), (3, (.slice aj370_0 j370.length nj370_0)), (4, (vi (W64 (s26.2 + 1))))] /\ Av Ag 110 F20 aj370_0 nj370_0 j370 ej370_0) ?_ ?_
              ·refine Cd hj375 (fun hb377 h378 => ?_) (fun hb377 h379 => ?_)
               ·refine Sq (Rg [0, 1, 2] ?_)
                refine Vs 3 ?_
                refine Nt ?_
                refine Rg [0, 1, 2, 3, 4, 5, 6, 7, 8, 9] ?_
                refine Vs 5 ?_
                obtain ⟨r380, hr381, h382⟩ := bind_some h378
                refine V 137 9 (Fw (t := 9) (x := (.tmp 134)) (lo := (some (.tmp 135))) (hi := (some (.tmp 136))) (a := x0) (il := s26.2) (ih := (W64 (s26.2 + 1))) (v := r380) rfl (by kernel_rfl) rfl rfl hr381) ?_
                refine Vs 1 ?_
                refine Bs 110 [(vi 3), (vi s26.2), (.string ⟨(r380).toArray⟩)] hs364 (fun b383 w384 hs385 => ?_)
                have hr387 : Av Ag 110 F19 (some ⟨b383, 0, none⟩) 1 [({ Kind := 3, At := s26.2, Text := r380 } : Af)] (some b383, .cells ([(vi 3), (vi s26.2), (.string ⟨(r380).toArray⟩)] : List Value).toArray 110 (0, 0)) := TH ⟨rfl, rfl⟩ (by simp)
                obtain ⟨r388, hap389, h390⟩ := bind_some h382
                refine Ap1 BX hs385 (hrs26_0.mono ((((le52.trans le84).trans le184).trans le307).trans le365)) (hs385.rd0 hr387) hap389 (fun a391 n392 e393 w394 hs395 hr396 => ?_)
                refine Vs 1 ?_
                refine Tj ?_
                obtain rfl := Ab h390
                exact .inl ⟨rfl, F19, a391, n392, e393, hs395.dr0, (To _), fI, hr396⟩
               ·refine Sq (Rg [0, 1, 2] ?_)
                refine Vs 3 ?_
                refine Nt ?_
                refine Rg [0, 1, 2, 3, 4, 5, 6, 7, 8, 9] ?_
                refine Vs 5 ?_
                obtain ⟨r397, hr398, h399⟩ := bind_some h379
                refine V 18 9 (Fw (t := 9) (x := (.tmp 15)) (lo := (some (.tmp 16))) (hi := (some (.tmp 17))) (a := x0) (il := s26.2) (ih := (W64 (s26.2 + 1))) (v := r397) rfl (by kernel_rfl) rfl rfl hr398) ?_
                refine Vs 1 ?_
                refine Bs 110 [(vi 0), (vi s26.2), (.string ⟨(r397).toArray⟩)] hs364 (fun b400 w401 hs402 => ?_)
                have hr404 : Av Ag 110 F19 (some ⟨b400, 0, none⟩) 1 [({ Kind := 0, At := s26.2, Text := r397 } : Af)] (some b400, .cells ([(vi 0), (vi s26.2), (.string ⟨(r397).toArray⟩)] : List Value).toArray 110 (0, 0)) := TH ⟨rfl, rfl⟩ (by simp)
                obtain ⟨r405, hap406, h407⟩ := bind_some h399
                refine Ap1 BX hs402 (hrs26_0.mono ((((le52.trans le84).trans le184).trans le307).trans le365)) (hs402.rd0 hr404) hap406 (fun a408 n409 e410 w411 hs412 hr413 => ?_)
                refine Vs 1 ?_
                refine Tj ?_
                obtain rfl := Ab h407
                exact .inl ⟨rfl, F19, a408, n409, e410, hs412.dr0, (To _), fI, hr413⟩
              ·rintro f w367 ⟨F20, aj370_0, nj370_0, ej370_0, hs368, le369, ⟨_, rfl⟩, hrj370_0⟩
               obtain rfl := Ab h376
               exact .inl ⟨rfl, F20, aj370_0, nj370_0, ej370_0, hs368, (le365.trans le369), fI, hrj370_0⟩
            ·rintro f w329 ⟨F18, aj332_0, nj332_0, ej332_0, hs330, le331, ⟨_, rfl⟩, hrj332_0⟩
             obtain rfl := Ab h338
             exact .inl ⟨rfl, F18, aj332_0, nj332_0, ej332_0, hs330, (le307.trans le331), fI, hrj332_0⟩
         ·rintro f w278 ⟨F16, aj281_0, nj281_0, ej281_0, hs279, le280, ⟨_, rfl⟩, hrj281_0⟩
          obtain rfl := Ab h287
          exact .inl ⟨rfl, F16, aj281_0, nj281_0, ej281_0, hs279, le280, fI, hrj281_0⟩
       ·rintro f w186 ⟨F11, aj189_0, nj189_0, ej189_0, hs187, le188, ⟨_, rfl⟩, hrj189_0⟩
        obtain rfl := Ab h195
        exact .inl ⟨rfl, F11, aj189_0, nj189_0, ej189_0, hs187, (le184.trans le188), fI, hrj189_0⟩
     ·rintro f w86 ⟨F5, aj89_0, nj89_0, ej89_0, hs87, le88, ⟨_, rfl⟩, hrj89_0⟩
      refine AA ?_
      refine AA ?_
      have hn414 := AW h95 hnx46
      exact ⟨m43, Nat.lt_succ_self _, (j89.1, j89.2), F5, aj89_0, nj89_0, ej89_0, hn414, hs87, (((le29.trans le52).trans le84).trans le88), fI, hrj89_0⟩
  ·refine Ex ?_
   refine AC ?_
   refine AC ?_
   refine AL rfl ?_
   have ho415 := A8 h49 hnx46
   exact .inl ⟨rfl, (s26.1, s26.2), F1, as26_0, ns26_0, es26_0, ho415, hs28, le29, fI, hrs26_0⟩
 ·rintro f w35 ⟨s34, F2, as34_0, ns34_0, es34_0, rfl, hs36, le37, ⟨_, rfl⟩, hrs34_0⟩
  have h416 := BT h25
  refine Ad ?_
  refine Sq (Rg [0, 1, 2, 3, 4, 5, 6] ?_)
  refine Vs 4 ?_
  refine Bs 110 [(vi 5), (vi (x0.length : Int)), (.string ⟨(([] : TN)).toArray⟩)] hs36 (fun b417 w418 hs419 => ?_)
  have hr421 : Av Ag 110 F2 (some ⟨b417, 0, none⟩) 1 [({ Kind := 5, At := (x0.length : Int), Text := ([] : TN) } : Af)] (some b417, .cells ([(vi 5), (vi (x0.length : Int)), (.string ⟨(([] : TN)).toArray⟩)] : List Value).toArray 110 (0, 0)) := TH ⟨rfl, rfl⟩ (by simp)
  obtain ⟨r422, hap423, h424⟩ := bind_some h416
  refine Ap1 BX hs419 hrs34_0 (hs419.rd0 hr421) hap423 (fun a425 n426 e427 w428 hs429 hr430 => ?_)
  refine Vs 1 ?_
  refine Nt ?_
  refine Rt ?_
  have hb434 := TF hr430
  obtain ⟨F21, hs431, le432, hs433⟩ := hs429.fr1 hr430
  obtain rfl := Ab h424
  exact Re [(.slice a425 r422.length n426)] hs431 ⟨a425, n426, rfl, hb434, hs433⟩
section
variable {ρ₁ ρ₂ σ₁ σ₂ : Type}
theorem LU {b1 : σ₁ -> Option (Bv ρ₁ σ₁)} {b2 : σ₂ -> Option (Bv ρ₂ σ₂)} (I : Nat -> σ₁ -> σ₂ -> Prop) (R : Bv ρ₁ σ₁ -> Bv ρ₂ σ₂ -> Prop)
  (h : ∀ m s t, I m s t -> (∃ m' s' t', m' < m /\ b1 s = some (.next s') /\ b2 t = some (.next t') /\ I m' s' t') \/
   (∃ o1 o2, b1 s = some o1 /\ (∀ s', o1 ≠ .next s') /\ b2 t = some o2 /\ (∀ t', o2 ≠ .next t') /\ R o1 o2) \/
   (∃ o1 t' o2, b1 s = some o1 /\ (∀ s', o1 ≠ .next s') /\ b2 t = some (.next t') /\ b2 t' = some o2 /\ (∀ t', o2 ≠ .next t') /\ R o1 o2)) :
  ∀ (m N1 N2 : Nat) (s : σ₁) (t : σ₂), I m s t -> m + 2 <= N1 -> m + 2 <= N2 -> ∃ o1 o2, Be b1 N1 s = some o1 /\ Be b2 N2 t = some o2 /\ R o1 o2 := by
 intro m
 induction m using Nat.strongRecOn with
 | _ m ih =>
  intro N1 N2 s t hI h1 h2
  obtain ⟨n1, rfl⟩ : ∃ n, N1 = n + 2 := ⟨N1 - 2, by omega⟩
  obtain ⟨n2, rfl⟩ : ∃ n, N2 = n + 2 := ⟨N2 - 2, by omega⟩
  have fin : ∀ {ρ σ : Type} {b : σ -> Option (Bv ρ σ)} {n : Nat} {s : σ} {o : Bv ρ σ}, b s = some o -> (∀ s', o ≠ .next s') -> Be b (n + 1) s = some o := by
   intro ρ σ b n s o hb ho
   rw [Be, hb]
   cases o with
   | next s' => exact absurd rfl (ho s')
   | done s' => rfl
   | ret r => rfl
  rcases h m s t hI with ⟨m', s', t', hlt, e1, e2, hI'⟩ | ⟨o1, o2, e1, n1', e2, n2', hR⟩ | ⟨o1, t', o2, e1, n1', e2, e3, n3', hR⟩
  ·obtain ⟨o1, o2, r1, r2, hR⟩ := ih m' hlt (n1 + 1) (n2 + 1) s' t' hI' (by omega) (by omega)
   refine ⟨o1, o2, ?_, ?_, hR⟩
   ·rw [Be, e1]; exact r1
   ·rw [Be, e2]; exact r2
  ·exact ⟨o1, o2, fin e1 n1', fin e2 n2', hR⟩
  ·refine ⟨o1, o2, fin e1 n1', ?_, hR⟩
   rw [Be, e2]; exact fin e3 n3'
end
def FS (p : UInt8 -> Bool) (s : TN) (i : Nat) : Nat := i + ((s.drop i).takeWhile p).length
theorem Jl {p : UInt8 -> Bool} : ∀ {l : TN} {j : Nat}, j < (l.takeWhile p).length -> (l[j]?.map p).getD false = true
 | [], j, h => by simp at h
 | a :: l, j, h => by
  rw [List.takeWhile_cons] at h
  cases hp : p a with
  | false => rw [hp] at h; simp at h
  | true =>
   rw [hp] at h
   cases j with
   | zero => simp [hp]
   | succ j => simp at h; simpa using Jl (l := l) (j := j) h
theorem IG {p : UInt8 -> Bool} : ∀ (l : TN), (l[(l.takeWhile p).length]?.map p).getD false = false
 | [] => rfl
 | a :: l => by
  rw [List.takeWhile_cons]
  cases hp : p a with
  | false => simp [hp]
  | true => simpa using IG l
theorem Jn {p : UInt8 -> Bool} {s : TN} {i : Nat} (hi : i <= s.length) : i <= FS p s i /\ FS p s i <= s.length := by
 unfold FS
 have : ((s.drop i).takeWhile p).length <= (s.drop i).length := (List.takeWhile_sublist _).length_le
 rw [List.length_drop] at this
 omega
theorem PC {p : UInt8 -> Bool} {s : TN} {i : Nat} {c : UInt8} (hc : s[i]? = some c) (hp : p c = true) : i < FS p s i := by
 unfold FS
 have h : (s.drop i)[0]? = some c := by rw [List.getElem?_drop]; simpa using hc
 cases hd : s.drop i with
 | nil => rw [hd] at h; cases h
 | cons a l => rw [hd] at h; simp at h; subst h; rw [List.takeWhile_cons, hp]; simp
theorem MS {ρ : Type} (p : UInt8 -> Bool) (s : TN) {body : Int -> Option (Bv ρ Int)} (hb : ∀ k : Nat, k <= s.length -> body (k : Int) = bif (s[k]?.map p).getD false then some (.next (W64 ((k : Int) + 1))) else some (.done (k : Int)))
  {i N : Nat} (hi : i <= s.length) (hN : s.length < N) (hL : s.length < 4611686018427387904) : Be body N (i : Int) = some (.done ((FS p s i : Nat) : Int)) := by
 obtain ⟨o, ho, rfl⟩ := Ig (body := body) ((s.drop i).takeWhile p).length (fun j st => st = ((i + j : Nat) : Int)) (fun o => o = .done ((FS p s i : Nat) : Int)) (by
  rintro j st hj rfl
  have hle := (Jn (p := p) (s := s) hi).2
  unfold FS at hle
  by_cases h : j < ((s.drop i).takeWhile p).length
  ·have := Jl h
   rw [List.getElem?_drop] at this
   exact .inl ⟨_, by rw [hb _ (by omega), this, cond_true, Dm (by omega)]; rfl, rfl, h⟩
  ·have : j = ((s.drop i).takeWhile p).length := by omega
   subst this
   have := IG (p := p) (s.drop i)
   rw [List.getElem?_drop] at this
   exact .inr ⟨_, by rw [hb _ (by omega), this, cond_false]; rfl, fun _ h => (by cases h), rfl⟩) ((s.drop i).takeWhile p).length N 0 (i : Int) (by omega) rfl (by
  have hle := (Jn (p := p) (s := s) hi).2
  unfold FS at hle
  omega)
 exact ho
def seeR (a : An) (t : TN) : Bool := (a.kind_ == 2 || a.kind_ == 3) && a.text_ == t
def seeF (b : Af) (t : TN) : Bool := (b.Kind == 2 || b.Kind == 3) && b.Text == t
structure O2 (a : An) (b : Af) : Prop where
 at_ : a.at_ = b.At
 k : (a.kind_ = 1 /\ b.Kind = 1 /\ a.text_ = b.Text /\ b.Text ≠ [] /\ b.Text.length <= 1000000 /\ ∀ c, c ∈ b.Text -> 48 <= c.toNat /\ c.toNat <= 57) \/ (a.kind_ = 2 /\ b.Kind = 2 /\ a.text_ = b.Text /\ b.Text ≠ [10]) \/ (a.kind_ = 3 /\ b.Kind = 3 /\ a.text_ = b.Text /\ b.Text ≠ [10]) \/ (a.kind_ = 3 /\ b.Kind = 4 /\ a.text_ = [10] /\ b.Text = [10]) \/ (a.kind_ = 4 /\ b.Kind = 0)
structure Qe (a : An) (b : Af) : Prop where
 at_ : a.at_ = b.At
 a0 : a.kind_ = 0
 b5 : b.Kind = 5
theorem O2.see {a : An} {b : Af} (h : O2 a b) {t : TN} (ht : t ≠ [10]) : seeR a t = seeF b t := by
 unfold seeR seeF
 rcases h.k with ⟨h1, h2, h3, _⟩ | ⟨h1, h2, h3, _⟩ | ⟨h1, h2, h3, _⟩ | ⟨h1, h2, h3, h4⟩ | ⟨h1, h2⟩
 ·rw [h1, h2]; rfl
 ·rw [h1, h2, h3]
 ·rw [h1, h2, h3]
 ·rw [h1, h2, h3]
  have : (([10] : TN) == t) = false := by simpa using fun h => ht h.symm
  rw [this]; rfl
 ·rw [h1, h2]; rfl
theorem Qe.seeR {a : An} {b : Af} (h : Qe a b) (t : TN) : seeR a t = false := by unfold Go.Proofs.YtaihlcdkcampbaaGreatDoor.seeR; rw [h.a0]; rfl
theorem Qe.seeF {a : An} {b : Af} (h : Qe a b) (t : TN) : seeF b t = false := by unfold Go.Proofs.YtaihlcdkcampbaaGreatDoor.seeF; rw [h.b5]; rfl
def Hv (c : UInt8) : Bool := decide (48 <= c.toNat) && decide (c.toNat <= 57)
def I9 (c : UInt8) : Bool := decide (97 <= c.toNat) && decide (c.toNat <= 122)
def sg9 : TN := [40, 41, 44, 58, 61, 60, 43, 45, 42]
theorem PM {a b : Nat} : ((a : Int) == (b : Int)) = decide (a = b) := by
 by_cases h : a = b
 ·subst h; simp
 ·simp [h]; omega
theorem Pd {p : UInt8 -> Bool} : ∀ l : TN, l.take (l.takeWhile p).length = l.takeWhile p
 | [] => rfl
 | a :: l => by
  rw [List.takeWhile_cons]
  cases p a with
  | false => rfl
  | true => simp [Pd l]
def run (p : UInt8 -> Bool) (s : TN) (k : Nat) : TN := (s.drop k).takeWhile p
theorem Ly {p : UInt8 -> Bool} {s : TN} {k : Nat} (hk : k <= s.length) : IZ s (k : Int) ((FS p s k : Nat) : Int) = some (run p s k) := by
 have h := Jn (p := p) hk
 unfold IZ run
 rw [if_pos ⟨by omega, by omega, by omega⟩]
 have e : ((FS p s k : Nat) : Int).toNat - (k : Int).toNat = ((s.drop k).takeWhile p).length := by unfold FS; omega
 rw [e, Int.toNat_natCast, Pd]
theorem M8 {p : UInt8 -> Bool} {s : TN} {k : Nat} : FS p s k = k + (run p s k).length := rfl
section
variable {N : Nat} {s : TN}
theorem Fu {k : Nat} {c : UInt8} (h : s[k]? = some c) : Gi s (k : Int) = some (c.toNat : Int) := by
 unfold Gi; rw [if_pos (by omega), Int.toNat_natCast, h]; rfl
theorem NQ {k : Nat} {c : UInt8} (h : s[k]? = some c) : IZ s (k : Int) ((k + 1 : Nat) : Int) = some [c] := by
 have hk : k < s.length := by
  rcases Nat.lt_or_ge k s.length with h' | h'
  ·exact h'
  ·rw [List.getElem?_eq_none h'] at h; cases h
 unfold IZ
 rw [if_pos ⟨by omega, by omega, by omega⟩]
 have e : ((k + 1 : Nat) : Int).toNat - (k : Int).toNat = 1 := by omega
 rw [e, Int.toNat_natCast]
 cases hd : s.drop k with
 | nil =>
  have : (s.drop k)[0]? = some c := by rw [List.getElem?_drop]; simpa using h
  rw [hd] at this; cases this
 | cons a l =>
  have : (s.drop k)[0]? = some c := by rw [List.getElem?_drop]; simpa using h
  rw [hd] at this; simp at this; subst this; rfl
theorem Pu {a b : Nat} : decide ((a : Int) <= (b : Int)) = decide (a <= b) := by
 by_cases h : a <= b
 ·rw [decide_eq_true h, decide_eq_true (by omega)]
 ·rw [decide_eq_false h, decide_eq_false (by omega)]
theorem RU {lo hi : Nat} {p : UInt8 -> Bool} (hp : ∀ c : UInt8, p c = (decide (lo <= c.toNat) && decide (c.toNat <= hi))) {k : Nat} (hk : k <= s.length) (hN : s.length < N) (hL : s.length < 4611686018427387904) :
  CD N (k : Int) (lo : Int) (hi : Int) s = some (run p s k) := by
 unfold CD
 rw [MS p s (fun j hj => by
  unfold D5
  by_cases h : j < s.length
  ·rw [I7 h, cond_true, List.getElem?_eq_getElem h, Fu (List.getElem?_eq_getElem h), Option.bind_some]
   simp only [Option.map_some, Option.getD_some, hp]
   rw [Pu, Option.bind_some, Pu]
   cases decide (lo <= s[j].toNat) <;> rfl
  ·have : j = s.length := by omega
   subst this
   rw [Jx, cond_false, List.getElem?_eq_none (Nat.le_refl _)]; rfl) hk hN hL]
 simp only [Option.bind_some, Bv.k]
 rw [Ly hk]; rfl
theorem Sj {k : Nat} {c : UInt8} (h : s[k]? = some c) : Go.Lib.hasPrefix (s.drop k) [61, 62] = (decide (c = 61) && ((s[k + 1]?.map fun d => decide (d = 62)).getD false)) := by
 unfold Go.Lib.hasPrefix
 cases hd : s.drop k with
 | nil =>
  have : (s.drop k)[0]? = some c := by rw [List.getElem?_drop]; simpa using h
  rw [hd] at this; cases this
 | cons a l =>
  have h0 : (s.drop k)[0]? = some c := by rw [List.getElem?_drop]; simpa using h
  have h1 : (s.drop k)[1]? = s[k + 1]? := by rw [List.getElem?_drop]
  rw [hd] at h0 h1
  simp at h0; subst h0
  simp only [List.getElem?_cons_succ] at h1
  rw [<- h1]
  cases l with
  | nil => simp [List.isPrefixOf]
  | cons b l =>
   simp only [List.isPrefixOf, List.getElem?_cons_zero, Option.map_some, Option.getD_some, Bool.and_true]
   congr 1
   ·rw [Bool.eq_iff_iff]; simp; exact eq_comm
   ·rw [Bool.eq_iff_iff]; simp; exact eq_comm
theorem SK {l : TN} {c : UInt8} : decide (Go.Lib.indexByte l c >= 0) = l.contains c := by
 induction l with
 | nil => rfl
 | cons b l ih =>
  rw [Go.Lib.indexByte, List.contains_cons]
  have hge := Go.Lib.indexByte_ge l c
  by_cases hb : b = c
  ·subst hb; simp
  ·have e1 : (b == c) = false := by simpa using hb
   have e2 : (c == b) = false := by simpa using fun h => hb h.symm
   rw [e1, e2, Bool.false_or, <- ih]
   simp only [Bool.false_eq_true, if_false]
   by_cases hm : Go.Lib.indexByte l c = -1
   ·rw [hm]; rfl
   ·have e3 : (Go.Lib.indexByte l c == -1) = false := by simpa using hm
    rw [e3]; simp only [Bool.false_eq_true, if_false]
    rw [decide_eq_true (by omega), decide_eq_true (by omega)]
def M0 (s : TN) (k : Nat) (c : UInt8) : An :=
 if Hv c then ⟨1, k, run Hv s k⟩ else if I9 c then ⟨2, k, run I9 s k⟩ else if Go.Lib.hasPrefix (s.drop k) [61, 62] then ⟨3, k, [61, 62]⟩ else if (sg9 ++ [10]).contains c then ⟨3, k, [c]⟩ else ⟨4, k, [c]⟩
def Mo (s : TN) (k : Nat) (c : UInt8) : Af :=
 if Hv c then ⟨1, k, run Hv s k⟩ else if I9 c then ⟨2, k, run I9 s k⟩ else if c = 10 then ⟨4, k, [10]⟩ else if Go.Lib.hasPrefix (s.drop k) [61, 62] then ⟨3, k, [61, 62]⟩ else if sg9.contains c then ⟨3, k, [c]⟩ else ⟨0, k, [c]⟩
theorem Ox {p : UInt8 -> Bool} : ∀ {l : TN} {c : UInt8}, c ∈ l.takeWhile p -> p c = true
 | [], c, h => by cases h
 | a :: l, c, h => by
  rw [List.takeWhile_cons] at h
  cases hp : p a with
  | false => rw [hp] at h; cases h
  | true =>
   rw [hp] at h
   rcases List.mem_cons.1 h with rfl | h
   ·exact hp
   ·exact Ox h
theorem RQ {k : Nat} {c : UInt8} (h : s[k]? = some c) (hL : s.length <= 1000000) : O2 (M0 s k c) (Mo s k c) /\ (M0 s k c).text_.length = (Mo s k c).Text.length /\ 0 < (Mo s k c).Text.length /\ k + (Mo s k c).Text.length <= s.length := by
 have hk : k < s.length := by
  rcases Nat.lt_or_ge k s.length with h' | h'
  ·exact h'
  ·rw [List.getElem?_eq_none h'] at h; cases h
 have hrun : ∀ p : UInt8 -> Bool, p c = true -> 0 < (run p s k).length /\ k + (run p s k).length <= s.length := fun p hp => by
  have h1 := PC h hp
  have h2 := (Jn (p := p) (s := s) (i := k) (by omega)).2
  rw [M8] at h1 h2
  omega
 unfold M0 Mo
 by_cases h1 : Hv c = true
 ·rw [if_pos h1, if_pos h1]
  have hr := hrun _ h1
  refine ⟨⟨rfl, .inl ⟨rfl, rfl, rfl, fun e => ?_, ?_, fun d hd => ?_⟩⟩, rfl, hr.1, hr.2⟩
  ·have e' : run Hv s k = [] := e
   rw [e'] at hr; simp at hr
  ·show (run Hv s k).length <= 1000000
   omega
  ·have := Ox (show d ∈ (s.drop k).takeWhile Hv from hd)
   unfold Hv at this; simpa using this
 rw [if_neg h1, if_neg h1]
 by_cases h2 : I9 c = true
 ·rw [if_pos h2, if_pos h2]; exact ⟨⟨rfl, .inr (.inl ⟨rfl, rfl, rfl, fun e => absurd (Ox (p := I9) (c := 10) (l := s.drop k) (by rw [show (s.drop k).takeWhile I9 = [10] from e]; simp)) (by decide)⟩)⟩, rfl, (hrun _ h2).1, (hrun _ h2).2⟩
 rw [if_neg h2, if_neg h2]
 by_cases h3 : c = 10
 ·subst h3
  have hp : Go.Lib.hasPrefix (s.drop k) [61, 62] = false := by rw [Sj h]; rfl
  rw [hp]
  simp only [Bool.false_eq_true, if_false, if_true]
  have : (sg9 ++ [10]).contains (10 : UInt8) = true := by decide
  rw [this]
  exact ⟨⟨rfl, .inr (.inr (.inr (.inl ⟨rfl, rfl, rfl, rfl⟩)))⟩, rfl, by simp, by simp; omega⟩
 rw [if_neg h3]
 by_cases h4 : Go.Lib.hasPrefix (s.drop k) [61, 62] = true
 ·rw [if_pos h4, if_pos h4]
  refine ⟨⟨rfl, .inr (.inr (.inl ⟨rfl, rfl, rfl, by simp⟩))⟩, rfl, by simp, ?_⟩
  rw [Sj h, Bool.and_eq_true] at h4
  have : k + 1 < s.length := by
   rcases Nat.lt_or_ge (k + 1) s.length with h' | h'
   ·exact h'
   ·rw [List.getElem?_eq_none h'] at h4; cases h4.2
  simp; omega
 rw [if_neg h4, if_neg h4]
 have hc : (sg9 ++ [10]).contains c = sg9.contains c := by
  rw [Bool.eq_iff_iff]; simp [h3]
 rw [hc]
 by_cases h5 : sg9.contains c = true
 ·rw [if_pos h5, if_pos h5]; exact ⟨⟨rfl, .inr (.inr (.inl ⟨rfl, rfl, rfl, by simpa using h3⟩))⟩, rfl, by simp, by simp; omega⟩
 ·rw [if_neg h5, if_neg h5]; exact ⟨⟨rfl, .inr (.inr (.inr (.inr ⟨rfl, rfl⟩)))⟩, rfl, by simp, by simp; omega⟩
theorem Nf (c : UInt8) : DB N (c.toNat : Int) = some (Hv c) := by
 unfold DB Hv
 congr 2
 ·rw [Bool.eq_iff_iff]; simp; omega
 ·rw [Bool.eq_iff_iff]; simp; omega
theorem Nd (c : UInt8) : DA N (c.toNat : Int) = some (I9 c) := by
 unfold DA I9
 congr 2
 ·rw [Bool.eq_iff_iff]; simp; omega
 ·rw [Bool.eq_iff_iff]; simp; omega
theorem Ij (b c : UInt8) : ((b.toNat : Int) == (c.toNat : Int)) = decide (b = c) := by
 rw [PM]
 by_cases h : b = c
 ·subst h; simp
 ·have : ¬ b.toNat = c.toNat := fun e => h (UInt8.toNat_inj.1 e)
  simp [h, this]
theorem Sb (hN : 20 < N) (c : UInt8) : GP N (c.toNat : Int) = some (sg9.contains c) := by
 unfold GP
 rw [Ew sg9 (fun x => decide (x = c)) (fun _ => true) (fun i hi => by
  unfold EE
  rw [show ((9 : Int)) = ((9 : Nat) : Int) from rfl, I7 (show i < 9 from hi), cond_true]
  rw [show ([40, 41, 44, 58, 61, 60, 43, 45, 42] : TN) = sg9 from rfl, Fu (s := sg9) (List.getElem?_eq_getElem hi), Option.bind_some, Ij]) (by
  unfold EE
  rw [show ((9 : Int)) = ((9 : Nat) : Int) from rfl, show (sg9.length : Int) = ((9 : Nat) : Int) from rfl, Jx, cond_false]) (show 9 < N by omega) (by decide)]
 have : (sg9.any fun x => decide (x = c)) = sg9.contains c := by
  rw [Bool.eq_iff_iff, List.any_eq_true, List.contains_iff_mem]
  simp
 rw [this]
 cases sg9.contains c <;> rfl
end
abbrev yc : List An -> An -> Option (Bool × List An) := fun st x => (CU st [x]).map fun t => (true, t)
abbrev z1 (N : Nat) (s : TN) : Int -> Int -> Int -> Option TN := fun y0 y1 y2 => CD N y0 y1 y2 s
def Oi (c : UInt8) : Bool := decide (c = 32) || decide (c = 9)
section
variable {N : Nat} {s : TN}
theorem Sn (c : UInt8) : (decide ((c.toNat : Int) >= 48) && decide ((c.toNat : Int) <= 57)) = Hv c := by
 have := Nf (N := 0) c
 unfold DB at this
 exact Option.some.inj this
theorem R3 (c : UInt8) : (decide ((c.toNat : Int) >= 97) && decide ((c.toNat : Int) <= 122)) = I9 c := by
 have := Nd (N := 0) c
 unfold DA at this
 exact Option.some.inj this
theorem Qh (c : UInt8) : (((c.toNat : Int) == 32) || ((c.toNat : Int) == 9)) = Oi c := by
 unfold Oi
 rw [show ((32 : Int)) = (((32 : UInt8).toNat : Nat) : Int) from rfl, show ((9 : Int)) = (((9 : UInt8).toNat : Nat) : Int) from rfl, Ij, Ij]
theorem SG {k : Nat} {c : UInt8} (h : s[k]? = some c) (hN : s.length < N) (hL : s.length < 1000000) (acc : List An) (ha : acc.length <= 1000000) (s0 : List An) :
  B2 N yc s (z1 N s) s0 ((k : Int), acc) = some (.next (if Oi c then (((k + 1 : Nat) : Int), acc) else (((k + (M0 s k c).text_.length : Nat) : Int), acc ++ [M0 s k c]))) := by
 have hk : k < s.length := by
  rcases Nat.lt_or_ge k s.length with h' | h'
  ·exact h'
  ·rw [List.getElem?_eq_none h'] at h; cases h
 have ht := (RQ h (by omega)).2
 unfold B2
 simp only
 rw [I7 hk, cond_true, Dm (by omega), NQ h, Option.bind_some, Fu h, Option.bind_some, Qh, Sn, R3]
 cases hw : Oi c with
 | true => rfl
 | false =>
  simp only [cond_false, Bool.false_eq_true, if_false]
  have fin : ∀ (o : Option (Int × TN)) (kd : Int) (tx : TN), o = some (kd, tx) -> M0 s k c = ⟨kd, (k : Int), tx⟩ ->
    (o.bind fun j75 => ((yc acc ({ kind_ := j75.1, at_ := (k : Int), text_ := j75.2 } : An)).bind fun q193 => (bif (!q193.1) then some (Bv.ret q193.2) else some (.next ((W64 ((k : Int) + (j75.2.length : Int))), q193.2))))) = some (.next (((k + (M0 s k c).text_.length : Nat) : Int), acc ++ [M0 s k c])) := by
   rintro _ kd tx rfl e
   rw [Option.bind_some, e]
   have hl : k + tx.length <= s.length := by have := ht.2.2; rw [<- ht.1, e] at this; exact this
   unfold yc
   rw [Du (by simp; omega)]
   simp only [Option.map_some, Option.bind_some, Bool.not_true, cond_false]
   rw [<- Int.natCast_add, Ke (by omega)]
  unfold M0 at fin ⊢
  by_cases h1 : Hv c = true
  ·refine fin _ 1 (run Hv s k) ?_ (by rw [if_pos h1])
   rw [h1, cond_true]
   unfold z1
   rw [show ((48 : Int)) = ((48 : Nat) : Int) from rfl, show ((57 : Int)) = ((57 : Nat) : Int) from rfl, RU (p := Hv) (fun _ => rfl) (by omega) hN (by omega)]; rfl
  rw [Bool.not_eq_true] at h1
  by_cases h2 : I9 c = true
  ·refine fin _ 2 (run I9 s k) ?_ (by rw [h1, h2]; rfl)
   rw [h1, cond_false, h2, cond_true]
   unfold z1
   rw [show ((97 : Int)) = ((97 : Nat) : Int) from rfl, show ((122 : Int)) = ((122 : Nat) : Int) from rfl, RU (p := I9) (fun _ => rfl) (by omega) hN (by omega)]; rfl
  rw [Bool.not_eq_true] at h2
  have hd : IZ s (k : Int) (s.length : Int) = some (s.drop k) := by
   unfold IZ
   rw [if_pos ⟨by omega, by omega, by omega⟩, Int.toNat_natCast, Int.toNat_natCast, <- List.length_drop, List.take_length]
  by_cases h3 : Go.Lib.hasPrefix (s.drop k) [61, 62] = true
  ·refine fin _ 3 [61, 62] ?_ (by rw [h1, h2, h3]; rfl)
   rw [h1, cond_false, h2, cond_false, hd]
   simp only [Option.bind_some, strings_HasPrefix, h3, cond_true]
  rw [Bool.not_eq_true] at h3
  have hx : strings_IndexByte N ([40, 41, 44, 58, 61, 60, 43, 45, 42, 10] : TN) (c.toNat : Int) = some (Go.Lib.indexByte (sg9 ++ [10]) c) := by
   unfold strings_IndexByte
   simp
   rfl
  by_cases h4 : (sg9 ++ [10]).contains c = true
  ·refine fin _ 3 [c] ?_ (by rw [h1, h2, h3, h4]; rfl)
   rw [h1, cond_false, h2, cond_false, hd]
   simp only [Option.bind_some, strings_HasPrefix, h3, cond_false]
   rw [hx, Option.bind_some, SK, h4]; rfl
  rw [Bool.not_eq_true] at h4
  ·refine fin _ 4 [c] ?_ (by rw [h1, h2, h3, h4]; rfl)
   rw [h1, cond_false, h2, cond_false, hd]
   simp only [Option.bind_some, strings_HasPrefix, h3, cond_false]
   rw [hx, Option.bind_some, SK, h4]; rfl
theorem SH {k : Nat} {c : UInt8} (h : s[k]? = some c) (hN : s.length + 20 < N) (hL : s.length < 1000000) (acc : List Af) (ha : acc.length <= 1000000) :
  CJ N s (acc, (k : Int)) = some (.next (if Oi c then (acc, ((k + 1 : Nat) : Int)) else (acc ++ [Mo s k c], ((k + (Mo s k c).Text.length : Nat) : Int)))) := by
 have hk : k < s.length := by
  rcases Nat.lt_or_ge k s.length with h' | h'
  ·exact h'
  ·rw [List.getElem?_eq_none h'] at h; cases h
 unfold CJ
 simp only
 rw [I7 hk, cond_true]
 simp only [Fu h, Option.bind_some, Nf, Nd]
 have hws : (bif ((c.toNat : Int) == 32) then some true else some ((c.toNat : Int) == 9)) = some (Oi c) := by
  rw [<- Qh]; cases ((c.toNat : Int) == 32) <;> rfl
 rw [hws, Option.bind_some]
 have hap : ∀ t, CU acc [t] = some (acc ++ [t]) := fun t => Du (by simp; omega)
 cases hw : Oi c with
 | true => simp only [cond_true, if_true]; rw [Dm (by omega)]
 | false =>
  simp only [cond_false, Bool.false_eq_true, if_false]
  unfold Mo
  have scan : ∀ (p : UInt8 -> Bool) (q : Int -> Option Bool) (hq : ∀ c : UInt8, q (c.toNat : Int) = some (p c)) (body : Int -> Option (Bv (List Af) Int)),
    (∀ s100, body s100 = ((bif (decide (s100 < (s.length : Int))) then ((Gi s s100).bind fun c138 => ((q c138).bind fun r141 => some r141)) else some false).bind fun j127 => (bif j127 then some (.next (W64 (s100 + 1))) else some (.done s100)))) -> Be body N (k : Int) = some (.done ((FS p s k : Nat) : Int)) := by
   intro p q hq body hb
   refine MS p s (fun j hj => ?_) (by omega) (by omega) (by omega)
   rw [hb]
   by_cases h : j < s.length
   ·rw [I7 h, cond_true, List.getElem?_eq_getElem h, Fu (List.getElem?_eq_getElem h), Option.bind_some, hq, Option.bind_some, Option.bind_some]; rfl
   ·have : j = s.length := by omega
    subst this
    rw [Jx, cond_false, List.getElem?_eq_none (Nat.le_refl _)]; rfl
  by_cases h1 : Hv c = true
  ·rw [h1, cond_true, if_pos rfl, scan Hv (DB N) (fun c => Nf c) (E0 N s (acc, (k : Int)) false (c.toNat : Int) true) (fun _ => rfl)]
   simp only [Option.bind_some, Bv.k]
   rw [Ly (by omega), Option.bind_some, hap, Option.bind_some, M8]; rfl
  rw [Bool.not_eq_true] at h1
  rw [h1, cond_false]
  simp only [Bool.false_eq_true, if_false]
  by_cases h2 : I9 c = true
  ·rw [h2, cond_true, if_pos rfl, scan I9 (DA N) (fun c => Nd c) (EZ N s (acc, (k : Int)) false (c.toNat : Int) false (c.toNat : Int) true) (fun _ => rfl)]
   simp only [Option.bind_some, Bv.k]
   rw [Ly (by omega), Option.bind_some, hap, Option.bind_some, M8]; rfl
  rw [Bool.not_eq_true] at h2
  rw [h2, cond_false]
  simp only [Bool.false_eq_true, if_false]
  rw [show (((c.toNat : Int)) == 10) = decide (c = 10) from by rw [show ((10 : Int)) = (((10 : UInt8).toNat : Nat) : Int) from rfl, Ij]]
  by_cases h3 : c = 10
  ·rw [decide_eq_true h3, cond_true, if_pos h3, hap, Dm (by omega)]; rfl
  rw [decide_eq_false h3, cond_false, if_neg h3]
  have hpre : (bif ((c.toNat : Int) == 61) then (bif (decide ((W64 ((k : Int) + 1)) < (s.length : Int))) then ((Gi s (W64 ((k : Int) + 1))).bind fun c326 => some (c326 == 62)) else some false) else some false) = some (Go.Lib.hasPrefix (s.drop k) [61, 62]) := by
   rw [Sj h, show (((c.toNat : Int)) == 61) = decide (c = 61) from by rw [show ((61 : Int)) = (((61 : UInt8).toNat : Nat) : Int) from rfl, Ij]]
   cases decide (c = 61) with
   | false => rfl
   | true =>
    rw [cond_true, Dm (by omega)]
    by_cases h5 : k + 1 < s.length
    ·rw [I7 h5, cond_true, Fu (List.getElem?_eq_getElem h5), Option.bind_some, List.getElem?_eq_getElem h5]
     rw [show ((62 : Int)) = (((62 : UInt8).toNat : Nat) : Int) from rfl, Ij]; rfl
    ·rw [decide_eq_false (by omega), cond_false, List.getElem?_eq_none (by omega)]; rfl
  rw [hpre]
  simp only [Option.bind_some]
  by_cases h4 : Go.Lib.hasPrefix (s.drop k) [61, 62] = true
  ·rw [h4, cond_true, if_pos rfl, hap]
   simp only [Option.bind_some]
   rw [show ((k : Int) + 2) = ((k + 2 : Nat) : Int) from by omega, Ke (by omega)]; rfl
  rw [Bool.not_eq_true] at h4
  rw [h4, cond_false, Sb (by omega), Dm (by omega), NQ h]
  simp only [Option.bind_some, Bool.false_eq_true, if_false, hap]
  cases sg9.contains c <;> rfl
structure IB (n : Nat) (Lr : List An) (Lf : List Af) : Prop where
 lr : Lr.length = n
 lf : Lf.length = n
 pos : 0 < n
 small : n <= 1000000
 c : ∀ (i : Nat) (hr : i < Lr.length) (hf : i < Lf.length), i + 1 < n -> O2 Lr[i] Lf[i]
 e : ∀ (i : Nat) (hr : i < Lr.length) (hf : i < Lf.length), i + 1 = n -> Qe Lr[i] Lf[i]
theorem Q9 (hL : s.length <= 200000) (hN : 1000000 < N) : ∃ n Lr Lf, FA N s = some Lr /\ Fi N s = some Lf /\ IB n Lr Lf /\ n <= s.length + 1 := by
 have hsim := LU (b1 := B2 N yc s (z1 N s) ([] : List An)) (b2 := CJ N s)
  (fun m (x : Int × List An) (y : List Af × Int) => ∃ k : Nat, k <= s.length /\ m = s.length - k /\ x.1 = (k : Int) /\ y.2 = (k : Int) /\ x.2.length = y.1.length /\ x.2.length <= k /\ ∀ (i : Nat) (hr : i < x.2.length) (hf : i < y.1.length), O2 x.2[i] y.1[i])
  (fun o1 o2 => ∃ (Lr : List An) (Lf : List Af), o1 = .done ((s.length : Int), Lr) /\ o2 = .done (Lf, (s.length : Int)) /\ Lr.length = Lf.length /\ Lr.length <= s.length /\ ∀ (i : Nat) (hr : i < Lr.length) (hf : i < Lf.length), O2 Lr[i] Lf[i])
  (by
   rintro m ⟨i1, a1⟩ ⟨a2, i2⟩ ⟨k, hk, rfl, h1, h2, h3, h4, h5⟩
   simp only at h1 h2 h3 h4 h5
   subst h1 h2
   by_cases hlt : k < s.length
   ·left
    have hc := List.getElem?_eq_getElem hlt
    rw [SG hc (by omega) (by omega) a1 (by omega) [], SH hc (by omega) (by omega) a2 (by omega)]
    obtain ⟨t1, t2, t3, t4⟩ := RQ hc (by omega)
    cases hw : Oi s[k] with
    | true => exact ⟨s.length - (k + 1), _, _, by omega, rfl, rfl, k + 1, by omega, rfl, rfl, rfl, h3, Nat.le_succ_of_le h4, h5⟩
    | false =>
     refine ⟨s.length - (k + (Mo s k s[k]).Text.length), _, _, by omega, rfl, rfl, k + (Mo s k s[k]).Text.length, t4, rfl, ?_, rfl, ?_, ?_, ?_⟩
     ·simp only [Bool.false_eq_true, if_false]; rw [t2]
     ·simp [h3]
     ·simp; omega
     ·intro i hr hf
      simp only [Bool.false_eq_true, if_false] at hr hf ⊢
      by_cases hi : i < a1.length
      ·rw [List.getElem_append_left hi, List.getElem_append_left (by omega)]
       exact h5 i hi (by omega)
      ·have e1 : i = a1.length := by simp at hr; omega
       subst e1
       rw [List.getElem_append_right (by omega), List.getElem_append_right (by omega)]
       simpa [h3] using t1
   ·right; left
    have : k = s.length := by omega
    subst this
    refine ⟨.done ((s.length : Int), a1), .done (a2, (s.length : Int)), ?_, (fun _ h => by cases h), ?_, (fun _ h => by cases h), a1, a2, rfl, rfl, h3, h4, h5⟩
    ·unfold B2; simp only; rw [Jx, cond_false]
    ·unfold CJ; simp only; rw [Jx, cond_false])
  s.length N N ((0 : Int), []) ([], (0 : Int)) ⟨0, by omega, by omega, rfl, rfl, rfl, by simp, fun i hr => by simp at hr⟩ (by omega) (by omega)
 obtain ⟨o1, o2, e1, e2, Lr, Lf, rfl, rfl, h3, h4, h5⟩ := hsim
 refine ⟨Lr.length + 1, Lr ++ [⟨0, (s.length : Int), []⟩], Lf ++ [⟨5, (s.length : Int), []⟩], ?_, ?_, ⟨by simp, by simp [h3], by omega, by omega, ?_, ?_⟩, by omega⟩
 ·show ((Be (B2 N yc s (z1 N s) ([] : List An)) N ((0 : Int), [])).bind fun o => o.k (fun r => some r) (fun s15 => ((yc s15.2 ({ kind_ := 0, at_ := (s.length : Int), text_ := [] } : An)).bind fun q211 => some q211.2))) = _
  rw [e1]
  simp only [Option.bind_some, Bv.k]
  unfold yc
  rw [Du (by simp; omega)]; rfl
 ·unfold Fi
  rw [e2]
  simp only [Option.bind_some, Bv.k]
  rw [Du (by simp; omega)]; rfl
 ·intro i hr hf hi
  rw [List.getElem_append_left (by omega), List.getElem_append_left (by omega)]
  exact h5 i (by omega) (by omega)
 ·intro i hr hf hi
  have e1 : i = Lr.length := by omega
  subst e1
  rw [List.getElem_append_right (by omega), List.getElem_append_right (by omega)]
  simp [h3]
  exact ⟨rfl, rfl, rfl⟩
end
def Df (N : Nat) (x0 : TN) : (Int × Int) -> Option (Bv Int (Int × Int)) := fun s27 =>
 (bif (decide (s27.2 < (x0.length : Int))) then ((Gi x0 s27.2).bind fun c50 => some (.next ((W64 ((W64 (10 * s27.1)) + (W64 (IntKind.u8.wrap (c50 - 48))))), (W64 (s27.2 + 1))))) else some (.done (s27.1, s27.2)))
def Cv (N : Nat) (x0 : TN) : Option Int :=
 (bif (decide ((x0.length : Int) > 7)) then some (-1) else ((Be (Df N x0) N (0, 0)).bind fun o => o.k (fun r => some r) (fun s35 => (bif (decide (s35.1 > 1000000)) then some (-1) else some s35.1))))
theorem G7 : Au Tryz.prog 244 := fun _ _ => by kernel_rfl
theorem HP (N : Nat) (w0 : World) (F0 : Mem) (hF : TP w0 F0) (x0 : TN) (r : Int) (h : Cv N x0 = some r) :
  Calls Tryz.prog 244 ([(.string ⟨(x0).toArray⟩)] : List Value).toArray w0 (Bd w0 F0 fun F' v => v = (vi r)) := by
 have hs0 := Tp hF
 refine Go 25 Tryz.func244 ?_
 refine Sq (Rg [0] ?_)
 refine Vs 1 ?_
 refine Nss ?_
 refine Sq (Rg [0, 1, 2] ?_)
 refine Vs 3 ?_
 refine Nt ?_
 refine Cd h (fun hb21 h22 => ?_) (fun hb21 h23 => ?_)
 ·refine Sq (Rg [0] ?_)
  refine Vs 1 ?_
  refine Nt ?_
  refine Rt ?_
  refine Aj ?_
  obtain rfl := Ab h22
  exact Re [(vi (-1))] hs0 rfl
 ·refine Sc ?_
  refine Ad ?_
  refine Sq (Rg [0] ?_)
  refine Vs 1 ?_
  refine Nss ?_
  refine Sq (Rg [0] ?_)
  refine Vs 1 ?_
  refine Nt ?_
  obtain ⟨o24, ho25, h26⟩ := bind_some h23
  refine Tu (fun f w => ∃ (s35 : (Int × Int)) (F2 : Mem), o24 = .done s35 /\ HS w0 F0 w F2 [] /\ Tn F0 F2 /\ FI f [] [(3, (vi s35.1))]) ?_ ?_
  ·refine Bk ?_
   refine Tm (by kernel_rfl) (fun m f w => ∃ (s27 : (Int × Int)) (F1 : Mem), Be (Df N x0) m s27 = some o24 /\ HS w0 F0 w F1 [] /\ Tn F0 F1 /\ FI f [] [(0, (.string ⟨(x0).toArray⟩)), (3, (vi s27.1)), (4, (vi s27.2))]) N ⟨(0, 0), F0, ho25, hs0, (To _), fI⟩ ?_
   rintro m41 f w28 ⟨s27, F1, hit42, hs29, le30, ⟨_, rfl⟩⟩
   obtain ⟨m43, fl44, rfl, hb45, hnx46⟩ := A5 hit42
   refine Sq ?_
   refine Sq (Rg [0, 1, 2, 3] ?_)
   refine Vs 4 ?_
   refine Nt ?_
   refine Cd hb45 (fun hb47 h48 => ?_) (fun hb47 h49 => ?_)
   ·refine Sc ?_
    refine Ad ?_
    refine Sq ?_
    refine Bk ?_
    refine Rg [0, 1, 2, 3, 4, 5, 6, 7, 8] ?_
    refine Vs 4 ?_
    obtain ⟨c50, hr51, h52⟩ := bind_some h48
    refine V 18 5 (CC (t := 9) (x := (.tmp 16)) (y := (.tmp 17)) (a := x0) (k := .i64) (i := s27.2) (v := c50) rfl rfl (by kernel_rfl) hr51) ?_
    refine Vs 4 ?_
    refine Tj ?_
    refine AA ?_
    refine Ad ?_
    refine Rg [0, 1, 2] ?_
    refine Vs 3 ?_
    refine Tj ?_
    have hn53 := AW h52 hnx46
    exact ⟨m43, Nat.lt_succ_self _, ((W64 ((W64 (10 * s27.1)) + (W64 (IntKind.u8.wrap (c50 - 48))))), (W64 (s27.2 + 1))), F1, hn53, hs29, le30, fI⟩
   ·refine Ex ?_
    refine AC ?_
    refine AC ?_
    refine AL rfl ?_
    have ho54 := A8 h49 hnx46
    exact .inl ⟨rfl, (s27.1, s27.2), F1, ho54, hs29, le30, fI⟩
  ·rintro f w36 ⟨s35, F2, rfl, hs37, le38, ⟨_, rfl⟩⟩
   have h55 := BT h26
   refine Ad ?_
   refine Sq ?_
   refine Sq (Rg [0, 1] ?_)
   refine Vs 2 ?_
   refine Nt ?_
   refine Cd h55 (fun hb56 h57 => ?_) (fun hb56 h58 => ?_)
   ·refine Sq (Rg [0] ?_)
    refine Vs 1 ?_
    refine Nt ?_
    refine Rt ?_
    refine Aj ?_
    obtain rfl := Ab h57
    exact Re [(vi (-1))] hs37 rfl
   ·refine Sc ?_
    refine Ad ?_
    refine Sq (Rg [0, 1] ?_)
    refine Vs 2 ?_
    refine Nt ?_
    refine Rt ?_
    obtain rfl := Ab h58
    exact Re [(vi s35.1)] hs37 rfl
def dv (acc : Nat) : TN -> Nat
 | [] => acc
 | c :: r => dv (10 * acc + (c.toNat - 48)) r
def Dig (l : TN) : Prop := ∀ c, c ∈ l -> 48 <= c.toNat /\ c.toNat <= 57
def p10 : Nat -> Nat
 | 0 => 1
 | n + 1 => p10 n * 10
theorem ST {l : TN} : ∀ {acc : Nat}, Dig l -> dv acc l < (acc + 1) * p10 l.length := by
 induction l with
 | nil => intro acc _; show acc < (acc + 1) * 1; omega
 | cons c r ih =>
  intro acc h
  have hc := h c (List.mem_cons_self ..)
  have h1 := ih (acc := 10 * acc + (c.toNat - 48)) (fun d hd => h d (List.mem_cons_of_mem _ hd))
  have e : dv acc (c :: r) = dv (10 * acc + (c.toNat - 48)) r := rfl
  rw [e, List.length_cons]
  show _ < (acc + 1) * (p10 r.length * 10)
  generalize p10 r.length = q at h1
  have h2 : (10 * acc + (c.toNat - 48) + 1) * q <= (10 * (acc + 1)) * q := Nat.mul_le_mul_right _ (by omega)
  have h3 : (acc + 1) * (q * 10) = (10 * (acc + 1)) * q := by rw [Nat.mul_comm q 10, <- Nat.mul_assoc, Nat.mul_comm (acc + 1) 10]
  omega
theorem R8 : ∀ {n : Nat}, n <= 7 -> p10 n <= 10000000 := by
 intro n h
 have : n = 0 \/ n = 1 \/ n = 2 \/ n = 3 \/ n = 4 \/ n = 5 \/ n = 6 \/ n = 7 := by omega
 rcases this with rfl | rfl | rfl | rfl | rfl | rfl | rfl | rfl <;> decide
theorem Rz : ∀ {n : Nat}, n <= 6 -> p10 n <= 1000000 := by
 intro n h
 have : n = 0 \/ n = 1 \/ n = 2 \/ n = 3 \/ n = 4 \/ n = 5 \/ n = 6 := by omega
 rcases this with rfl | rfl | rfl | rfl | rfl | rfl | rfl <;> decide
theorem RW : ∀ {l : TN} {acc : Nat}, acc <= dv acc l
 | [], acc => Nat.le_refl _
 | c :: r, acc => by unfold dv; exact Nat.le_trans (by omega) (RW (l := r))
theorem MP : ∀ {l : TN} {acc : Nat}, Dig l -> Go.Lib.parseUint10 acc l = .ok (dv acc l) \/ Go.Lib.parseUint10 acc l = .range
 | [], acc, _ => .inl rfl
 | c :: r, acc, h => by
  have hc := h c (List.mem_cons_self ..)
  unfold Go.Lib.parseUint10 dv
  rw [if_pos hc]
  split
  ·exact .inr rfl
  ·split
   ·exact .inr rfl
   ·rw [Nat.mul_comm 10 acc]; exact MP fun d hd => h d (List.mem_cons_of_mem _ hd)
theorem KS : ∀ {l : TN} {acc : Nat}, Dig l -> dv acc l < 10000000 -> Go.Lib.parseUint10 acc l = .ok (dv acc l)
 | [], acc, _, _ => rfl
 | c :: r, acc, h, hs => by
  have hc := h c (List.mem_cons_self ..)
  unfold dv at hs
  have hge := RW (l := r) (acc := 10 * acc + (c.toNat - 48))
  unfold Go.Lib.parseUint10 dv
  rw [if_pos hc, if_neg (by omega), if_neg (by omega), Nat.mul_comm acc 10]
  exact KS (fun d hd => h d (List.mem_cons_of_mem _ hd)) hs
theorem QY {l : TN} (h : Dig l) (hne : l ≠ []) : Go.Lib.atoiAll l = .range \/ ∃ v, Go.Lib.atoiAll l = .ok v := by
 cases l with
 | nil => exact absurd rfl hne
 | cons c r =>
  have hc := h c (List.mem_cons_self ..)
  unfold Go.Lib.atoiAll
  simp only
  rw [if_neg (by omega)]
  unfold Go.Lib.parseMag
  rw [if_neg (by simp)]
  rcases MP (acc := 0) h with e | e <;> rw [e]
  ·simp only
   split
   ·exact .inl rfl
   ·split
    ·exact .inl rfl
    ·exact .inr ⟨_, rfl⟩
  ·exact .inl rfl
theorem O0 {l : TN} (h : Dig l) (hne : l ≠ []) (hl : l.length <= 7) : Go.Lib.atoiAll l = .ok (dv 0 l : Int) := by
 have hlt := ST (acc := 0) h
 have h7 := R8 hl
 cases l with
 | nil => exact absurd rfl hne
 | cons c r =>
  have hc := h c (List.mem_cons_self ..)
  unfold Go.Lib.atoiAll
  simp only
  rw [if_neg (by omega)]
  unfold Go.Lib.parseMag
  rw [if_neg (by simp), KS h (by omega)]
  simp only
  rw [if_neg (by omega), if_neg (by omega), if_neg (by omega)]
def fig (l : TN) : Int := if l.length > 7 then -1 else if dv 0 l > 1000000 then -1 else dv 0 l
section
variable {N : Nat}
theorem QE {l : TN} (h : Dig l) (hN : 100 < N) : Cv N l = some (fig l) := by
 unfold Cv fig
 by_cases hl : l.length > 7
 ·rw [decide_eq_true (by omega), cond_true, if_pos hl]
 rw [decide_eq_false (by omega), cond_false, if_neg hl]
 have key : ∀ (k : Nat) (acc : Nat), k <= l.length -> dv acc (l.drop k) = dv 0 l -> acc < 10000000 -> True := fun _ _ _ _ _ => trivial
 obtain ⟨o, ho, rfl⟩ := Ig (body := Df N l) l.length (fun i st => ∃ acc : Nat, st = ((acc : Int), (i : Int)) /\ dv acc (l.drop i) = dv 0 l /\ acc < p10 i) (fun o => o = .done ((dv 0 l : Int), (l.length : Int))) (by
  rintro i st hi ⟨acc, rfl, hd, hb⟩
  by_cases h' : i < l.length
  ·left
   have hc := h l[i] (List.getElem_mem h')
   have h6 := Rz (show i <= 6 by omega)
   refine ⟨(((10 * acc + (l[i].toNat - 48) : Nat) : Int), ((i + 1 : Nat) : Int)), ?_, ⟨_, rfl, ?_, ?_⟩, h'⟩
   ·unfold Df
    simp only
    rw [I7 h', cond_true, Fu (List.getElem?_eq_getElem h'), Option.bind_some, Dm (by omega)]
    have e1 : W64 (10 * (acc : Int)) = ((10 * acc : Nat) : Int) := by
     rw [show 10 * (acc : Int) = ((10 * acc : Nat) : Int) from by omega, Ke (by omega)]
    have e2 : IntKind.u8.wrap ((l[i].toNat : Int) - 48) = ((l[i].toNat - 48 : Nat) : Int) := by
     have : (l[i].toNat : Int) - 48 = ((l[i].toNat - 48 : Nat) : Int) := by omega
     rw [this]
     have hb : l[i].toNat - 48 < 10 := by omega
     generalize l[i].toNat - 48 = d at hb
     have : d = 0 \/ d = 1 \/ d = 2 \/ d = 3 \/ d = 4 \/ d = 5 \/ d = 6 \/ d = 7 \/ d = 8 \/ d = 9 := by omega
     rcases this with rfl | rfl | rfl | rfl | rfl | rfl | rfl | rfl | rfl | rfl <;> rfl
    rw [e1, e2, Ke (by omega), <- Int.natCast_add, Ke (by omega)]
   ·rw [<- hd, List.drop_eq_getElem_cons h']; rfl
   ·show _ < p10 i * 10
    omega
  ·have : i = l.length := by omega
   subst this
   rw [List.drop_length] at hd
   refine .inr ⟨_, ?_, (fun _ h => by cases h), rfl⟩
   unfold Df
   simp only
   rw [Jx, cond_false, <- hd]; rfl) l.length N 0 ((0 : Int), (0 : Int)) (by omega) ⟨0, rfl, rfl, by decide⟩ (by omega)
 rw [ho]
 simp only [Option.bind_some, Bv.k]
 by_cases h6 : dv 0 l > 1000000
 ·rw [if_pos h6, decide_eq_true (by omega)]; rfl
 ·rw [if_neg h6, decide_eq_false (by omega)]; rfl
theorem Sf {l : TN} (h : Dig l) (hne : l ≠ []) (hl : l.length <= 1000000) : ∃ r, C9 N l = some r /\
  (r.2 || (decide ((l.length : Int) > 7) || decide (r.1 > 1000000))) = decide (fig l < 0) /\ (0 <= fig l -> r.1 = fig l) := by
 unfold C9
 rw [if_pos (by omega)]
 by_cases h7 : l.length > 7
 ·have hf : fig l = -1 := by unfold fig; rw [if_pos h7]
  rw [hf]
  rcases QY h hne with e | ⟨v, e⟩ <;> rw [e] <;> exact ⟨_, rfl, by rw [decide_eq_true (show (l.length : Int) > 7 by omega)]; simp, by omega⟩
 ·rw [O0 h hne (by omega)]
  refine ⟨_, rfl, ?_, fun h0 => ?_⟩
  ·unfold fig
   rw [if_neg h7]
   rw [decide_eq_false (by omega), Bool.false_or, Bool.false_or]
   by_cases h6 : dv 0 l > 1000000
   ·rw [if_pos h6, decide_eq_true (by omega)]; rfl
   ·rw [if_neg h6, decide_eq_false (by omega), decide_eq_false (by omega)]
  ·unfold fig at h0 ⊢
   rw [if_neg h7] at h0 ⊢
   by_cases h6 : dv 0 l > 1000000
   ·rw [if_pos h6] at h0; omega
   ·rw [if_neg h6]
end
def AO (N : Nat) (x0 : Ac) (x1 : TN) : Option Bool :=
 (((idx x0.l_ 0).bind fun x29 => (bif (x29.kind_ == 2) then ((idx x0.l_ 0).bind fun x46 => some (x46.text_ == x1)) else ((idx x0.l_ 0).bind fun x52 => (bif (x52.kind_ == 3) then ((idx x0.l_ 0).bind fun x61 => some (x61.text_ == x1)) else some false)))).bind fun j24 => some j24)
theorem CQ : Au Tryz.prog 134 := fun _ _ => by kernel_rfl
theorem C3 (N : Nat) {wb w0 : World} {Fb F0 : Mem} {Lf : Own} (bp0 : Nat) (x0 : Ac) (a0_0 : TO) (n0_0 : Nat) (hb0_0 : LC x0.l_.length n0_0) (hs0_0 : SlA Al F0 a0_0 x0.l_) (x1 : TN) (hs0 : HS wb Fb w0 F0 ((sb bp0 (Ah x0 a0_0 n0_0) 100) :: Lf)) (r : Bool) (h : AO N x0 x1 = some r) :
  Calls Tryz.prog 134 ([(pt bp0 0), (.string ⟨(x1).toArray⟩)] : List Value).toArray w0 (D4 wb Fb F0 fun F' v L' => v = (.bool r) /\ L' = (sb bp0 (Ah x0 a0_0 n0_0) 100) :: Lf) := by
 refine Go 34 Tryz.func134 ?_
 refine Sq (Rg [0] ?_)
 refine Vs 1 ?_
 refine Nss (Rg [0, 1, 2, 3, 4, 5, 6, 7, 8, 9, 10, 11, 12, 13, 14, 15, 16, 17, 18, 19, 20, 21, 22, 23, 24, 25, 26, 27, 28, 29] ?_)
 obtain ⟨j24, hj27, h28⟩ := bind_some h
 refine Tt (fun f w => ∃ (F1 : Mem), HS wb Fb w F1 ((sb bp0 (Ah x0 a0_0 n0_0) 100) :: Lf) /\ Tn F0 F1 /\ FI f [] [(4, (.bool j24))]) ?_ ?_
 ·refine Vs 3 ?_
  refine Ld hs0.at0 ?_
  obtain ⟨x29, hx30, h32⟩ := bind_some hj27
  obtain ⟨hi31, hx30'⟩ := Az hx30
  obtain ⟨b33, o34, C35, E36, fz37, rfl, hF39, hE40⟩ := Tx hs0_0 hx30'
  have hc42 := hE40 _ _ hx30'
  refine Ix hi31 ?_
  refine Vs 1 ?_
  refine Lx 0 (hs0.pers _ _ hF39) hc42 ?_
  refine Vs 2 ?_
  refine Sp h32 (fun hb43 h44 => ?_) (fun hb43 h45 => ?_)
  ·refine Ss hb43 8 ?_
   refine Pk1 hb43 ?_
   refine Vs 1 ?_
   refine Vg 24 95 18 true 23 rfl (mv 0 (pt bp0 0)) ?_
   refine Vg 25 0 18 true 23 rfl (Ca (x := (.tmp 24)) (a := ⟨bp0, 0, none⟩) rfl) ?_
   refine Vg 26 0 18 true 23 rfl (fa 100 25 0 0 1 bp0 0 0) ?_
   refine Vg 27 98 18 true 23 rfl (ld 98 26 bp0 0 false 1 (.slice (some ⟨b33, o34, none⟩) x0.l_.length n0_0) hs0.at0) ?_
   obtain ⟨x46, hx47, h49⟩ := bind_some h44
   obtain ⟨hi48, hx47'⟩ := Az hx47
   have hc51 := hE40 _ _ hx47'
   refine Vg 28 0 18 true 23 rfl (Gy (t := 98) (x := (.tmp 27)) (y := (.const (vi 0))) (b := b33) (o := o34) (E := 97) (s := 3) (by_ := 32) rfl rfl (by kernel_rfl) hi48) ?_
   refine Vg 29 0 18 true 23 rfl (fa 97 28 2 2 1 b33 (o34 + (0 : Int).toNat * 3) ((o34 + (0 : Int).toNat * 3) + 2)) ?_
   refine Vg 30 9 18 true 23 rfl (lx 9 29 2 3 false 1 (.string ⟨(x46.text_).toArray⟩) (hs0.pers _ _ hF39) hc51) ?_
   refine Vg 31 9 18 true 23 rfl (mv 1 (.string ⟨(x1).toArray⟩)) ?_
   refine Vg 32 4 18 true 23 rfl (Fx (t := 9) (t' := 9) (x := (.tmp 30)) (y := (.tmp 31)) (op := .eql) (a := x46.text_) (b := x1) (v := (x46.text_ == x1)) rfl rfl rfl) ?_
   refine Pk1 (rfl : true = true) ?_
   refine Vs 1 ?_
   obtain rfl := Ab h49
   exact Tj ⟨rfl, F0, hs0, (To _), fI⟩
  ·refine Vgs hb43 3 ?_
   refine Lg hb43 hs0.at0 ?_
   obtain ⟨x52, hx53, h55⟩ := bind_some h45
   obtain ⟨hi54, hx53'⟩ := Az hx53
   have hc57 := hE40 _ _ hx53'
   refine Ixg hb43 hi54 ?_
   refine Vgs hb43 1 ?_
   refine Lxg hb43 0 (hs0.pers _ _ hF39) hc57 ?_
   refine Vgs hb43 1 ?_
   refine Pk0 hb43 ?_
   refine Vs 1 ?_
   refine Sp h55 (fun hb58 h59 => ?_) (fun hb58 h60 => ?_)
   ·refine Vgs hb58 3 ?_
    refine Lg hb58 hs0.at0 ?_
    obtain ⟨x61, hx62, h64⟩ := bind_some h59
    obtain ⟨hi63, hx62'⟩ := Az hx62
    have hc66 := hE40 _ _ hx62'
    refine Ixg hb58 hi63 ?_
    refine Vgs hb58 1 ?_
    refine Lxg hb58 2 (hs0.pers _ _ hF39) hc66 ?_
    refine Vgs hb58 2 ?_
    refine Pk1 hb58 ?_
    refine Vs 1 ?_
    obtain rfl := Ab h64
    exact Tj ⟨rfl, F0, hs0, (To _), fI⟩
   ·refine Ss hb58 9 ?_
    refine Pk0 hb58 ?_
    refine Vs 1 ?_
    obtain rfl := Ab h60
    exact Tj ⟨rfl, F0, hs0, (To _), fI⟩
 ·rintro f w21 ⟨F1, hs22, le23, ⟨_, rfl⟩⟩
  refine Ad ?_
  refine Rt ?_
  obtain rfl := Ab h28
  exact ReB [(.bool j24)] hs22 le23 ⟨rfl, rfl⟩
def Aw (N : Nat) (x0 : Ac) (x1 : TN) : Option (Ac × Bool) :=
 ((AO N x0 x1).bind fun r21 => (bif (!r21) then some (x0, false) else ((sub x0.l_ 1 (x0.l_.length : Int)).bind fun r31 => some (({ l_ := r31, open_ := x0.open_ } : Ac), true))))
theorem AP : Au Tryz.prog 80 := fun _ _ => by kernel_rfl
theorem AV (N : Nat) {wb w0 : World} {Fb F0 : Mem} {Lf : Own} (bp0 : Nat) (x0 : Ac) (a0_0 : TO) (n0_0 : Nat) (hb0_0 : LC x0.l_.length n0_0) (hs0_0 : SlA Al F0 a0_0 x0.l_) (x1 : TN) (hs0 : HS wb Fb w0 F0 ((sb bp0 (Ah x0 a0_0 n0_0) 100) :: Lf)) (r : (Ac × Bool)) (h : Aw N x0 x1 = some r) :
  Calls Tryz.prog 80 ([(pt bp0 0), (.string ⟨(x1).toArray⟩)] : List Value).toArray w0 (D4 wb Fb F0 fun F' v L' => ∃ (aq0_0 : TO) (nq0_0 : Nat), v = (.bool r.2) /\ L' = (sb bp0 (Ah r.1 aq0_0 nq0_0) 100) :: Lf /\ LC r.1.l_.length nq0_0 /\ SlA Al F' aq0_0 r.1.l_) := by
 refine Go 17 Tryz.func80 ?_
 refine Sq (Rg [0] ?_)
 refine Vs 1 ?_
 refine Nss ?_
 refine Sq (Rg [0, 1, 2, 3] ?_)
 refine Vs 2 ?_
 obtain ⟨r21, hr22, h23⟩ := bind_some h
 refine CB CQ (C3 N bp0 x0 a0_0 n0_0 hb0_0 hs0_0 x1 hs0 _ hr22) ?_
 rintro _ F1 w24 _ hs25 le26 ⟨rfl, rfl⟩
 refine Vs 1 ?_
 refine Nt ?_
 refine Cd h23 (fun hb28 h29 => ?_) (fun hb28 h30 => ?_)
 ·refine Sq (Rg [0] ?_)
  refine Vs 1 ?_
  refine Nt ?_
  refine Rt ?_
  refine Aj ?_
  obtain rfl := Ab h29
  exact ReB [(.bool false)] hs25 le26 ⟨a0_0, n0_0, rfl, rfl, hb0_0, (Tq hs0_0 le26)⟩
 ·refine Sc ?_
  refine Ad ?_
  refine Sq (Rg [0, 1, 2, 3, 4, 5, 6, 7, 8] ?_)
  refine Vs 4 ?_
  refine Ld hs25.at0 ?_
  obtain ⟨r31, hr32, h33⟩ := bind_some h30
  obtain ⟨a34, n35, hb36, hs37, hrun38⟩ := LM (P := Tryz.prog) (T := Al) (lo := (some (.const (vi 1)))) (hi := none) (mx := none) (t := 98) (E := 97) (by_ := 32) (c := n0_0) (a := a0_0) (l := x0.l_) (r := r31) (il := 1) (ih := (x0.l_.length : Int)) (im := 0) (by kernel_rfl) (by kernel_rfl) hb0_0 (Tq hs0_0 le26) (fun h => by first | rfl | cases h) hr32
  refine V 14 98 (hrun38 (x := (.tmp 13)) rfl rfl rfl trivial) ?_
  refine Vs 2 ?_
  refine St0 #[(.slice a34 r31.length n35), (vi x0.open_)] hs25 (fun w39 hs40 => ?_)
  refine Nss (Rg [0] ?_)
  refine Vs 1 ?_
  refine Nt ?_
  refine Rt ?_
  obtain rfl := Ab h33
  exact ReB [(.bool true)] hs40 le26 ⟨a34, n35, rfl, rfl, hb36, hs37⟩
def Bx (N : Nat) (x0 : Ac) (x1 : (Ac -> Option (Ak ⊕ (Ac × Expr)))) (x2 : (List (TN × Int))) (r27 : (Ac × Expr)) : (Int × Int × List Expr × List An × Int) -> Option (Bv (Ak ⊕ (Ac × Expr)) (Int × Int × List Expr × List An × Int)) := fun s42 =>
 ((idx s42.2.2.2.1 0).bind fun x64 => ((bif (!(K0 x2 x64.text_)) then some (true, s42.2.2.2.1, s42.2.2.2.2) else ((idx s42.2.2.2.1 0).bind fun x95 => ((Aw N ({ l_ := s42.2.2.2.1, open_ := s42.2.2.2.2 } : Ac) x95.text_).bind fun r101 => some ((!r101.2), r101.1.l_, r101.1.open_)))).bind fun j81 => (bif j81.1 then some (.ret (.inr (({ l_ := j81.2.1, open_ := j81.2.2 } : Ac), ({ Op := s42.1, Value := s42.2.1, Kids := s42.2.2.1 } : Expr)))) else (((x1 ({ l_ := j81.2.1, open_ := j81.2.2 } : Ac)).bind fun r129 => sk r129 (fun b146 => some (.inl b146)) (fun r132 => some (.inr (r132.1.l_, r132.1.open_, (GB x2 x64.text_ 0), 0, [({ Op := s42.1, Value := s42.2.1, Kids := s42.2.2.1 } : Expr), r132.2])))).bind fun j119 => sk j119 (fun b158 => some (.ret (.inl b158))) (fun J128 => some (.next (J128.2.2.1, J128.2.2.2.1, J128.2.2.2.2, J128.1, J128.2.1)))))))
def BB (N : Nat) (x0 : Ac) (x1 : (Ac -> Option (Ak ⊕ (Ac × Expr)))) (x2 : (List (TN × Int))) : Option (Ak ⊕ (Ac × Expr)) :=
 ((x1 x0).bind fun r24 => sk r24 (fun b165 => some (.inl b165)) (fun r27 => ((Be (Bx N x0 x1 x2 r27) N (r27.2.Op, r27.2.Value, r27.2.Kids, r27.1.l_, r27.1.open_)).bind fun o => o.k (fun r => some r) (fun s52 => some (.inr (({ l_ := s52.2.2.2.1, open_ := s52.2.2.2.2 } : Ac), ({ Op := 0, Value := 0, Kids := ([] : List Expr) } : Expr)))))))
theorem Cb : Au Tryz.prog 184 := fun _ _ => by kernel_rfl
theorem Cn (N : Nat) {wb w0 : World} {Fb F0 : Mem} {Lf : Own} (hG : Dy F0) (bp0 : Nat) (x0 : Ac) (a0_0 : TO) (n0_0 : Nat) (hb0_0 : LC x0.l_.length n0_0) (hs0_0 : SlA Al F0 a0_0 x0.l_) (gx1 : FuncId) (fx1 kx1 : List Value) (x1 : (Ac -> Option (Ak ⊕ (Ac × Expr)))) (hox1 : Au Tryz.prog gx1) (hpx1 : SA bp0 gx1 fx1 kx1 x1) (x2 : (List (TN × Int))) (o2_0 : Option Nat) (hm2_0 : MpA Fe Do F0 o2_0 x2) (hs0 : HS wb Fb w0 F0 ((sb bp0 (Ah x0 a0_0 n0_0) 100) :: Lf)) (r : (Ak ⊕ (Ac × Expr))) (h : BB N x0 x1 x2 = some r) :
  Calls Tryz.prog 184 ([(pt bp0 0), (.func (.func gx1) fx1.toArray kx1.toArray), (.map o2_0)] : List Value).toArray w0 (Cj wb Fb F0 Lf r (fun b => (.iface 158 (.agg (A3 b)))) fun a F' v L' => ∃ (aq0_0 : TO) (nq0_0 : Nat) (aq1_2 : TO) (nq1_2 : Nat), v = (.agg (Ai a.2 aq1_2 nq1_2)) /\ L' = (sb bp0 (Ah a.1 aq0_0 nq0_0) 100) :: Lf /\ LC a.1.l_.length nq0_0 /\ SlA Al F' aq0_0 a.1.l_ /\ LC a.2.Kids.length nq1_2 /\ SlA As F' aq1_2 a.2.Kids) := by
 refine Go 45 Tryz.func184 ?_
 refine Sq (Rg [0] ?_)
 refine Al' 33 #[(vi 0), (vi 0), (.slice none ([] : List Expr).length 0)] hs0 (fun b21 w22 hs23 => ?_)
 refine Nss (Rg [0, 1, 2, 3] ?_)
 refine Vs 1 ?_
 obtain ⟨r24, hr25, h26⟩ := bind_some h
 refine CPq hox1 (hpx1 hG x0 a0_0 n0_0 hb0_0 hs0_0 hs23.pk1 _ hr25) ?_ ?_
 ·rintro r27 _ F1 w29 _ rfl hs30 le31 ⟨ar27_0_0, nr27_0_0, ar27_1_2, nr27_1_2, rfl, rfl, hbr27_0_0, hsr27_0_0, hbr27_1_2, hsr27_1_2⟩
  have h33 := BM h26
  refine Al' 33 #[(vi 0), (vi 0), (.slice none ([] : List Expr).length 0)] hs30 (fun b34 w35 hs36 => ?_)
  refine St0 (Ai r27.2 ar27_1_2 nr27_1_2) hs36 (fun w37 hs38 => ?_)
  refine Nt ?_
  obtain ⟨o39, ho40, h41⟩ := bind_some h33
  refine Tu (fun f w => ∃ (s52 : (Int × Int × List Expr × List An × Int)) (F3 : Mem) (as52_3 : TO) (ns52_3 : Nat), o39 = .done s52 /\ HS wb Fb w F3 ((sb bp0 #[(.slice as52_3 s52.2.2.2.1.length ns52_3), (vi s52.2.2.2.2)] 100) :: (sb b21 #[(vi 0), (vi 0), (.slice none ([] : List Expr).length 0)] 33) :: Lf) /\ Tn F1 F3 /\ FI f [] [(6, (pt b21 0))] /\ LC s52.2.2.2.1.length ns52_3 /\ SlA Al F3 as52_3 s52.2.2.2.1) ?_ ?_
  ·refine Bk ?_
   refine Tm (by kernel_rfl) (fun m f w => ∃ (s42 : (Int × Int × List Expr × List An × Int)) (F2 : Mem) (as42_2 : TO) (ns42_2 : Nat) (as42_3 : TO) (ns42_3 : Nat), Be (Bx N x0 x1 x2 r27) m s42 = some o39 /\ HS wb Fb w F2 ((sb b34 #[(vi s42.1), (vi s42.2.1), (.slice as42_2 s42.2.2.1.length ns42_2)] 33) :: (sb bp0 #[(.slice as42_3 s42.2.2.2.1.length ns42_3), (vi s42.2.2.2.2)] 100) :: (sb b21 #[(vi 0), (vi 0), (.slice none ([] : List Expr).length 0)] 33) :: Lf) /\ Tn F1 F2 /\ FI f [] [(0, (pt bp0 0)), (1, (.func (.func gx1) fx1.toArray kx1.toArray)), (2, (.map o2_0)), (6, (pt b21 0)), (7, (pt b34 0))] /\ LC s42.2.2.1.length ns42_2 /\ SlA As F2 as42_2 s42.2.2.1 /\ LC s42.2.2.2.1.length ns42_3 /\ SlA Al F2 as42_3 s42.2.2.2.1) N ⟨(r27.2.Op, r27.2.Value, r27.2.Kids, r27.1.l_, r27.1.open_), F1, ar27_1_2, nr27_1_2, ar27_0_0, nr27_0_0, ho40, hs38, (To _), fI, hbr27_1_2, hsr27_1_2, hbr27_0_0, hsr27_0_0⟩ ?_
   rintro m58 f w43 ⟨s42, F2, as42_2, ns42_2, as42_3, ns42_3, hit59, hs44, le45, ⟨_, rfl⟩, hbs42_2, hss42_2, hbs42_3, hss42_3⟩
   obtain ⟨m60, fl61, rfl, hb62, hnx63⟩ := A5 hit59
   refine Bk ?_
   refine Sq (Rg [0, 1, 2, 3, 4, 5, 6, 7, 8, 9, 10, 11, 12, 13] ?_)
   refine Vs 4 ?_
   refine Ld hs44.at1 ?_
   obtain ⟨x64, hx65, h67⟩ := bind_some hb62
   obtain ⟨hi66, hx65'⟩ := Az hx65
   obtain ⟨b68, o69, C70, E71, fz72, rfl, hF74, hE75⟩ := Tx hss42_3 hx65'
   have hc77 := hE75 _ _ hx65'
   refine Ix hi66 ?_
   refine Vs 1 ?_
   refine Lx 2 (hs44.pers _ _ hF74) hc77 ?_
   refine V 21 213 (OC (mt := 198) (k := 9) (vt := 3) (m := (.tmp 13)) (x := (.tmp 20)) (kv := (.string ⟨(x64.text_).toArray⟩)) (kx := x64.text_) (z := (vi 0)) (zx := 0) (K := Fe) (T := Do) kl9 rfl rfl ⟨_, rfl, rfl⟩ (by kernel_rfl) (by kernel_rfl) ⟨_, rfl, rfl⟩ (MpA.mpw hs44.pers (MpA.mono hm2_0 (le31.trans le45))) (fun h => by obtain ⟨_, rfl, rfl⟩ := h; rfl)) ?_
   refine Vs 5 ?_
   refine Nss ?_
   refine Sq (Rg [0, 1, 2, 3, 4, 5, 6, 7, 8, 9, 10, 11, 12, 13] ?_)
   obtain ⟨j81, hj90, h91⟩ := bind_some h67
   refine Tt (fun f w => ∃ (F4 : Mem) (aj81_1 : TO) (nj81_1 : Nat), HS wb Fb w F4 ((sb b34 #[(vi s42.1), (vi s42.2.1), (.slice as42_2 s42.2.2.1.length ns42_2)] 33) :: (sb bp0 #[(.slice aj81_1 j81.2.1.length nj81_1), (vi j81.2.2)] 100) :: (sb b21 #[(vi 0), (vi 0), (.slice none ([] : List Expr).length 0)] 33) :: Lf) /\ Tn F2 F4 /\ FI f [] [(0, (pt bp0 0)), (1, (.func (.func gx1) fx1.toArray kx1.toArray)), (2, (.map o2_0)), (6, (pt b21 0)), (7, (pt b34 0)), (8, (vi (GB x2 x64.text_ 0))), (37, (.bool j81.1))] /\ LC j81.2.1.length nj81_1 /\ SlA Al F4 aj81_1 j81.2.1) ?_ ?_
   ·refine Vs 3 ?_
    refine Sp hj90 (fun hb92 h93 => ?_) (fun hb92 h94 => ?_)
    ·refine Ss hb92 10 ?_
     refine Pk1 hb92 ?_
     obtain rfl := Ab h93
     exact Tj ⟨rfl, F2, (some ⟨b68, o69, none⟩), ns42_3, hs44, (To _), fI, hbs42_3, hss42_3⟩
    ·refine Vgs hb92 4 ?_
     refine Lg hb92 hs44.at1 ?_
     obtain ⟨x95, hx96, h98⟩ := bind_some h94
     obtain ⟨hi97, hx96'⟩ := Az hx96
     have hc100 := hE75 _ _ hx96'
     refine Ixg hb92 hi97 ?_
     refine Vgs hb92 1 ?_
     refine Lxg hb92 2 (hs44.pers _ _ hF74) hc100 ?_
     obtain ⟨r101, hr102, h103⟩ := bind_some h98
     refine TK (dst := (some 35)) (ty := 4) (g := (some (2, false))) (by kernel_rfl) (FG (d := 26) (by kernel_rfl) rfl hb92) (f0 := (.func 80)) (aos := #[(.tmp 27), (.tmp 34)]) (ats := #[95, 9]) (fid := 80) (first := #[]) (cap := #[]) (args := [(pt bp0 0), (.string ⟨(x95.text_).toArray⟩)]) rfl AP rfl (AV N bp0 (({ l_ := s42.2.2.2.1, open_ := s42.2.2.2.2 } : Ac)) (some ⟨b68, o69, none⟩) ns42_3 hbs42_3 hss42_3 x95.text_ hs44.pk2.pk1.pk2 _ hr102) ?_
     rintro _ F5 w104 _ hs105 le106 ⟨ar101_0_0, nr101_0_0, rfl, rfl, hbr101_0_0, hsr101_0_0⟩
     refine Vgs hb92 1 ?_
     refine Pk0 hb92 ?_
     obtain rfl := Ab h103
     exact Tj ⟨rfl, F5, ar101_0_0, nr101_0_0, hs105.pk2.pk1.pk2, le106, fI, hbr101_0_0, hsr101_0_0⟩
   ·rintro f w78 ⟨F4, aj81_1, nj81_1, hs79, le80, ⟨_, rfl⟩, hbj81_1, hsj81_1⟩
    refine Ad ?_
    refine Cd h91 (fun hb108 h109 => ?_) (fun hb108 h110 => ?_)
    ·refine Sq (Rg [0, 1] ?_)
     refine Ld hs79.at0 ?_
     refine St2 #[(vi s42.1), (vi s42.2.1), (.slice as42_2 s42.2.2.1.length ns42_2)] hs79 (fun w111 hs112 => ?_)
     refine Nt ?_
     refine Rt ?_
     refine Aj ?_
     refine Ao ?_
     refine Aj ?_
     refine Ao ?_
     have hret := B9 h109 hnx63
     subst hret
     refine .inr ?_
     obtain rfl := Ab h41
     exact ⟨rfl, (.agg #[(vi s42.1), (vi s42.2.1), (.slice as42_2 s42.2.2.1.length ns42_2)]), AE (l := [.cell 6 33]) (by kernel_rfl) (vs := [(.agg #[(vi s42.1), (vi s42.2.1), (.slice as42_2 s42.2.2.1.length ns42_2)])]) ⟨b21, 0, rfl, Am (t := 33) (g := true) (s := 3) (by kernel_rfl) hs112.at2 rfl (by decide), trivial⟩, .inl ⟨_, F4, _, _, rfl, rfl, hs112.dr0.dr1, ((le31.trans le45).trans le80), ⟨aj81_1, nj81_1, as42_2, ns42_2, rfl, rfl, hbj81_1, hsj81_1, hbs42_2, (Tq hss42_2 le80)⟩⟩⟩
    ·refine Sc ?_
     refine Ad ?_
     obtain ⟨j119, hj126, h127⟩ := bind_some h110
     refine RDP 6 7 [(sb b21 #[(vi 0), (vi 0), (.slice none ([] : List Expr).length 0)] 33)] [(sb b34 #[(vi s42.1), (vi s42.2.1), (.slice as42_2 s42.2.2.1.length ns42_2)] 33)] hs79 (fun c d w => d = [] /\ ∃ (b : Ak) (Fp : Mem), j119 = .inl b /\ c = [{ v := (.iface 158 (.agg (A3 b))), recovered := false }] /\ HS wb Fb w Fp Lf /\ Tn F4 Fp) (fun f w => ∃ (J128 : (List An × Int × Int × Int × List Expr)), j119 = .inr J128 /\ ∃ (F6 : Mem) (aj119_0 : TO) (nj119_0 : Nat) (aj119_4 : TO) (nj119_4 : Nat) (ej119_4 : Option Nat × Obj), HS wb Fb w F6 (ej119_4 :: (sb b34 #[(vi J128.2.2.1), (vi J128.2.2.2.1), (.slice aj119_4 J128.2.2.2.2.length nj119_4)] 33) :: (sb bp0 #[(.slice aj119_0 J128.1.length nj119_0), (vi J128.2.1)] 100) :: (sb b21 #[(vi 0), (vi 0), (.slice none ([] : List Expr).length 0)] 33) :: Lf) /\ Tn F4 F6 /\ FI f [] [(0, (pt bp0 0)), (1, (.func (.func gx1) fx1.toArray kx1.toArray)), (2, (.map o2_0)), (6, (pt b21 0)), (7, (pt b34 0))] /\ LC J128.1.length nj119_0 /\ SlA Al F6 aj119_0 J128.1 /\ Av As 33 F6 aj119_4 nj119_4 J128.2.2.2.2 ej119_4) (fun wd113 hw114 => ?_) ?_ ?_
     ·refine Dv [0] ?_
      refine Dl 1 (fun _ hq => ((hq.2 rfl).2 0 _ _ rfl)) ?_
      refine Dv [2] ?_
      refine D1 3 ?_
      obtain ⟨r129, hr130, h131⟩ := bind_some hj126
      refine AB.callBP (l' := [true, true, true, true, false, false, false]) (zd := false) (by kernel_rfl) (by kernel_rfl) (Lf := (sb b34 #[(vi s42.1), (vi s42.2.1), (.slice as42_2 s42.2.2.1.length ns42_2)] 33) :: (sb b21 #[(vi 0), (vi 0), (.slice none ([] : List Expr).length 0)] 33) :: Lf) (dst := (some 42)) (ty := 33) (g := none) (by kernel_rfl) rfl (f0 := (.tmp 41)) (aos := #[]) (ats := #[]) (fid := gx1) (first := fx1.toArray) (cap := kx1.toArray) (args := (fx1 ++ (([] : List Value) ++ kx1))) rfl hox1 (Qc (l := []) (fi := fx1) (k := kx1) rfl) (hpx1 (hG.mono ((le31.trans le45).trans le80)) (({ l_ := j81.2.1, open_ := j81.2.2 } : Ac)) aj81_1 nj81_1 hbj81_1 hsj81_1 hw114.pk2.pk1.pk2 _ hr130) ?_ ?_
      ·rintro r132 _ F7 w134 _ rfl hs135 le136 ⟨ar132_0_0, nr132_0_0, ar132_1_2, nr132_1_2, rfl, rfl, hbr132_0_0, hsr132_0_0, hbr132_1_2, hsr132_1_2⟩
       have h138 := BM h131
       refine ⟨Bg hs135 le136 (by simp) (fun _ => by simp), ?_⟩
       refine D1 4 ?_
       refine DBs 33 [(vi s42.1), (vi s42.2.1), (.slice as42_2 s42.2.2.1.length ns42_2), (vi r132.2.Op), (vi r132.2.Value), (.slice ar132_1_2 r132.2.Kids.length nr132_1_2)] hs135 le136 (fun b139 w140 hs141 => ?_)
       have hr143 : Av As 33 F7 (some ⟨b139, 0, none⟩) 2 [({ Op := s42.1, Value := s42.2.1, Kids := s42.2.2.1 } : Expr), r132.2] (some b139, .cells ([(vi s42.1), (vi s42.2.1), (.slice as42_2 s42.2.2.1.length ns42_2), (vi r132.2.Op), (vi r132.2.Value), (.slice ar132_1_2 r132.2.Kids.length nr132_1_2)] : List Value).toArray 33 (0, 0)) := TH ⟨(Ba ⟨as42_2, ns42_2, rfl, hbs42_2, (Tq hss42_2 (le80.trans le136))⟩), ⟨(Ba ⟨ar132_1_2, nr132_1_2, rfl, hbr132_1_2, hsr132_1_2⟩), rfl⟩⟩ (by simp)
       refine Dv [5] ?_
       refine D1 6 ?_
       refine Te #[(vi (GB x2 x64.text_ 0)), (vi 0), (.slice (some ⟨b139, 0, none⟩) [({ Op := s42.1, Value := s42.2.1, Kids := s42.2.2.1 } : Expr), r132.2].length 2)] hs141 le136 (fun w144 hs145 => ?_)
       obtain rfl := Ab h138
       exact TE (by kernel_rfl) ⟨_, rfl, F7, ar132_0_0, nr132_0_0, (some ⟨b139, 0, none⟩), 2, (some b139, .cells ([(vi s42.1), (vi s42.2.1), (.slice as42_2 s42.2.2.1.length ns42_2), (vi r132.2.Op), (vi r132.2.Value), (.slice ar132_1_2 r132.2.Kids.length nr132_1_2)] : List Value).toArray 33 (0, 0)), hs145.pk3.pk2.pk3.pk3, le136, fI, hbr132_0_0, hsr132_0_0, hr143⟩
      ·rintro b146 F8 w147 rfl hs148 le149
       have h150 := Bo h131
       obtain rfl := Ab h150
       exact ⟨rfl, _, _, rfl, rfl, hs148.dr0.dr0, le149⟩
     ·rintro f w115 ⟨J128, rfl, F6, aj119_0, nj119_0, aj119_4, nj119_4, ej119_4, hs116, le117, ⟨_, rfl⟩, hbj119_0, hsj119_0, hrj119_4⟩
      have h152 := BM h127
      refine AA ?_
      have hb156 := TF hrj119_4
      obtain ⟨F9, hs153, le154, hs155⟩ := hs116.fr0 hrj119_4
      have hn157 := AW h152 hnx63
      exact ⟨m60, Nat.lt_succ_self _, (J128.2.2.1, J128.2.2.2.1, J128.2.2.2.2, J128.1, J128.2.1), F9, aj119_4, nj119_4, aj119_0, nj119_0, hn157, hs153, (((le45.trans le80).trans le117).trans le154), fI, hb156, hs155, hbj119_0, (Tq hsj119_0 le154)⟩
     ·rintro c f w159 ⟨hd162, b158, F10, rfl, rfl, hs160, le161⟩
      have h163 := Bo h127
      refine Bf ?_
      refine Ap ?_
      refine Bf ?_
      have hret := B9 h163 hnx63
      subst hret
      refine .inr ?_
      obtain rfl := Ab h41
      exact ⟨hd162, .inr ⟨_, F10, rfl, rfl, hs160, (((le31.trans le45).trans le80).trans le161)⟩⟩
  ·rintro f w53 ⟨s52, F3, as52_3, ns52_3, rfl, hs54, le55, ⟨_, rfl⟩, hbs52_3, hss52_3⟩
   have h164 := BT h41
   obtain rfl := Ab h164
   exact ⟨rfl, (.agg #[(vi 0), (vi 0), (.slice none ([] : List Expr).length 0)]), AE (l := [.cell 6 33]) (by kernel_rfl) (vs := [(.agg #[(vi 0), (vi 0), (.slice none ([] : List Expr).length 0)])]) ⟨b21, 0, rfl, Am (t := 33) (g := true) (s := 3) (by kernel_rfl) hs54.at1 rfl (by decide), trivial⟩, .inl ⟨_, F3, _, _, rfl, rfl, hs54.dr1, (le31.trans le55), ⟨as52_3, ns52_3, none, 0, rfl, rfl, hbs52_3, hss52_3, Tr, (.inl rfl)⟩⟩⟩
 ·rintro b165 F11 w166 rfl hs167 le168
  have h169 := Bo h26
  refine Ap ?_
  obtain rfl := Ab h169
  exact CI hs167.dr0 le168
def NF (sR145 : Ac -> Option (Ak ⊕ (Ac × Expr))) : Prop := ∀ {wb w0 : World} {Fb F0 : Mem} {Lf : Own} (hG : Dy F0) (bp0 : Nat) (x0 : Ac) (a0_0 : TO) (n0_0 : Nat) (hb0_0 : LC x0.l_.length n0_0) (hs0_0 : SlA Al F0 a0_0 x0.l_) (hs0 : HS wb Fb w0 F0 ((some bp0, (.cells #[(.slice a0_0 x0.l_.length n0_0), (.int .i64 x0.open_)] 100 (0, 0))) :: Lf)) (r : (Ak ⊕ (Ac × Expr))), sR145 x0 = some r -> Calls Tryz.prog 145 ([(.pointer (some ⟨bp0, 0, none⟩))] : List Value).toArray w0 (Cj wb Fb F0 Lf r (fun b => (.iface 158 (.agg #[(.int .i64 b.e_), (.int .i64 b.at_)]))) fun a F' v L' => ∃ (aq0_0 : TO) (nq0_0 : Nat) (aq1_2 : TO) (nq1_2 : Nat), v = (.agg #[(.int .i64 a.2.Op), (.int .i64 a.2.Value), (.slice aq1_2 a.2.Kids.length nq1_2)]) /\ L' = (some bp0, (.cells #[(.slice aq0_0 a.1.l_.length nq0_0), (.int .i64 a.1.open_)] 100 (0, 0))) :: Lf /\ LC a.1.l_.length nq0_0 /\ SlA Al F' aq0_0 a.1.l_ /\ LC a.2.Kids.length nq1_2 /\ SlA As F' aq1_2 a.2.Kids)
theorem Ci : Au Tryz.prog 145 := fun _ _ => by kernel_rfl
def NA (sR185 : Ac -> Option (Ak ⊕ (Ac × Expr))) : Prop := ∀ {wb w0 : World} {Fb F0 : Mem} {Lf : Own} (hG : Dy F0) (bp0 : Nat) (x0 : Ac) (a0_0 : TO) (n0_0 : Nat) (hb0_0 : LC x0.l_.length n0_0) (hs0_0 : SlA Al F0 a0_0 x0.l_) (hs0 : HS wb Fb w0 F0 ((some bp0, (.cells #[(.slice a0_0 x0.l_.length n0_0), (.int .i64 x0.open_)] 100 (0, 0))) :: Lf)) (r : (Ak ⊕ (Ac × Expr))), sR185 x0 = some r -> Calls Tryz.prog 185 ([(.pointer (some ⟨bp0, 0, none⟩))] : List Value).toArray w0 (Cj wb Fb F0 Lf r (fun b => (.iface 158 (.agg #[(.int .i64 b.e_), (.int .i64 b.at_)]))) fun a F' v L' => ∃ (aq0_0 : TO) (nq0_0 : Nat) (aq1_2 : TO) (nq1_2 : Nat), v = (.agg #[(.int .i64 a.2.Op), (.int .i64 a.2.Value), (.slice aq1_2 a.2.Kids.length nq1_2)]) /\ L' = (some bp0, (.cells #[(.slice aq0_0 a.1.l_.length nq0_0), (.int .i64 a.1.open_)] 100 (0, 0))) :: Lf /\ LC a.1.l_.length nq0_0 /\ SlA Al F' aq0_0 a.1.l_ /\ LC a.2.Kids.length nq1_2 /\ SlA As F' aq1_2 a.2.Kids)
theorem HD : Au Tryz.prog 185 := fun _ _ => by kernel_rfl
def Ln (sR212 : Ac -> Option (Ak ⊕ (Ac × Expr))) : Prop := ∀ {wb w0 : World} {Fb F0 : Mem} {Lf : Own} (hG : Dy F0) (bp0 : Nat) (x0 : Ac) (a0_0 : TO) (n0_0 : Nat) (hb0_0 : LC x0.l_.length n0_0) (hs0_0 : SlA Al F0 a0_0 x0.l_) (hs0 : HS wb Fb w0 F0 ((some bp0, (.cells #[(.slice a0_0 x0.l_.length n0_0), (.int .i64 x0.open_)] 100 (0, 0))) :: Lf)) (r : (Ak ⊕ (Ac × Expr))), sR212 x0 = some r -> Calls Tryz.prog 212 ([(.pointer (some ⟨bp0, 0, none⟩))] : List Value).toArray w0 (Cj wb Fb F0 Lf r (fun b => (.iface 158 (.agg #[(.int .i64 b.e_), (.int .i64 b.at_)]))) fun a F' v L' => ∃ (aq0_0 : TO) (nq0_0 : Nat) (aq1_2 : TO) (nq1_2 : Nat), v = (.agg #[(.int .i64 a.2.Op), (.int .i64 a.2.Value), (.slice aq1_2 a.2.Kids.length nq1_2)]) /\ L' = (some bp0, (.cells #[(.slice aq0_0 a.1.l_.length nq0_0), (.int .i64 a.1.open_)] 100 (0, 0))) :: Lf /\ LC a.1.l_.length nq0_0 /\ SlA Al F' aq0_0 a.1.l_ /\ LC a.2.Kids.length nq1_2 /\ SlA As F' aq1_2 a.2.Kids)
theorem EO : Au Tryz.prog 212 := fun _ _ => by kernel_rfl
def Nx (sR226 : Ac -> Option (Ak ⊕ (Ac × Expr))) : Prop := ∀ {wb w0 : World} {Fb F0 : Mem} {Lf : Own} (hG : Dy F0) (bp0 : Nat) (x0 : Ac) (a0_0 : TO) (n0_0 : Nat) (hb0_0 : LC x0.l_.length n0_0) (hs0_0 : SlA Al F0 a0_0 x0.l_) (hs0 : HS wb Fb w0 F0 ((some bp0, (.cells #[(.slice a0_0 x0.l_.length n0_0), (.int .i64 x0.open_)] 100 (0, 0))) :: Lf)) (r : (Ak ⊕ (Ac × Expr))), sR226 x0 = some r -> Calls Tryz.prog 226 ([(.pointer (some ⟨bp0, 0, none⟩))] : List Value).toArray w0 (Cj wb Fb F0 Lf r (fun b => (.iface 158 (.agg #[(.int .i64 b.e_), (.int .i64 b.at_)]))) fun a F' v L' => ∃ (aq0_0 : TO) (nq0_0 : Nat) (aq1_2 : TO) (nq1_2 : Nat), v = (.agg #[(.int .i64 a.2.Op), (.int .i64 a.2.Value), (.slice aq1_2 a.2.Kids.length nq1_2)]) /\ L' = (some bp0, (.cells #[(.slice aq0_0 a.1.l_.length nq0_0), (.int .i64 a.1.open_)] 100 (0, 0))) :: Lf /\ LC a.1.l_.length nq0_0 /\ SlA Al F' aq0_0 a.1.l_ /\ LC a.2.Kids.length nq1_2 /\ SlA As F' aq1_2 a.2.Kids)
theorem Hz : Au Tryz.prog 226 := fun _ _ => by kernel_rfl
def Nv (sR233 : Ac -> Option (Ak ⊕ (Ac × Expr))) : Prop := ∀ {wb w0 : World} {Fb F0 : Mem} {Lf : Own} (hG : Dy F0) (bp0 : Nat) (x0 : Ac) (a0_0 : TO) (n0_0 : Nat) (hb0_0 : LC x0.l_.length n0_0) (hs0_0 : SlA Al F0 a0_0 x0.l_) (hs0 : HS wb Fb w0 F0 ((some bp0, (.cells #[(.slice a0_0 x0.l_.length n0_0), (.int .i64 x0.open_)] 100 (0, 0))) :: Lf)) (r : (Ak ⊕ (Ac × Expr))), sR233 x0 = some r -> Calls Tryz.prog 233 ([(.pointer (some ⟨bp0, 0, none⟩))] : List Value).toArray w0 (Cj wb Fb F0 Lf r (fun b => (.iface 158 (.agg #[(.int .i64 b.e_), (.int .i64 b.at_)]))) fun a F' v L' => ∃ (aq0_0 : TO) (nq0_0 : Nat) (aq1_2 : TO) (nq1_2 : Nat), v = (.agg #[(.int .i64 a.2.Op), (.int .i64 a.2.Value), (.slice aq1_2 a.2.Kids.length nq1_2)]) /\ L' = (some bp0, (.cells #[(.slice aq0_0 a.1.l_.length nq0_0), (.int .i64 a.1.open_)] 100 (0, 0))) :: Lf /\ LC a.1.l_.length nq0_0 /\ SlA Al F' aq0_0 a.1.l_ /\ LC a.2.Kids.length nq1_2 /\ SlA As F' aq1_2 a.2.Kids)
theorem Cu : Au Tryz.prog 233 := fun _ _ => by kernel_rfl
def Ns (sR239 : Ac -> Option (Ak ⊕ (Ac × Expr))) : Prop := ∀ {wb w0 : World} {Fb F0 : Mem} {Lf : Own} (hG : Dy F0) (bp0 : Nat) (x0 : Ac) (a0_0 : TO) (n0_0 : Nat) (hb0_0 : LC x0.l_.length n0_0) (hs0_0 : SlA Al F0 a0_0 x0.l_) (hs0 : HS wb Fb w0 F0 ((some bp0, (.cells #[(.slice a0_0 x0.l_.length n0_0), (.int .i64 x0.open_)] 100 (0, 0))) :: Lf)) (r : (Ak ⊕ (Ac × Expr))), sR239 x0 = some r -> Calls Tryz.prog 239 ([(.pointer (some ⟨bp0, 0, none⟩))] : List Value).toArray w0 (Cj wb Fb F0 Lf r (fun b => (.iface 158 (.agg #[(.int .i64 b.e_), (.int .i64 b.at_)]))) fun a F' v L' => ∃ (aq0_0 : TO) (nq0_0 : Nat) (aq1_2 : TO) (nq1_2 : Nat), v = (.agg #[(.int .i64 a.2.Op), (.int .i64 a.2.Value), (.slice aq1_2 a.2.Kids.length nq1_2)]) /\ L' = (some bp0, (.cells #[(.slice aq0_0 a.1.l_.length nq0_0), (.int .i64 a.1.open_)] 100 (0, 0))) :: Lf /\ LC a.1.l_.length nq0_0 /\ SlA Al F' aq0_0 a.1.l_ /\ LC a.2.Kids.length nq1_2 /\ SlA As F' aq1_2 a.2.Kids)
theorem HA : Au Tryz.prog 239 := fun _ _ => by kernel_rfl
def Nq (sR243 : Ac -> Option (Ak ⊕ (Ac × Expr))) : Prop := ∀ {wb w0 : World} {Fb F0 : Mem} {Lf : Own} (hG : Dy F0) (bp0 : Nat) (x0 : Ac) (a0_0 : TO) (n0_0 : Nat) (hb0_0 : LC x0.l_.length n0_0) (hs0_0 : SlA Al F0 a0_0 x0.l_) (hs0 : HS wb Fb w0 F0 ((some bp0, (.cells #[(.slice a0_0 x0.l_.length n0_0), (.int .i64 x0.open_)] 100 (0, 0))) :: Lf)) (r : (Ak ⊕ (Ac × Expr))), sR243 x0 = some r -> Calls Tryz.prog 243 ([(.pointer (some ⟨bp0, 0, none⟩))] : List Value).toArray w0 (Cj wb Fb F0 Lf r (fun b => (.iface 158 (.agg #[(.int .i64 b.e_), (.int .i64 b.at_)]))) fun a F' v L' => ∃ (aq0_0 : TO) (nq0_0 : Nat) (aq1_2 : TO) (nq1_2 : Nat), v = (.agg #[(.int .i64 a.2.Op), (.int .i64 a.2.Value), (.slice aq1_2 a.2.Kids.length nq1_2)]) /\ L' = (some bp0, (.cells #[(.slice aq0_0 a.1.l_.length nq0_0), (.int .i64 a.1.open_)] 100 (0, 0))) :: Lf /\ LC a.1.l_.length nq0_0 /\ SlA Al F' aq0_0 a.1.l_ /\ LC a.2.Kids.length nq1_2 /\ SlA As F' aq1_2 a.2.Kids)
theorem HC : Au Tryz.prog 243 := fun _ _ => by kernel_rfl
def E5 (N : Nat) (sR185 : Ac -> Option (Ak ⊕ (Ac × Expr))) (x0 : Ac) : Option (Ak ⊕ (Ac × Expr)) :=
 ((BB N x0 (fun y => sR185 y) (FE ([] : List (TN × Int)) ([111, 114] : TN) 5)).bind fun r37 => sk r37 (fun b49 => some (.inl b49)) (fun r40 => some (.inr (r40.1, r40.2))))
theorem HU (N : Nat) (sR185 : Ac -> Option (Ak ⊕ (Ac × Expr))) (hsR185 : NA sR185) {wb w0 : World} {Fb F0 : Mem} {Lf : Own} (hG : Dy F0) (bp0 : Nat) (x0 : Ac) (a0_0 : TO) (n0_0 : Nat) (hb0_0 : LC x0.l_.length n0_0) (hs0_0 : SlA Al F0 a0_0 x0.l_) (hs0 : HS wb Fb w0 F0 ((sb bp0 (Ah x0 a0_0 n0_0) 100) :: Lf)) (r : (Ak ⊕ (Ac × Expr))) (h : E5 N sR185 x0 = some r) :
  Calls Tryz.prog 145 ([(pt bp0 0)] : List Value).toArray w0 (Cj wb Fb F0 Lf r (fun b => (.iface 158 (.agg (A3 b)))) fun a F' v L' => ∃ (aq0_0 : TO) (nq0_0 : Nat) (aq1_2 : TO) (nq1_2 : Nat), v = (.agg (Ai a.2 aq1_2 nq1_2)) /\ L' = (sb bp0 (Ah a.1 aq0_0 nq0_0) 100) :: Lf /\ LC a.1.l_.length nq0_0 /\ SlA Al F' aq0_0 a.1.l_ /\ LC a.2.Kids.length nq1_2 /\ SlA As F' aq1_2 a.2.Kids) := by
 refine Go 9 Tryz.func145 ?_
 refine Sq (Rg [0] ?_)
 refine Al' 33 #[(vi 0), (vi 0), (.slice none ([] : List Expr).length 0)] hs0 (fun b21 w22 hs23 => ?_)
 refine Nss (Rg [0, 1, 2, 3, 4, 5, 6, 7] ?_)
 refine Vs 3 ?_
 refine RWP.makeMap (t := 198) (K := Fe) (T := Do) (dst := (some 6)) (ty := 198) (g := none) (by kernel_rfl) rfl hs23 (fun b25 e26 w27 (hs28 : HS wb Fb w27 F0 (e26 :: (sb b21 #[(vi 0), (vi 0), (.slice none ([] : List Expr).length 0)] 33) :: (sb bp0 (Ah x0 a0_0 n0_0) 100) :: Lf)) hr29 => ?_)
 refine RWP.mapIns kl9 (ty := 0) (g := none) (mt := 198) (k := 9) (vt := 3) (m := (.tmp 6)) (x := (.const (.string ⟨([111, 114] : TN).toArray⟩))) (y := (.const (vi 5))) (b := b25) (kx := ([111, 114] : TN)) (u := 5) (kv := (.string ⟨(([111, 114] : TN)).toArray⟩)) (v := (vi 5)) (K := Fe) (T := Do) (by kernel_rfl) rfl rfl rfl rfl ⟨_, rfl, rfl⟩ ⟨_, rfl, rfl⟩ (by kernel_rfl) hs28 (q := 0) rfl hr29 (fun e30 w31 (hs32 : HS wb Fb w31 F0 (e30 :: (sb b21 #[(vi 0), (vi 0), (.slice none ([] : List Expr).length 0)] 33) :: (sb bp0 (Ah x0 a0_0 n0_0) 100) :: Lf)) hr33 => ?_)
 refine Vs 1 ?_
 obtain ⟨F1, hs34, le35, hm36⟩ : ∃ Fq, HS wb Fb w31 Fq ((sb b21 #[(vi 0), (vi 0), (.slice none ([] : List Expr).length 0)] 33) :: (sb bp0 (Ah x0 a0_0 n0_0) 100) :: Lf) /\ Tn F0 Fq /\ MpA Fe Do Fq (some b25) (FE ([] : List (TN × Int)) ([111, 114] : TN) 5) := HS.freezeMap hs32 (i := 0) rfl hr33
 obtain ⟨r37, hr38, h39⟩ := bind_some h
 refine CP Cb (Cn N (hG.mono le35) bp0 x0 a0_0 n0_0 hb0_0 (Tq hs0_0 le35) 185 [(pt bp0 0)] ([] : List Value) (fun y => sR185 y) HD (fun {_ _ _ _ _} hGe y ay_0 ny_0 hby_0 hsy_0 hs r h => hsR185 hGe bp0 y ay_0 ny_0 hby_0 hsy_0 hs r h) ((FE ([] : List (TN × Int)) ([111, 114] : TN) 5)) (some b25) hm36 hs34.pk1 _ hr38) ?_ ?_
 ·rintro r40 _ F2 w42 _ rfl hs43 le44 ⟨ar40_0_0, nr40_0_0, ar40_1_2, nr40_1_2, rfl, rfl, hbr40_0_0, hsr40_0_0, hbr40_1_2, hsr40_1_2⟩
  have h46 := BM h39
  refine St1 (Ai r40.2 ar40_1_2 nr40_1_2) hs43 (fun w47 hs48 => ?_)
  refine Nt ?_
  refine Rt ?_
  obtain rfl := Ab h46
  exact ⟨rfl, (.agg (Ai r40.2 ar40_1_2 nr40_1_2)), AE (l := [.cell 2 33]) (by kernel_rfl) (vs := [(.agg (Ai r40.2 ar40_1_2 nr40_1_2))]) ⟨b21, 0, rfl, Am (t := 33) (g := true) (s := 3) (by kernel_rfl) hs48.at1 rfl (by decide), trivial⟩, .inl ⟨_, F2, _, _, rfl, rfl, hs48.dr1, (le35.trans le44), ⟨ar40_0_0, nr40_0_0, ar40_1_2, nr40_1_2, rfl, rfl, hbr40_0_0, hsr40_0_0, hbr40_1_2, hsr40_1_2⟩⟩⟩
 ·rintro b49 F3 w50 rfl hs51 le52
  have h53 := Bo h39
  refine Ap ?_
  obtain rfl := Ab h53
  exact CI hs51.dr0 (le35.trans le52)
def E6 (N : Nat) (sR212 : Ac -> Option (Ak ⊕ (Ac × Expr))) (x0 : Ac) : Option (Ak ⊕ (Ac × Expr)) :=
 ((BB N x0 (fun y => sR212 y) (FE ([] : List (TN × Int)) ([97, 110, 100] : TN) 4)).bind fun r37 => sk r37 (fun b49 => some (.inl b49)) (fun r40 => some (.inr (r40.1, r40.2))))
theorem HW (N : Nat) (sR212 : Ac -> Option (Ak ⊕ (Ac × Expr))) (hsR212 : Ln sR212) {wb w0 : World} {Fb F0 : Mem} {Lf : Own} (hG : Dy F0) (bp0 : Nat) (x0 : Ac) (a0_0 : TO) (n0_0 : Nat) (hb0_0 : LC x0.l_.length n0_0) (hs0_0 : SlA Al F0 a0_0 x0.l_) (hs0 : HS wb Fb w0 F0 ((sb bp0 (Ah x0 a0_0 n0_0) 100) :: Lf)) (r : (Ak ⊕ (Ac × Expr))) (h : E6 N sR212 x0 = some r) :
  Calls Tryz.prog 185 ([(pt bp0 0)] : List Value).toArray w0 (Cj wb Fb F0 Lf r (fun b => (.iface 158 (.agg (A3 b)))) fun a F' v L' => ∃ (aq0_0 : TO) (nq0_0 : Nat) (aq1_2 : TO) (nq1_2 : Nat), v = (.agg (Ai a.2 aq1_2 nq1_2)) /\ L' = (sb bp0 (Ah a.1 aq0_0 nq0_0) 100) :: Lf /\ LC a.1.l_.length nq0_0 /\ SlA Al F' aq0_0 a.1.l_ /\ LC a.2.Kids.length nq1_2 /\ SlA As F' aq1_2 a.2.Kids) := by
 refine Go 9 Tryz.func185 ?_
 refine Sq (Rg [0] ?_)
 refine Al' 33 #[(vi 0), (vi 0), (.slice none ([] : List Expr).length 0)] hs0 (fun b21 w22 hs23 => ?_)
 refine Nss (Rg [0, 1, 2, 3, 4, 5, 6, 7] ?_)
 refine Vs 3 ?_
 refine RWP.makeMap (t := 198) (K := Fe) (T := Do) (dst := (some 6)) (ty := 198) (g := none) (by kernel_rfl) rfl hs23 (fun b25 e26 w27 (hs28 : HS wb Fb w27 F0 (e26 :: (sb b21 #[(vi 0), (vi 0), (.slice none ([] : List Expr).length 0)] 33) :: (sb bp0 (Ah x0 a0_0 n0_0) 100) :: Lf)) hr29 => ?_)
 refine RWP.mapIns kl9 (ty := 0) (g := none) (mt := 198) (k := 9) (vt := 3) (m := (.tmp 6)) (x := (.const (.string ⟨([97, 110, 100] : TN).toArray⟩))) (y := (.const (vi 4))) (b := b25) (kx := ([97, 110, 100] : TN)) (u := 4) (kv := (.string ⟨(([97, 110, 100] : TN)).toArray⟩)) (v := (vi 4)) (K := Fe) (T := Do) (by kernel_rfl) rfl rfl rfl rfl ⟨_, rfl, rfl⟩ ⟨_, rfl, rfl⟩ (by kernel_rfl) hs28 (q := 0) rfl hr29 (fun e30 w31 (hs32 : HS wb Fb w31 F0 (e30 :: (sb b21 #[(vi 0), (vi 0), (.slice none ([] : List Expr).length 0)] 33) :: (sb bp0 (Ah x0 a0_0 n0_0) 100) :: Lf)) hr33 => ?_)
 refine Vs 1 ?_
 obtain ⟨F1, hs34, le35, hm36⟩ : ∃ Fq, HS wb Fb w31 Fq ((sb b21 #[(vi 0), (vi 0), (.slice none ([] : List Expr).length 0)] 33) :: (sb bp0 (Ah x0 a0_0 n0_0) 100) :: Lf) /\ Tn F0 Fq /\ MpA Fe Do Fq (some b25) (FE ([] : List (TN × Int)) ([97, 110, 100] : TN) 4) := HS.freezeMap hs32 (i := 0) rfl hr33
 obtain ⟨r37, hr38, h39⟩ := bind_some h
 refine CP Cb (Cn N (hG.mono le35) bp0 x0 a0_0 n0_0 hb0_0 (Tq hs0_0 le35) 212 [(pt bp0 0)] ([] : List Value) (fun y => sR212 y) EO (fun {_ _ _ _ _} hGe y ay_0 ny_0 hby_0 hsy_0 hs r h => hsR212 hGe bp0 y ay_0 ny_0 hby_0 hsy_0 hs r h) ((FE ([] : List (TN × Int)) ([97, 110, 100] : TN) 4)) (some b25) hm36 hs34.pk1 _ hr38) ?_ ?_
 ·rintro r40 _ F2 w42 _ rfl hs43 le44 ⟨ar40_0_0, nr40_0_0, ar40_1_2, nr40_1_2, rfl, rfl, hbr40_0_0, hsr40_0_0, hbr40_1_2, hsr40_1_2⟩
  have h46 := BM h39
  refine St1 (Ai r40.2 ar40_1_2 nr40_1_2) hs43 (fun w47 hs48 => ?_)
  refine Nt ?_
  refine Rt ?_
  obtain rfl := Ab h46
  exact ⟨rfl, (.agg (Ai r40.2 ar40_1_2 nr40_1_2)), AE (l := [.cell 2 33]) (by kernel_rfl) (vs := [(.agg (Ai r40.2 ar40_1_2 nr40_1_2))]) ⟨b21, 0, rfl, Am (t := 33) (g := true) (s := 3) (by kernel_rfl) hs48.at1 rfl (by decide), trivial⟩, .inl ⟨_, F2, _, _, rfl, rfl, hs48.dr1, (le35.trans le44), ⟨ar40_0_0, nr40_0_0, ar40_1_2, nr40_1_2, rfl, rfl, hbr40_0_0, hsr40_0_0, hbr40_1_2, hsr40_1_2⟩⟩⟩
 ·rintro b49 F3 w50 rfl hs51 le52
  have h53 := Bo h39
  refine Ap ?_
  obtain rfl := Ab h53
  exact CI hs51.dr0 (le35.trans le52)
def CX (N : Nat) (sR212 : Ac -> Option (Ak ⊕ (Ac × Expr))) (sR226 : Ac -> Option (Ak ⊕ (Ac × Expr))) (x0 : Ac) : Option (Ak ⊕ (Ac × Expr)) :=
 ((Aw N x0 ([110, 111, 116] : TN)).bind fun r24 => (bif r24.2 then ((sR212 r24.1).bind fun r34 => sk r34 (fun b55 => some (.inl b55)) (fun r37 => some (.inr (r37.1, ({ Op := 3, Value := 0, Kids := [r37.2] } : Expr))))) else ((sR226 r24.1).bind fun r61 => sk r61 (fun b73 => some (.inl b73)) (fun r64 => some (.inr (r64.1, r64.2))))))
theorem HV (N : Nat) (sR212 : Ac -> Option (Ak ⊕ (Ac × Expr))) (hsR212 : Ln sR212) (sR226 : Ac -> Option (Ak ⊕ (Ac × Expr))) (hsR226 : Nx sR226) {wb w0 : World} {Fb F0 : Mem} {Lf : Own} (hG : Dy F0) (bp0 : Nat) (x0 : Ac) (a0_0 : TO) (n0_0 : Nat) (hb0_0 : LC x0.l_.length n0_0) (hs0_0 : SlA Al F0 a0_0 x0.l_) (hs0 : HS wb Fb w0 F0 ((sb bp0 (Ah x0 a0_0 n0_0) 100) :: Lf)) (r : (Ak ⊕ (Ac × Expr))) (h : CX N sR212 sR226 x0 = some r) :
  Calls Tryz.prog 212 ([(pt bp0 0)] : List Value).toArray w0 (Cj wb Fb F0 Lf r (fun b => (.iface 158 (.agg (A3 b)))) fun a F' v L' => ∃ (aq0_0 : TO) (nq0_0 : Nat) (aq1_2 : TO) (nq1_2 : Nat), v = (.agg (Ai a.2 aq1_2 nq1_2)) /\ L' = (sb bp0 (Ah a.1 aq0_0 nq0_0) 100) :: Lf /\ LC a.1.l_.length nq0_0 /\ SlA Al F' aq0_0 a.1.l_ /\ LC a.2.Kids.length nq1_2 /\ SlA As F' aq1_2 a.2.Kids) := by
 refine Go 11 Tryz.func212 ?_
 refine Sq (Rg [0] ?_)
 refine Al' 33 #[(vi 0), (vi 0), (.slice none ([] : List Expr).length 0)] hs0 (fun b21 w22 hs23 => ?_)
 refine Nss ?_
 refine Sq (Rg [0, 1] ?_)
 refine Vs 1 ?_
 obtain ⟨r24, hr25, h26⟩ := bind_some h
 refine CB AP (AV N bp0 x0 a0_0 n0_0 hb0_0 hs0_0 (([110, 111, 116] : TN)) hs23.pk1 _ hr25) ?_
 rintro _ F1 w27 _ hs28 le29 ⟨ar24_0_0, nr24_0_0, rfl, rfl, hbr24_0_0, hsr24_0_0⟩
 refine Nt ?_
 refine Cd h26 (fun hb31 h32 => ?_) (fun hb31 h33 => ?_)
 ·refine Sq (Rg [0, 1, 2, 3, 4] ?_)
  refine Vs 1 ?_
  obtain ⟨r34, hr35, h36⟩ := bind_some h32
  refine CP EO (hsR212 (hG.mono le29) bp0 r24.1 ar24_0_0 nr24_0_0 hbr24_0_0 hsr24_0_0 hs28 _ hr35) ?_ ?_
  ·rintro r37 _ F2 w39 _ rfl hs40 le41 ⟨ar37_0_0, nr37_0_0, ar37_1_2, nr37_1_2, rfl, rfl, hbr37_0_0, hsr37_0_0, hbr37_1_2, hsr37_1_2⟩
   have h43 := BM h36
   refine Bs 33 [(vi r37.2.Op), (vi r37.2.Value), (.slice ar37_1_2 r37.2.Kids.length nr37_1_2)] hs40 (fun b44 w45 hs46 => ?_)
   have hr48 : Av As 33 F2 (some ⟨b44, 0, none⟩) 1 [r37.2] (some b44, .cells ([(vi r37.2.Op), (vi r37.2.Value), (.slice ar37_1_2 r37.2.Kids.length nr37_1_2)] : List Value).toArray 33 (0, 0)) := TH ⟨(Ba ⟨ar37_1_2, nr37_1_2, rfl, hbr37_1_2, hsr37_1_2⟩), rfl⟩ (by simp)
   refine Vs 1 ?_
   refine St2 #[(vi 3), (vi 0), (.slice (some ⟨b44, 0, none⟩) [r37.2].length 1)] hs46 (fun w49 hs50 => ?_)
   refine Nt ?_
   refine Rt ?_
   refine Aj ?_
   have hb54 := TF hr48
   obtain ⟨F3, hs51, le52, hs53⟩ := hs50.fr0 hr48
   obtain rfl := Ab h43
   exact ⟨rfl, (.agg #[(vi 3), (vi 0), (.slice (some ⟨b44, 0, none⟩) [r37.2].length 1)]), AE (l := [.cell 2 33]) (by kernel_rfl) (vs := [(.agg #[(vi 3), (vi 0), (.slice (some ⟨b44, 0, none⟩) [r37.2].length 1)])]) ⟨b21, 0, rfl, Am (t := 33) (g := true) (s := 3) (by kernel_rfl) hs51.at1 rfl (by decide), trivial⟩, .inl ⟨_, F3, _, _, rfl, rfl, hs51.dr1, ((le29.trans le41).trans le52), ⟨ar37_0_0, nr37_0_0, (some ⟨b44, 0, none⟩), 1, rfl, rfl, hbr37_0_0, (Tq hsr37_0_0 le52), hb54, hs53⟩⟩⟩
  ·rintro b55 F4 w56 rfl hs57 le58
   have h59 := Bo h36
   refine Ap ?_
   refine Ap ?_
   obtain rfl := Ab h59
   exact CI hs57.dr0 (le29.trans le58)
 ·refine Sc ?_
  refine Ad ?_
  refine Sq (Rg [0, 1, 2] ?_)
  refine Vs 1 ?_
  obtain ⟨r61, hr62, h63⟩ := bind_some h33
  refine CP Hz (hsR226 (hG.mono le29) bp0 r24.1 ar24_0_0 nr24_0_0 hbr24_0_0 hsr24_0_0 hs28 _ hr62) ?_ ?_
  ·rintro r64 _ F5 w66 _ rfl hs67 le68 ⟨ar64_0_0, nr64_0_0, ar64_1_2, nr64_1_2, rfl, rfl, hbr64_0_0, hsr64_0_0, hbr64_1_2, hsr64_1_2⟩
   have h70 := BM h63
   refine St1 (Ai r64.2 ar64_1_2 nr64_1_2) hs67 (fun w71 hs72 => ?_)
   refine Nt ?_
   refine Rt ?_
   obtain rfl := Ab h70
   exact ⟨rfl, (.agg (Ai r64.2 ar64_1_2 nr64_1_2)), AE (l := [.cell 2 33]) (by kernel_rfl) (vs := [(.agg (Ai r64.2 ar64_1_2 nr64_1_2))]) ⟨b21, 0, rfl, Am (t := 33) (g := true) (s := 3) (by kernel_rfl) hs72.at1 rfl (by decide), trivial⟩, .inl ⟨_, F5, _, _, rfl, rfl, hs72.dr1, (le29.trans le68), ⟨ar64_0_0, nr64_0_0, ar64_1_2, nr64_1_2, rfl, rfl, hbr64_0_0, hsr64_0_0, hbr64_1_2, hsr64_1_2⟩⟩⟩
  ·rintro b73 F6 w74 rfl hs75 le76
   have h77 := Bo h63
   refine Ap ?_
   obtain rfl := Ab h77
   exact CI hs75.dr0 (le29.trans le76)
theorem Mm {N : Nat} {p q : Ac} {t : TN} (h : Aw N p t = some (q, false)) : q = p := by
 unfold Aw at h
 cases hp : AO N p t with
 | none => rw [hp] at h; cases h
 | some b =>
  rw [hp] at h
  cases b with
  | false => simp at h; exact h.symm
  | true =>
   simp only [Option.bind_some, Bool.not_true, cond_false] at h
   cases hs : sub p.l_ 1 (p.l_.length : Int) with
   | none => rw [hs] at h; cases h
   | some l => rw [hs] at h; simp at h
theorem PJ {N : Nat} {p : Ac} {t : TN} (h : AO N p t = some true) : ∃ x, idx p.l_ 0 = some x /\ x.text_ = t := by
 unfold AO at h
 cases hi : idx p.l_ 0 with
 | none => rw [hi] at h; cases h
 | some x =>
  rw [hi] at h
  refine ⟨x, rfl, ?_⟩
  simp only [Option.bind_some] at h
  cases h2 : (x.kind_ == 2) <;> cases h3 : (x.kind_ == 3) <;> rw [h2] at h <;> try rw [h3] at h
  all_goals simp at h
  all_goals exact h
theorem OL {N : Nat} {p : Ac} {s t : TN} (h : AO N p s = some true) (hne : s ≠ t) : AO N p t = some false := by
 obtain ⟨x, hx, hs⟩ := PJ h
 unfold AO at h ⊢
 rw [hx] at h ⊢
 simp only [Option.bind_some] at h ⊢
 have hne' : (x.text_ == t) = false := by rw [hs]; simpa using hne
 rw [hne']
 cases h2 : (x.kind_ == 2) <;> cases h3 : (x.kind_ == 3) <;> simp
theorem Nn {N : Nat} {p q : Ac} {s t : TN} (h : Aw N p s = some (q, true)) (hne : s ≠ t) : Aw N p t = some (p, false) := by
 unfold Aw at h ⊢
 cases hp : AO N p s with
 | none => rw [hp] at h; cases h
 | some b =>
  rw [hp] at h
  cases b with
  | false => simp at h
  | true => rw [OL hp hne]; rfl
theorem KZ {N : Nat} {p : Ac} {α : Type} {X6 X7 Z : Ac × Bool -> Option α} {r : α}
  (h : ((Aw N p ([61] : TN)).bind fun a => (bif a.2 then X6 a else ((Aw N a.1 ([60] : TN)).bind fun b => (bif b.2 then X7 b else Z b)))) = some r) :
  ((Aw N p ([60] : TN)).bind fun a => (bif a.2 then X7 a else ((Aw N a.1 ([61] : TN)).bind fun b => (bif b.2 then X6 b else Z b)))) = some r := by
 cases ha : Aw N p [61] with
 | none => rw [ha] at h; cases h
 | some a =>
  obtain ⟨q, b⟩ := a
  rw [ha] at h
  simp only [Option.bind_some] at h
  cases b with
  | true =>
   rw [Nn ha (by decide)]
   simp only [cond_true] at h
   simp only [Option.bind_some, cond_false, ha, cond_true]; exact h
  | false =>
   obtain rfl := Mm ha
   simp only [cond_false] at h
   cases hb : Aw N q [60] with
   | none => rw [hb] at h; cases h
   | some b =>
    obtain ⟨q2, c⟩ := b
    rw [hb] at h
    simp only [Option.bind_some] at h ⊢
    cases c with
    | true => simpa using h
    | false =>
     obtain rfl := Mm hb
     simp only [cond_false, ha, Option.bind_some] at h ⊢
     exact h
def CW (N : Nat) (sR233 : Ac -> Option (Ak ⊕ (Ac × Expr))) (x0 : Ac) : Option (Ak ⊕ (Ac × Expr)) :=
 ((sR233 x0).bind fun r24 => sk r24 (fun b291 => some (.inl b291)) (fun r27 => ((Aw N r27.1 ([61] : TN)).bind fun r51 => (bif r51.2 then (((sR233 r51.1).bind fun r73 => sk r73 (fun b90 => some (.inl b90)) (fun r76 => some (.inr (6, [r27.2, r76.2], r76.1.l_, r76.1.open_)))).bind fun j67 => sk j67 (fun b101 => some (.inl b101)) (fun J72 => some (.inr (({ l_ := J72.2.2.1, open_ := J72.2.2.2 } : Ac), ({ Op := J72.1, Value := 0, Kids := J72.2.1 } : Expr))))) else ((Aw N r51.1 ([60] : TN)).bind fun r109 => (bif r109.2 then (((sR233 r109.1).bind fun r131 => sk r131 (fun b148 => some (.inl b148)) (fun r134 => some (.inr (7, [r27.2, r134.2], r134.1.l_, r134.1.open_)))).bind fun j125 => sk j125 (fun b159 => some (.inl b159)) (fun J130 => some (.inr (({ l_ := J130.2.2.1, open_ := J130.2.2.2 } : Ac), ({ Op := J130.1, Value := 0, Kids := J130.2.1 } : Expr))))) else some (.inr (r109.1, r27.2))))))))
theorem HQ (N : Nat) (sR233 : Ac -> Option (Ak ⊕ (Ac × Expr))) (hsR233 : Nv sR233) {wb w0 : World} {Fb F0 : Mem} {Lf : Own} (hG : Dy F0) (bp0 : Nat) (x0 : Ac) (a0_0 : TO) (n0_0 : Nat) (hb0_0 : LC x0.l_.length n0_0) (hs0_0 : SlA Al F0 a0_0 x0.l_) (hs0 : HS wb Fb w0 F0 ((sb bp0 (Ah x0 a0_0 n0_0) 100) :: Lf)) (r : (Ak ⊕ (Ac × Expr))) (h : CW N sR233 x0 = some r) :
  Calls Tryz.prog 226 ([(pt bp0 0)] : List Value).toArray w0 (Cj wb Fb F0 Lf r (fun b => (.iface 158 (.agg (A3 b)))) fun a F' v L' => ∃ (aq0_0 : TO) (nq0_0 : Nat) (aq1_2 : TO) (nq1_2 : Nat), v = (.agg (Ai a.2 aq1_2 nq1_2)) /\ L' = (sb bp0 (Ah a.1 aq0_0 nq0_0) 100) :: Lf /\ LC a.1.l_.length nq0_0 /\ SlA Al F' aq0_0 a.1.l_ /\ LC a.2.Kids.length nq1_2 /\ SlA As F' aq1_2 a.2.Kids) := by
 refine Go 26 Tryz.func226 ?_
 refine Sq (Rg [0] ?_)
 refine Al' 33 #[(vi 0), (vi 0), (.slice none ([] : List Expr).length 0)] hs0 (fun b21 w22 hs23 => ?_)
 refine Nss (Rg [0, 1, 2, 3] ?_)
 refine Vs 1 ?_
 obtain ⟨r24, hr25, h26⟩ := bind_some h
 refine CP Cu (hsR233 hG bp0 x0 a0_0 n0_0 hb0_0 hs0_0 hs23.pk1 _ hr25) ?_ ?_
 ·rintro r27 _ F1 w29 _ rfl hs30 le31 ⟨ar27_0_0, nr27_0_0, ar27_1_2, nr27_1_2, rfl, rfl, hbr27_0_0, hsr27_0_0, hbr27_1_2, hsr27_1_2⟩
  have h33 := BM h26
  refine Al' 33 #[(vi 0), (vi 0), (.slice none ([] : List Expr).length 0)] hs30 (fun b34 w35 hs36 => ?_)
  refine St0 (Ai r27.2 ar27_1_2 nr27_1_2) hs36 (fun w37 hs38 => ?_)
  refine Nss ?_
  refine Sq (Rg [0, 1, 2, 3, 4] ?_)
  refine RWP.litMap (dst := (some 8)) (ty := 198) (g := none) (by kernel_rfl) rfl (t := 198) hs38 (fun b39 w40 (hs41 : HS wb Fb w40 F1 ((some b39, (.map #[] 0)) :: (sb b34 (Ai r27.2 ar27_1_2 nr27_1_2) 33) :: (sb bp0 (Ah r27.1 ar27_0_0 nr27_0_0) 100) :: (sb b21 #[(vi 0), (vi 0), (.slice none ([] : List Expr).length 0)] 33) :: Lf)) => ?_)
  refine RWP.litIns (d := .string) (k := 9) (vt := 3) (ty := 0) (g := none) (mt := 198) (m := (.tmp 8)) (x := (.const (.string ⟨([61] : TN).toArray⟩))) (y := (.const (vi 6))) (b := b39) (q := 0) (kv := (.string ⟨(([61] : TN)).toArray⟩)) (v := (vi 6)) (by kernel_rfl) rfl rfl rfl rfl (by kernel_rfl) (by kernel_rfl) trivial (by kernel_rfl) hs41 rfl rfl (fun w42 (hs43 : HS wb Fb w42 F1 ((some b39, (.map #[⟨(.string ⟨(([61] : TN)).toArray⟩), (vi 6), 0⟩] 1)) :: (sb b34 (Ai r27.2 ar27_1_2 nr27_1_2) 33) :: (sb bp0 (Ah r27.1 ar27_0_0 nr27_0_0) 100) :: (sb b21 #[(vi 0), (vi 0), (.slice none ([] : List Expr).length 0)] 33) :: Lf)) => ?_)
  refine RWP.litIns (d := .string) (k := 9) (vt := 3) (ty := 0) (g := none) (mt := 198) (m := (.tmp 8)) (x := (.const (.string ⟨([60] : TN).toArray⟩))) (y := (.const (vi 7))) (b := b39) (q := 0) (kv := (.string ⟨(([60] : TN)).toArray⟩)) (v := (vi 7)) (by kernel_rfl) rfl rfl rfl rfl (by kernel_rfl) (by kernel_rfl) trivial (by kernel_rfl) hs43 rfl rfl (fun w44 (hs45 : HS wb Fb w44 F1 ((some b39, (.map #[⟨(.string ⟨(([61] : TN)).toArray⟩), (vi 6), 0⟩, ⟨(.string ⟨(([60] : TN)).toArray⟩), (vi 7), 1⟩] 2)) :: (sb b34 (Ai r27.2 ar27_1_2 nr27_1_2) 33) :: (sb bp0 (Ah r27.1 ar27_0_0 nr27_0_0) 100) :: (sb b21 #[(vi 0), (vi 0), (.slice none ([] : List Expr).length 0)] 33) :: Lf)) => ?_)
  refine Vs 1 ?_
  refine RWP.litRange (k := 9) (vt := 3) (dst := (some 10)) (ty := 0) (g := none) (by kernel_rfl) rfl (mt := 198) (x := (.tmp 9)) (b := b39) (q := 0) rfl (by kernel_rfl) hs45 rfl (fun b46 w47 (hs48 : HS wb Fb w47 F1 ((some b46, (.mapIter (some b39) 2 #[] 2)) :: (some b39, (.map #[⟨(.string ⟨(([61] : TN)).toArray⟩), (vi 6), 0⟩, ⟨(.string ⟨(([60] : TN)).toArray⟩), (vi 7), 1⟩] 2)) :: (sb b34 (Ai r27.2 ar27_1_2 nr27_1_2) 33) :: (sb bp0 (Ah r27.1 ar27_0_0 nr27_0_0) 100) :: (sb b21 #[(vi 0), (vi 0), (.slice none ([] : List Expr).length 0)] 33) :: Lf)) => ?_)
  refine Nt ?_
  refine Bk ?_
  refine CWP.unroll (by kernel_rfl) 4 ?_
  refine URL.step ?_
  refine Sq (Rg [0, 1] ?_)
  refine RWP.litNext2  (e := ⟨(.string ⟨(([61] : TN)).toArray⟩), (vi 6), 0⟩) (e2 := ⟨(.string ⟨(([60] : TN)).toArray⟩), (vi 7), 1⟩) (dst := (some 11)) (ty := 0) (g := none) (by kernel_rfl) rfl (x := (.tmp 10)) (r := b46) (ki := 0) (km := 1) rfl hs48 rfl rfl (by kernel_rfl) (by kernel_rfl) ?_ ?_
  ·rintro w49 (hs50 : HS wb Fb w49 F1 ((some b46, (.mapIter (some b39) 2 #[0] 2)) :: (some b39, (.map #[⟨(.string ⟨(([61] : TN)).toArray⟩), (vi 6), 0⟩, ⟨(.string ⟨(([60] : TN)).toArray⟩), (vi 7), 1⟩] 2)) :: (sb b34 (Ai r27.2 ar27_1_2 nr27_1_2) 33) :: (sb bp0 (Ah r27.1 ar27_0_0 nr27_0_0) 100) :: (sb b21 #[(vi 0), (vi 0), (.slice none ([] : List Expr).length 0)] 33) :: Lf))
   refine Vs 1 ?_
   refine Nss ?_
   refine C1 (rfl : true = true) ?_
   refine Sc ?_
   refine Ad ?_
   refine Bk ?_
   refine Sq (Rg [0, 1, 2, 3, 4] ?_)
   refine V 13 0 (Fg (x := (.tmp 10)) (en := ⟨(.string ⟨(([61] : TN)).toArray⟩), (vi 6), 0⟩) rfl (hs50.ownAt (k := 0) rfl) (hs50.ownAt (k := 1) rfl) rfl rfl) ?_
   refine Vs 4 ?_
   refine Nss (Rg [0, 1, 2] ?_)
   refine Vs 2 ?_
   obtain ⟨r51, hr52, h53⟩ := bind_some h33
   refine CB AP (AV N bp0 r27.1 ar27_0_0 nr27_0_0 hbr27_0_0 hsr27_0_0 (([61] : TN)) hs50.pk4.pk3.pk3.pk3.pk4 _ hr52) ?_
   rintro _ F2 w54 _ hs55 le56 ⟨ar51_0_0, nr51_0_0, rfl, rfl, hbr51_0_0, hsr51_0_0⟩
   refine Nt ?_
   refine Cd h53 (fun hb58 h59 => ?_) (fun hb58 h60 => ?_)
   ·refine Sq ?_
    obtain ⟨j67, hj70, h71⟩ := bind_some h59
    refine RDP 6 7 [(some b46, (.mapIter (some b39) 2 #[0] 2)), (some b39, (.map #[⟨(.string ⟨(([61] : TN)).toArray⟩), (vi 6), 0⟩, ⟨(.string ⟨(([60] : TN)).toArray⟩), (vi 7), 1⟩] 2)), (sb b34 (Ai r27.2 ar27_1_2 nr27_1_2) 33)] [(sb b21 #[(vi 0), (vi 0), (.slice none ([] : List Expr).length 0)] 33)] hs55 (fun c d w => d = [] /\ ∃ (b : Ak) (Fp : Mem), j67 = .inl b /\ c = [{ v := (.iface 158 (.agg (A3 b))), recovered := false }] /\ HS wb Fb w Fp Lf /\ Tn F2 Fp) (fun f w => ∃ (J72 : (Int × List Expr × List An × Int)), j67 = .inr J72 /\ ∃ (F3 : Mem) (aj67_1 : TO) (nj67_1 : Nat) (ej67_1 : Option Nat × Obj) (aj67_2 : TO) (nj67_2 : Nat), HS wb Fb w F3 (ej67_1 :: (sb bp0 #[(.slice aj67_2 J72.2.2.1.length nj67_2), (vi J72.2.2.2)] 100) :: (sb b21 #[(vi J72.1), (vi 0), (.slice aj67_1 J72.2.1.length nj67_1)] 33) :: Lf) /\ Tn F2 F3 /\ FI f [] [(2, (pt b21 0))] /\ Av As 33 F3 aj67_1 nj67_1 J72.2.1 ej67_1 /\ LC J72.2.2.1.length nj67_2 /\ SlA Al F3 aj67_2 J72.2.2.1) (fun wd61 hw62 => ?_) ?_ ?_
    ·refine Dv [0] ?_
     refine Dl 1 (fun _ hq => (hq.1.2 2 _ _ rfl)) ?_
     refine Dv [2] ?_
     refine D1 3 ?_
     obtain ⟨r73, hr74, h75⟩ := bind_some hj70
     refine DCP Cu (hsR233 (hG.mono (le31.trans le56)) bp0 r51.1 ar51_0_0 nr51_0_0 hbr51_0_0 hsr51_0_0 hw62 _ hr74) ?_ ?_
     ·rintro r76 _ F4 w78 _ rfl hs79 le80 ⟨ar76_0_0, nr76_0_0, ar76_1_2, nr76_1_2, rfl, rfl, hbr76_0_0, hsr76_0_0, hbr76_1_2, hsr76_1_2⟩
      have h82 := BM h75
      refine ⟨Bg hs79 le80 (by simp) (fun _ => by simp), ?_⟩
      refine D1 4 ?_
      refine DBs 33 [(vi r27.2.Op), (vi r27.2.Value), (.slice ar27_1_2 r27.2.Kids.length nr27_1_2), (vi r76.2.Op), (vi r76.2.Value), (.slice ar76_1_2 r76.2.Kids.length nr76_1_2)] hs79 le80 (fun b83 w84 hs85 => ?_)
      have hr87 : Av As 33 F4 (some ⟨b83, 0, none⟩) 2 [r27.2, r76.2] (some b83, .cells ([(vi r27.2.Op), (vi r27.2.Value), (.slice ar27_1_2 r27.2.Kids.length nr27_1_2), (vi r76.2.Op), (vi r76.2.Value), (.slice ar76_1_2 r76.2.Kids.length nr76_1_2)] : List Value).toArray 33 (0, 0)) := TH ⟨(Ba ⟨ar27_1_2, nr27_1_2, rfl, hbr27_1_2, (Tq hsr27_1_2 (le56.trans le80))⟩), ⟨(Ba ⟨ar76_1_2, nr76_1_2, rfl, hbr76_1_2, hsr76_1_2⟩), rfl⟩⟩ (by simp)
      refine Dv [5] ?_
      refine D1 6 ?_
      refine RP #[(vi 6), (vi 0), (.slice (some ⟨b83, 0, none⟩) [r27.2, r76.2].length 2)] hs85 le80 (fun w88 hs89 => ?_)
      obtain rfl := Ab h82
      exact TE (by kernel_rfl) ⟨_, rfl, F4, (some ⟨b83, 0, none⟩), 2, (some b83, .cells ([(vi r27.2.Op), (vi r27.2.Value), (.slice ar27_1_2 r27.2.Kids.length nr27_1_2), (vi r76.2.Op), (vi r76.2.Value), (.slice ar76_1_2 r76.2.Kids.length nr76_1_2)] : List Value).toArray 33 (0, 0)), ar76_0_0, nr76_0_0, hs89.dr2.dr2.dr2, le80, fI, hr87, hbr76_0_0, hsr76_0_0⟩
     ·rintro b90 F5 w91 rfl hs92 le93
      have h94 := Bo h75
      obtain rfl := Ab h94
      exact ⟨rfl, _, _, rfl, rfl, hs92.dr0.dr0.dr0.dr0, le93⟩
    ·rintro f w63 ⟨J72, rfl, F3, aj67_1, nj67_1, ej67_1, aj67_2, nj67_2, hs64, le65, ⟨_, rfl⟩, hrj67_1, hbj67_2, hsj67_2⟩
     have h96 := BM h71
     refine Ad ?_
     refine Rt ?_
     refine Ao ?_
     refine Aj ?_
     refine Ao ?_
     refine Aj ?_
     have hb100 := TF hrj67_1
     obtain ⟨F6, hs97, le98, hs99⟩ := hs64.fr0 hrj67_1
     obtain rfl := Ab h96
     exact ⟨rfl, (.agg #[(vi J72.1), (vi 0), (.slice aj67_1 J72.2.1.length nj67_1)]), AE (l := [.cell 2 33]) (by kernel_rfl) (vs := [(.agg #[(vi J72.1), (vi 0), (.slice aj67_1 J72.2.1.length nj67_1)])]) ⟨b21, 0, rfl, Am (t := 33) (g := true) (s := 3) (by kernel_rfl) hs97.at1 rfl (by decide), trivial⟩, .inl ⟨_, F6, _, _, rfl, rfl, hs97.dr1, (((le31.trans le56).trans le65).trans le98), ⟨aj67_2, nj67_2, aj67_1, nj67_1, rfl, rfl, hbj67_2, (Tq hsj67_2 le98), hb100, hs99⟩⟩⟩
    ·rintro c f w102 ⟨hd105, b101, F7, rfl, rfl, hs103, le104⟩
     have h106 := Bo h71
     refine Ap ?_
     refine Bf ?_
     refine Ap ?_
     refine Bf ?_
     refine Ap ?_
     obtain rfl := Ab h106
     exact ⟨hd105, .inr ⟨_, F7, rfl, rfl, hs103, ((le31.trans le56).trans le104)⟩⟩
   ·refine Sc ?_
    refine AA ?_
    refine Ad ?_
    refine URL.step ?_
    refine Sq (Rg [0, 1] ?_)
    refine RWP.litNext1  (e := ⟨(.string ⟨(([60] : TN)).toArray⟩), (vi 7), 1⟩) (dst := (some 11)) (ty := 0) (g := none) (by kernel_rfl) rfl (x := (.tmp 10)) (r := b46) (ki := 1) (km := 2) rfl hs55 rfl rfl (by kernel_rfl) (by kernel_rfl) ?_
    ·rintro w107 (hs108 : HS wb Fb w107 F2 ((sb bp0 (Ah r51.1 ar51_0_0 nr51_0_0) 100) :: (some b46, (.mapIter (some b39) 2 #[0, 1] 2)) :: (some b39, (.map #[⟨(.string ⟨(([61] : TN)).toArray⟩), (vi 6), 0⟩, ⟨(.string ⟨(([60] : TN)).toArray⟩), (vi 7), 1⟩] 2)) :: (sb b34 (Ai r27.2 ar27_1_2 nr27_1_2) 33) :: (sb b21 #[(vi 0), (vi 0), (.slice none ([] : List Expr).length 0)] 33) :: Lf))
     refine Vs 1 ?_
     refine Nss ?_
     refine C1 (rfl : true = true) ?_
     refine Sc ?_
     refine Ad ?_
     refine Bk ?_
     refine Sq (Rg [0, 1, 2, 3, 4] ?_)
     refine V 13 0 (Fg (x := (.tmp 10)) (en := ⟨(.string ⟨(([60] : TN)).toArray⟩), (vi 7), 1⟩) rfl (hs108.ownAt (k := 1) rfl) (hs108.ownAt (k := 2) rfl) rfl rfl) ?_
     refine Vs 4 ?_
     refine Nss (Rg [0, 1, 2] ?_)
     refine Vs 2 ?_
     obtain ⟨r109, hr110, h111⟩ := bind_some h60
     refine CB AP (AV N bp0 r51.1 ar51_0_0 nr51_0_0 hbr51_0_0 hsr51_0_0 (([60] : TN)) hs108 _ hr110) ?_
     rintro _ F8 w112 _ hs113 le114 ⟨ar109_0_0, nr109_0_0, rfl, rfl, hbr109_0_0, hsr109_0_0⟩
     refine Nt ?_
     refine Cd h111 (fun hb116 h117 => ?_) (fun hb116 h118 => ?_)
     ·refine Sq ?_
      obtain ⟨j125, hj128, h129⟩ := bind_some h117
      refine RDP 6 7 [(some b46, (.mapIter (some b39) 2 #[0, 1] 2)), (some b39, (.map #[⟨(.string ⟨(([61] : TN)).toArray⟩), (vi 6), 0⟩, ⟨(.string ⟨(([60] : TN)).toArray⟩), (vi 7), 1⟩] 2)), (sb b34 (Ai r27.2 ar27_1_2 nr27_1_2) 33)] [(sb b21 #[(vi 0), (vi 0), (.slice none ([] : List Expr).length 0)] 33)] hs113 (fun c d w => d = [] /\ ∃ (b : Ak) (Fp : Mem), j125 = .inl b /\ c = [{ v := (.iface 158 (.agg (A3 b))), recovered := false }] /\ HS wb Fb w Fp Lf /\ Tn F8 Fp) (fun f w => ∃ (J130 : (Int × List Expr × List An × Int)), j125 = .inr J130 /\ ∃ (F9 : Mem) (aj125_1 : TO) (nj125_1 : Nat) (ej125_1 : Option Nat × Obj) (aj125_2 : TO) (nj125_2 : Nat), HS wb Fb w F9 (ej125_1 :: (sb bp0 #[(.slice aj125_2 J130.2.2.1.length nj125_2), (vi J130.2.2.2)] 100) :: (sb b21 #[(vi J130.1), (vi 0), (.slice aj125_1 J130.2.1.length nj125_1)] 33) :: Lf) /\ Tn F8 F9 /\ FI f [] [(2, (pt b21 0))] /\ Av As 33 F9 aj125_1 nj125_1 J130.2.1 ej125_1 /\ LC J130.2.2.1.length nj125_2 /\ SlA Al F9 aj125_2 J130.2.2.1) (fun wd119 hw120 => ?_) ?_ ?_
      ·refine Dv [0] ?_
       refine Dl 1 (fun _ hq => (hq.1.2 2 _ _ rfl)) ?_
       refine Dv [2] ?_
       refine D1 3 ?_
       obtain ⟨r131, hr132, h133⟩ := bind_some hj128
       refine DCP Cu (hsR233 (hG.mono ((le31.trans le56).trans le114)) bp0 r109.1 ar109_0_0 nr109_0_0 hbr109_0_0 hsr109_0_0 hw120 _ hr132) ?_ ?_
       ·rintro r134 _ F10 w136 _ rfl hs137 le138 ⟨ar134_0_0, nr134_0_0, ar134_1_2, nr134_1_2, rfl, rfl, hbr134_0_0, hsr134_0_0, hbr134_1_2, hsr134_1_2⟩
        have h140 := BM h133
        refine ⟨Bg hs137 le138 (by simp) (fun _ => by simp), ?_⟩
        refine D1 4 ?_
        refine DBs 33 [(vi r27.2.Op), (vi r27.2.Value), (.slice ar27_1_2 r27.2.Kids.length nr27_1_2), (vi r134.2.Op), (vi r134.2.Value), (.slice ar134_1_2 r134.2.Kids.length nr134_1_2)] hs137 le138 (fun b141 w142 hs143 => ?_)
        have hr145 : Av As 33 F10 (some ⟨b141, 0, none⟩) 2 [r27.2, r134.2] (some b141, .cells ([(vi r27.2.Op), (vi r27.2.Value), (.slice ar27_1_2 r27.2.Kids.length nr27_1_2), (vi r134.2.Op), (vi r134.2.Value), (.slice ar134_1_2 r134.2.Kids.length nr134_1_2)] : List Value).toArray 33 (0, 0)) := TH ⟨(Ba ⟨ar27_1_2, nr27_1_2, rfl, hbr27_1_2, (Tq hsr27_1_2 ((le56.trans le114).trans le138))⟩), ⟨(Ba ⟨ar134_1_2, nr134_1_2, rfl, hbr134_1_2, hsr134_1_2⟩), rfl⟩⟩ (by simp)
        refine Dv [5] ?_
        refine D1 6 ?_
        refine RP #[(vi 7), (vi 0), (.slice (some ⟨b141, 0, none⟩) [r27.2, r134.2].length 2)] hs143 le138 (fun w146 hs147 => ?_)
        obtain rfl := Ab h140
        exact TE (by kernel_rfl) ⟨_, rfl, F10, (some ⟨b141, 0, none⟩), 2, (some b141, .cells ([(vi r27.2.Op), (vi r27.2.Value), (.slice ar27_1_2 r27.2.Kids.length nr27_1_2), (vi r134.2.Op), (vi r134.2.Value), (.slice ar134_1_2 r134.2.Kids.length nr134_1_2)] : List Value).toArray 33 (0, 0)), ar134_0_0, nr134_0_0, hs147.dr2.dr2.dr2, le138, fI, hr145, hbr134_0_0, hsr134_0_0⟩
       ·rintro b148 F11 w149 rfl hs150 le151
        have h152 := Bo h133
        obtain rfl := Ab h152
        exact ⟨rfl, _, _, rfl, rfl, hs150.dr0.dr0.dr0.dr0, le151⟩
      ·rintro f w121 ⟨J130, rfl, F9, aj125_1, nj125_1, ej125_1, aj125_2, nj125_2, hs122, le123, ⟨_, rfl⟩, hrj125_1, hbj125_2, hsj125_2⟩
       have h154 := BM h129
       refine Ad ?_
       refine Rt ?_
       refine Ao ?_
       refine Aj ?_
       refine Ao ?_
       refine Aj ?_
       have hb158 := TF hrj125_1
       obtain ⟨F12, hs155, le156, hs157⟩ := hs122.fr0 hrj125_1
       obtain rfl := Ab h154
       exact ⟨rfl, (.agg #[(vi J130.1), (vi 0), (.slice aj125_1 J130.2.1.length nj125_1)]), AE (l := [.cell 2 33]) (by kernel_rfl) (vs := [(.agg #[(vi J130.1), (vi 0), (.slice aj125_1 J130.2.1.length nj125_1)])]) ⟨b21, 0, rfl, Am (t := 33) (g := true) (s := 3) (by kernel_rfl) hs155.at1 rfl (by decide), trivial⟩, .inl ⟨_, F12, _, _, rfl, rfl, hs155.dr1, ((((le31.trans le56).trans le114).trans le123).trans le156), ⟨aj125_2, nj125_2, aj125_1, nj125_1, rfl, rfl, hbj125_2, (Tq hsj125_2 le156), hb158, hs157⟩⟩⟩
      ·rintro c f w160 ⟨hd163, b159, F13, rfl, rfl, hs161, le162⟩
       have h164 := Bo h129
       refine Ap ?_
       refine Bf ?_
       refine Ap ?_
       refine Bf ?_
       refine Ap ?_
       obtain rfl := Ab h164
       exact ⟨hd163, .inr ⟨_, F13, rfl, rfl, hs161, (((le31.trans le56).trans le114).trans le162)⟩⟩
     ·refine Sc ?_
      refine AA ?_
      refine Ad ?_
      refine URL.step ?_
      refine Sq (Rg [0, 1] ?_)
      refine RWP.litNext0  (dst := (some 11)) (ty := 0) (g := none) (by kernel_rfl) rfl (x := (.tmp 10)) (r := b46) (ki := 1) (km := 2) rfl hs113 rfl rfl (by kernel_rfl) (by kernel_rfl) ?_
      ·rintro w165 (hs166 : HS wb Fb w165 F8 ((sb bp0 (Ah r109.1 ar109_0_0 nr109_0_0) 100) :: (some b46, (.mapIter (some b39) 2 #[0, 1] 2)) :: (some b39, (.map #[⟨(.string ⟨(([61] : TN)).toArray⟩), (vi 6), 0⟩, ⟨(.string ⟨(([60] : TN)).toArray⟩), (vi 7), 1⟩] 2)) :: (sb b34 (Ai r27.2 ar27_1_2 nr27_1_2) 33) :: (sb b21 #[(vi 0), (vi 0), (.slice none ([] : List Expr).length 0)] 33) :: Lf))
       refine Vs 1 ?_
       refine Nss ?_
       refine C0 (rfl : false = false) ?_
       refine Ex ?_
       refine AC ?_
       refine AC ?_
       refine AL rfl ?_
       refine Ad ?_
       refine Sq (Rg [0, 1] ?_)
       refine Ld hs166.at3 ?_
       refine St4 (Ai r27.2 ar27_1_2 nr27_1_2) hs166 (fun w167 hs168 => ?_)
       refine Nt ?_
       refine Rt ?_
       obtain rfl := Ab h118
       exact ⟨rfl, (.agg (Ai r27.2 ar27_1_2 nr27_1_2)), AE (l := [.cell 2 33]) (by kernel_rfl) (vs := [(.agg (Ai r27.2 ar27_1_2 nr27_1_2))]) ⟨b21, 0, rfl, Am (t := 33) (g := true) (s := 3) (by kernel_rfl) hs168.at4 rfl (by decide), trivial⟩, .inl ⟨_, F8, _, _, rfl, rfl, hs168.dr1.dr1.dr1.dr1, ((le31.trans le56).trans le114), ⟨ar109_0_0, nr109_0_0, ar27_1_2, nr27_1_2, rfl, rfl, hbr109_0_0, hsr109_0_0, hbr27_1_2, (Tq hsr27_1_2 (le56.trans le114))⟩⟩⟩
  ·rintro w169 (hs170 : HS wb Fb w169 F1 ((some b46, (.mapIter (some b39) 2 #[1] 2)) :: (some b39, (.map #[⟨(.string ⟨(([61] : TN)).toArray⟩), (vi 6), 0⟩, ⟨(.string ⟨(([60] : TN)).toArray⟩), (vi 7), 1⟩] 2)) :: (sb b34 (Ai r27.2 ar27_1_2 nr27_1_2) 33) :: (sb bp0 (Ah r27.1 ar27_0_0 nr27_0_0) 100) :: (sb b21 #[(vi 0), (vi 0), (.slice none ([] : List Expr).length 0)] 33) :: Lf))
   have h171 := KZ h33
   refine Vs 1 ?_
   refine Nss ?_
   refine C1 (rfl : true = true) ?_
   refine Sc ?_
   refine Ad ?_
   refine Bk ?_
   refine Sq (Rg [0, 1, 2, 3, 4] ?_)
   refine V 13 0 (Fg (x := (.tmp 10)) (en := ⟨(.string ⟨(([60] : TN)).toArray⟩), (vi 7), 1⟩) rfl (hs170.ownAt (k := 0) rfl) (hs170.ownAt (k := 1) rfl) rfl rfl) ?_
   refine Vs 4 ?_
   refine Nss (Rg [0, 1, 2] ?_)
   refine Vs 2 ?_
   have hs172 := hs170.pk4.pk3.pk3.pk3.pk4
   obtain ⟨r173, hr174, h175⟩ := bind_some h171
   refine CB AP (AV N bp0 r27.1 ar27_0_0 nr27_0_0 hbr27_0_0 hsr27_0_0 (([60] : TN)) hs172 _ hr174) ?_
   rintro _ F14 w176 _ hs177 le178 ⟨ar173_0_0, nr173_0_0, rfl, rfl, hbr173_0_0, hsr173_0_0⟩
   refine Nt ?_
   refine Cd h175 (fun hb180 h181 => ?_) (fun hb180 h182 => ?_)
   ·refine Sq ?_
    obtain ⟨j189, hj192, h193⟩ := bind_some h181
    refine RDP 6 7 [(some b46, (.mapIter (some b39) 2 #[1] 2)), (some b39, (.map #[⟨(.string ⟨(([61] : TN)).toArray⟩), (vi 6), 0⟩, ⟨(.string ⟨(([60] : TN)).toArray⟩), (vi 7), 1⟩] 2)), (sb b34 (Ai r27.2 ar27_1_2 nr27_1_2) 33)] [(sb b21 #[(vi 0), (vi 0), (.slice none ([] : List Expr).length 0)] 33)] hs177 (fun c d w => d = [] /\ ∃ (b : Ak) (Fp : Mem), j189 = .inl b /\ c = [{ v := (.iface 158 (.agg (A3 b))), recovered := false }] /\ HS wb Fb w Fp Lf /\ Tn F14 Fp) (fun f w => ∃ (J194 : (Int × List Expr × List An × Int)), j189 = .inr J194 /\ ∃ (F15 : Mem) (aj189_1 : TO) (nj189_1 : Nat) (ej189_1 : Option Nat × Obj) (aj189_2 : TO) (nj189_2 : Nat), HS wb Fb w F15 (ej189_1 :: (sb bp0 #[(.slice aj189_2 J194.2.2.1.length nj189_2), (vi J194.2.2.2)] 100) :: (sb b21 #[(vi J194.1), (vi 0), (.slice aj189_1 J194.2.1.length nj189_1)] 33) :: Lf) /\ Tn F14 F15 /\ FI f [] [(2, (pt b21 0))] /\ Av As 33 F15 aj189_1 nj189_1 J194.2.1 ej189_1 /\ LC J194.2.2.1.length nj189_2 /\ SlA Al F15 aj189_2 J194.2.2.1) (fun wd183 hw184 => ?_) ?_ ?_
    ·refine Dv [0] ?_
     refine Dl 1 (fun _ hq => (hq.1.2 2 _ _ rfl)) ?_
     refine Dv [2] ?_
     refine D1 3 ?_
     obtain ⟨r195, hr196, h197⟩ := bind_some hj192
     refine DCP Cu (hsR233 (hG.mono (le31.trans le178)) bp0 r173.1 ar173_0_0 nr173_0_0 hbr173_0_0 hsr173_0_0 hw184 _ hr196) ?_ ?_
     ·rintro r198 _ F16 w200 _ rfl hs201 le202 ⟨ar198_0_0, nr198_0_0, ar198_1_2, nr198_1_2, rfl, rfl, hbr198_0_0, hsr198_0_0, hbr198_1_2, hsr198_1_2⟩
      have h204 := BM h197
      refine ⟨Bg hs201 le202 (by simp) (fun _ => by simp), ?_⟩
      refine D1 4 ?_
      refine DBs 33 [(vi r27.2.Op), (vi r27.2.Value), (.slice ar27_1_2 r27.2.Kids.length nr27_1_2), (vi r198.2.Op), (vi r198.2.Value), (.slice ar198_1_2 r198.2.Kids.length nr198_1_2)] hs201 le202 (fun b205 w206 hs207 => ?_)
      have hr209 : Av As 33 F16 (some ⟨b205, 0, none⟩) 2 [r27.2, r198.2] (some b205, .cells ([(vi r27.2.Op), (vi r27.2.Value), (.slice ar27_1_2 r27.2.Kids.length nr27_1_2), (vi r198.2.Op), (vi r198.2.Value), (.slice ar198_1_2 r198.2.Kids.length nr198_1_2)] : List Value).toArray 33 (0, 0)) := TH ⟨(Ba ⟨ar27_1_2, nr27_1_2, rfl, hbr27_1_2, (Tq hsr27_1_2 (le178.trans le202))⟩), ⟨(Ba ⟨ar198_1_2, nr198_1_2, rfl, hbr198_1_2, hsr198_1_2⟩), rfl⟩⟩ (by simp)
      refine Dv [5] ?_
      refine D1 6 ?_
      refine RP #[(vi 7), (vi 0), (.slice (some ⟨b205, 0, none⟩) [r27.2, r198.2].length 2)] hs207 le202 (fun w210 hs211 => ?_)
      obtain rfl := Ab h204
      exact TE (by kernel_rfl) ⟨_, rfl, F16, (some ⟨b205, 0, none⟩), 2, (some b205, .cells ([(vi r27.2.Op), (vi r27.2.Value), (.slice ar27_1_2 r27.2.Kids.length nr27_1_2), (vi r198.2.Op), (vi r198.2.Value), (.slice ar198_1_2 r198.2.Kids.length nr198_1_2)] : List Value).toArray 33 (0, 0)), ar198_0_0, nr198_0_0, hs211.dr2.dr2.dr2, le202, fI, hr209, hbr198_0_0, hsr198_0_0⟩
     ·rintro b212 F17 w213 rfl hs214 le215
      have h216 := Bo h197
      obtain rfl := Ab h216
      exact ⟨rfl, _, _, rfl, rfl, hs214.dr0.dr0.dr0.dr0, le215⟩
    ·rintro f w185 ⟨J194, rfl, F15, aj189_1, nj189_1, ej189_1, aj189_2, nj189_2, hs186, le187, ⟨_, rfl⟩, hrj189_1, hbj189_2, hsj189_2⟩
     have h218 := BM h193
     refine Ad ?_
     refine Rt ?_
     refine Ao ?_
     refine Aj ?_
     refine Ao ?_
     refine Aj ?_
     have hb222 := TF hrj189_1
     obtain ⟨F18, hs219, le220, hs221⟩ := hs186.fr0 hrj189_1
     obtain rfl := Ab h218
     exact ⟨rfl, (.agg #[(vi J194.1), (vi 0), (.slice aj189_1 J194.2.1.length nj189_1)]), AE (l := [.cell 2 33]) (by kernel_rfl) (vs := [(.agg #[(vi J194.1), (vi 0), (.slice aj189_1 J194.2.1.length nj189_1)])]) ⟨b21, 0, rfl, Am (t := 33) (g := true) (s := 3) (by kernel_rfl) hs219.at1 rfl (by decide), trivial⟩, .inl ⟨_, F18, _, _, rfl, rfl, hs219.dr1, (((le31.trans le178).trans le187).trans le220), ⟨aj189_2, nj189_2, aj189_1, nj189_1, rfl, rfl, hbj189_2, (Tq hsj189_2 le220), hb222, hs221⟩⟩⟩
    ·rintro c f w224 ⟨hd227, b223, F19, rfl, rfl, hs225, le226⟩
     have h228 := Bo h193
     refine Ap ?_
     refine Bf ?_
     refine Ap ?_
     refine Bf ?_
     refine Ap ?_
     obtain rfl := Ab h228
     exact ⟨hd227, .inr ⟨_, F19, rfl, rfl, hs225, ((le31.trans le178).trans le226)⟩⟩
   ·refine Sc ?_
    refine AA ?_
    refine Ad ?_
    refine URL.step ?_
    refine Sq (Rg [0, 1] ?_)
    refine RWP.litNext1  (e := ⟨(.string ⟨(([61] : TN)).toArray⟩), (vi 6), 0⟩) (dst := (some 11)) (ty := 0) (g := none) (by kernel_rfl) rfl (x := (.tmp 10)) (r := b46) (ki := 1) (km := 2) rfl hs177 rfl rfl (by kernel_rfl) (by kernel_rfl) ?_
    ·rintro w229 (hs230 : HS wb Fb w229 F14 ((sb bp0 (Ah r173.1 ar173_0_0 nr173_0_0) 100) :: (some b46, (.mapIter (some b39) 2 #[1, 0] 2)) :: (some b39, (.map #[⟨(.string ⟨(([61] : TN)).toArray⟩), (vi 6), 0⟩, ⟨(.string ⟨(([60] : TN)).toArray⟩), (vi 7), 1⟩] 2)) :: (sb b34 (Ai r27.2 ar27_1_2 nr27_1_2) 33) :: (sb b21 #[(vi 0), (vi 0), (.slice none ([] : List Expr).length 0)] 33) :: Lf))
     refine Vs 1 ?_
     refine Nss ?_
     refine C1 (rfl : true = true) ?_
     refine Sc ?_
     refine Ad ?_
     refine Bk ?_
     refine Sq (Rg [0, 1, 2, 3, 4] ?_)
     refine V 13 0 (Fg (x := (.tmp 10)) (en := ⟨(.string ⟨(([61] : TN)).toArray⟩), (vi 6), 0⟩) rfl (hs230.ownAt (k := 1) rfl) (hs230.ownAt (k := 2) rfl) rfl rfl) ?_
     refine Vs 4 ?_
     refine Nss (Rg [0, 1, 2] ?_)
     refine Vs 2 ?_
     obtain ⟨r231, hr232, h233⟩ := bind_some h182
     refine CB AP (AV N bp0 r173.1 ar173_0_0 nr173_0_0 hbr173_0_0 hsr173_0_0 (([61] : TN)) hs230 _ hr232) ?_
     rintro _ F20 w234 _ hs235 le236 ⟨ar231_0_0, nr231_0_0, rfl, rfl, hbr231_0_0, hsr231_0_0⟩
     refine Nt ?_
     refine Cd h233 (fun hb238 h239 => ?_) (fun hb238 h240 => ?_)
     ·refine Sq ?_
      obtain ⟨j247, hj250, h251⟩ := bind_some h239
      refine RDP 6 7 [(some b46, (.mapIter (some b39) 2 #[1, 0] 2)), (some b39, (.map #[⟨(.string ⟨(([61] : TN)).toArray⟩), (vi 6), 0⟩, ⟨(.string ⟨(([60] : TN)).toArray⟩), (vi 7), 1⟩] 2)), (sb b34 (Ai r27.2 ar27_1_2 nr27_1_2) 33)] [(sb b21 #[(vi 0), (vi 0), (.slice none ([] : List Expr).length 0)] 33)] hs235 (fun c d w => d = [] /\ ∃ (b : Ak) (Fp : Mem), j247 = .inl b /\ c = [{ v := (.iface 158 (.agg (A3 b))), recovered := false }] /\ HS wb Fb w Fp Lf /\ Tn F20 Fp) (fun f w => ∃ (J252 : (Int × List Expr × List An × Int)), j247 = .inr J252 /\ ∃ (F21 : Mem) (aj247_1 : TO) (nj247_1 : Nat) (ej247_1 : Option Nat × Obj) (aj247_2 : TO) (nj247_2 : Nat), HS wb Fb w F21 (ej247_1 :: (sb bp0 #[(.slice aj247_2 J252.2.2.1.length nj247_2), (vi J252.2.2.2)] 100) :: (sb b21 #[(vi J252.1), (vi 0), (.slice aj247_1 J252.2.1.length nj247_1)] 33) :: Lf) /\ Tn F20 F21 /\ FI f [] [(2, (pt b21 0))] /\ Av As 33 F21 aj247_1 nj247_1 J252.2.1 ej247_1 /\ LC J252.2.2.1.length nj247_2 /\ SlA Al F21 aj247_2 J252.2.2.1) (fun wd241 hw242 => ?_) ?_ ?_
      ·refine Dv [0] ?_
       refine Dl 1 (fun _ hq => (hq.1.2 2 _ _ rfl)) ?_
       refine Dv [2] ?_
       refine D1 3 ?_
       obtain ⟨r253, hr254, h255⟩ := bind_some hj250
       refine DCP Cu (hsR233 (hG.mono ((le31.trans le178).trans le236)) bp0 r231.1 ar231_0_0 nr231_0_0 hbr231_0_0 hsr231_0_0 hw242 _ hr254) ?_ ?_
       ·rintro r256 _ F22 w258 _ rfl hs259 le260 ⟨ar256_0_0, nr256_0_0, ar256_1_2, nr256_1_2, rfl, rfl, hbr256_0_0, hsr256_0_0, hbr256_1_2, hsr256_1_2⟩
        have h262 := BM h255
        refine ⟨Bg hs259 le260 (by simp) (fun _ => by simp), ?_⟩
        refine D1 4 ?_
        refine DBs 33 [(vi r27.2.Op), (vi r27.2.Value), (.slice ar27_1_2 r27.2.Kids.length nr27_1_2), (vi r256.2.Op), (vi r256.2.Value), (.slice ar256_1_2 r256.2.Kids.length nr256_1_2)] hs259 le260 (fun b263 w264 hs265 => ?_)
        have hr267 : Av As 33 F22 (some ⟨b263, 0, none⟩) 2 [r27.2, r256.2] (some b263, .cells ([(vi r27.2.Op), (vi r27.2.Value), (.slice ar27_1_2 r27.2.Kids.length nr27_1_2), (vi r256.2.Op), (vi r256.2.Value), (.slice ar256_1_2 r256.2.Kids.length nr256_1_2)] : List Value).toArray 33 (0, 0)) := TH ⟨(Ba ⟨ar27_1_2, nr27_1_2, rfl, hbr27_1_2, (Tq hsr27_1_2 ((le178.trans le236).trans le260))⟩), ⟨(Ba ⟨ar256_1_2, nr256_1_2, rfl, hbr256_1_2, hsr256_1_2⟩), rfl⟩⟩ (by simp)
        refine Dv [5] ?_
        refine D1 6 ?_
        refine RP #[(vi 6), (vi 0), (.slice (some ⟨b263, 0, none⟩) [r27.2, r256.2].length 2)] hs265 le260 (fun w268 hs269 => ?_)
        obtain rfl := Ab h262
        exact TE (by kernel_rfl) ⟨_, rfl, F22, (some ⟨b263, 0, none⟩), 2, (some b263, .cells ([(vi r27.2.Op), (vi r27.2.Value), (.slice ar27_1_2 r27.2.Kids.length nr27_1_2), (vi r256.2.Op), (vi r256.2.Value), (.slice ar256_1_2 r256.2.Kids.length nr256_1_2)] : List Value).toArray 33 (0, 0)), ar256_0_0, nr256_0_0, hs269.dr2.dr2.dr2, le260, fI, hr267, hbr256_0_0, hsr256_0_0⟩
       ·rintro b270 F23 w271 rfl hs272 le273
        have h274 := Bo h255
        obtain rfl := Ab h274
        exact ⟨rfl, _, _, rfl, rfl, hs272.dr0.dr0.dr0.dr0, le273⟩
      ·rintro f w243 ⟨J252, rfl, F21, aj247_1, nj247_1, ej247_1, aj247_2, nj247_2, hs244, le245, ⟨_, rfl⟩, hrj247_1, hbj247_2, hsj247_2⟩
       have h276 := BM h251
       refine Ad ?_
       refine Rt ?_
       refine Ao ?_
       refine Aj ?_
       refine Ao ?_
       refine Aj ?_
       have hb280 := TF hrj247_1
       obtain ⟨F24, hs277, le278, hs279⟩ := hs244.fr0 hrj247_1
       obtain rfl := Ab h276
       exact ⟨rfl, (.agg #[(vi J252.1), (vi 0), (.slice aj247_1 J252.2.1.length nj247_1)]), AE (l := [.cell 2 33]) (by kernel_rfl) (vs := [(.agg #[(vi J252.1), (vi 0), (.slice aj247_1 J252.2.1.length nj247_1)])]) ⟨b21, 0, rfl, Am (t := 33) (g := true) (s := 3) (by kernel_rfl) hs277.at1 rfl (by decide), trivial⟩, .inl ⟨_, F24, _, _, rfl, rfl, hs277.dr1, ((((le31.trans le178).trans le236).trans le245).trans le278), ⟨aj247_2, nj247_2, aj247_1, nj247_1, rfl, rfl, hbj247_2, (Tq hsj247_2 le278), hb280, hs279⟩⟩⟩
      ·rintro c f w282 ⟨hd285, b281, F25, rfl, rfl, hs283, le284⟩
       have h286 := Bo h251
       refine Ap ?_
       refine Bf ?_
       refine Ap ?_
       refine Bf ?_
       refine Ap ?_
       obtain rfl := Ab h286
       exact ⟨hd285, .inr ⟨_, F25, rfl, rfl, hs283, (((le31.trans le178).trans le236).trans le284)⟩⟩
     ·refine Sc ?_
      refine AA ?_
      refine Ad ?_
      refine URL.step ?_
      refine Sq (Rg [0, 1] ?_)
      refine RWP.litNext0  (dst := (some 11)) (ty := 0) (g := none) (by kernel_rfl) rfl (x := (.tmp 10)) (r := b46) (ki := 1) (km := 2) rfl hs235 rfl rfl (by kernel_rfl) (by kernel_rfl) ?_
      ·rintro w287 (hs288 : HS wb Fb w287 F20 ((sb bp0 (Ah r231.1 ar231_0_0 nr231_0_0) 100) :: (some b46, (.mapIter (some b39) 2 #[1, 0] 2)) :: (some b39, (.map #[⟨(.string ⟨(([61] : TN)).toArray⟩), (vi 6), 0⟩, ⟨(.string ⟨(([60] : TN)).toArray⟩), (vi 7), 1⟩] 2)) :: (sb b34 (Ai r27.2 ar27_1_2 nr27_1_2) 33) :: (sb b21 #[(vi 0), (vi 0), (.slice none ([] : List Expr).length 0)] 33) :: Lf))
       refine Vs 1 ?_
       refine Nss ?_
       refine C0 (rfl : false = false) ?_
       refine Ex ?_
       refine AC ?_
       refine AC ?_
       refine AL rfl ?_
       refine Ad ?_
       refine Sq (Rg [0, 1] ?_)
       refine Ld hs288.at3 ?_
       refine St4 (Ai r27.2 ar27_1_2 nr27_1_2) hs288 (fun w289 hs290 => ?_)
       refine Nt ?_
       refine Rt ?_
       obtain rfl := Ab h240
       exact ⟨rfl, (.agg (Ai r27.2 ar27_1_2 nr27_1_2)), AE (l := [.cell 2 33]) (by kernel_rfl) (vs := [(.agg (Ai r27.2 ar27_1_2 nr27_1_2))]) ⟨b21, 0, rfl, Am (t := 33) (g := true) (s := 3) (by kernel_rfl) hs290.at4 rfl (by decide), trivial⟩, .inl ⟨_, F20, _, _, rfl, rfl, hs290.dr1.dr1.dr1.dr1, ((le31.trans le178).trans le236), ⟨ar231_0_0, nr231_0_0, ar27_1_2, nr27_1_2, rfl, rfl, hbr231_0_0, hsr231_0_0, hbr27_1_2, (Tq hsr27_1_2 (le178.trans le236))⟩⟩⟩
 ·rintro b291 F26 w292 rfl hs293 le294
  have h295 := Bo h26
  refine Ap ?_
  obtain rfl := Ab h295
  exact CI hs293.dr0 le294
def FD (N : Nat) (sR239 : Ac -> Option (Ak ⊕ (Ac × Expr))) (x0 : Ac) : Option (Ak ⊕ (Ac × Expr)) :=
 ((BB N x0 (fun y => sR239 y) (FE (FE ([] : List (TN × Int)) ([43] : TN) 8) ([45] : TN) 9)).bind fun r41 => sk r41 (fun b53 => some (.inl b53)) (fun r44 => some (.inr (r44.1, r44.2))))
theorem Iy (N : Nat) (sR239 : Ac -> Option (Ak ⊕ (Ac × Expr))) (hsR239 : Ns sR239) {wb w0 : World} {Fb F0 : Mem} {Lf : Own} (hG : Dy F0) (bp0 : Nat) (x0 : Ac) (a0_0 : TO) (n0_0 : Nat) (hb0_0 : LC x0.l_.length n0_0) (hs0_0 : SlA Al F0 a0_0 x0.l_) (hs0 : HS wb Fb w0 F0 ((sb bp0 (Ah x0 a0_0 n0_0) 100) :: Lf)) (r : (Ak ⊕ (Ac × Expr))) (h : FD N sR239 x0 = some r) :
  Calls Tryz.prog 233 ([(pt bp0 0)] : List Value).toArray w0 (Cj wb Fb F0 Lf r (fun b => (.iface 158 (.agg (A3 b)))) fun a F' v L' => ∃ (aq0_0 : TO) (nq0_0 : Nat) (aq1_2 : TO) (nq1_2 : Nat), v = (.agg (Ai a.2 aq1_2 nq1_2)) /\ L' = (sb bp0 (Ah a.1 aq0_0 nq0_0) 100) :: Lf /\ LC a.1.l_.length nq0_0 /\ SlA Al F' aq0_0 a.1.l_ /\ LC a.2.Kids.length nq1_2 /\ SlA As F' aq1_2 a.2.Kids) := by
 refine Go 9 Tryz.func233 ?_
 refine Sq (Rg [0] ?_)
 refine Al' 33 #[(vi 0), (vi 0), (.slice none ([] : List Expr).length 0)] hs0 (fun b21 w22 hs23 => ?_)
 refine Nss (Rg [0, 1, 2, 3, 4, 5, 6, 7, 8] ?_)
 refine Vs 3 ?_
 refine RWP.makeMap (t := 198) (K := Fe) (T := Do) (dst := (some 6)) (ty := 198) (g := none) (by kernel_rfl) rfl hs23 (fun b25 e26 w27 (hs28 : HS wb Fb w27 F0 (e26 :: (sb b21 #[(vi 0), (vi 0), (.slice none ([] : List Expr).length 0)] 33) :: (sb bp0 (Ah x0 a0_0 n0_0) 100) :: Lf)) hr29 => ?_)
 refine RWP.mapIns kl9 (ty := 0) (g := none) (mt := 198) (k := 9) (vt := 3) (m := (.tmp 6)) (x := (.const (.string ⟨([43] : TN).toArray⟩))) (y := (.const (vi 8))) (b := b25) (kx := ([43] : TN)) (u := 8) (kv := (.string ⟨(([43] : TN)).toArray⟩)) (v := (vi 8)) (K := Fe) (T := Do) (by kernel_rfl) rfl rfl rfl rfl ⟨_, rfl, rfl⟩ ⟨_, rfl, rfl⟩ (by kernel_rfl) hs28 (q := 0) rfl hr29 (fun e30 w31 (hs32 : HS wb Fb w31 F0 (e30 :: (sb b21 #[(vi 0), (vi 0), (.slice none ([] : List Expr).length 0)] 33) :: (sb bp0 (Ah x0 a0_0 n0_0) 100) :: Lf)) hr33 => ?_)
 refine RWP.mapIns kl9 (ty := 0) (g := none) (mt := 198) (k := 9) (vt := 3) (m := (.tmp 6)) (x := (.const (.string ⟨([45] : TN).toArray⟩))) (y := (.const (vi 9))) (b := b25) (kx := ([45] : TN)) (u := 9) (kv := (.string ⟨(([45] : TN)).toArray⟩)) (v := (vi 9)) (K := Fe) (T := Do) (by kernel_rfl) rfl rfl rfl rfl ⟨_, rfl, rfl⟩ ⟨_, rfl, rfl⟩ (by kernel_rfl) hs32 (q := 0) rfl hr33 (fun e34 w35 (hs36 : HS wb Fb w35 F0 (e34 :: (sb b21 #[(vi 0), (vi 0), (.slice none ([] : List Expr).length 0)] 33) :: (sb bp0 (Ah x0 a0_0 n0_0) 100) :: Lf)) hr37 => ?_)
 refine Vs 1 ?_
 obtain ⟨F1, hs38, le39, hm40⟩ : ∃ Fq, HS wb Fb w35 Fq ((sb b21 #[(vi 0), (vi 0), (.slice none ([] : List Expr).length 0)] 33) :: (sb bp0 (Ah x0 a0_0 n0_0) 100) :: Lf) /\ Tn F0 Fq /\ MpA Fe Do Fq (some b25) (FE (FE ([] : List (TN × Int)) ([43] : TN) 8) ([45] : TN) 9) := HS.freezeMap hs36 (i := 0) rfl hr37
 obtain ⟨r41, hr42, h43⟩ := bind_some h
 refine CP Cb (Cn N (hG.mono le39) bp0 x0 a0_0 n0_0 hb0_0 (Tq hs0_0 le39) 239 [(pt bp0 0)] ([] : List Value) (fun y => sR239 y) HA (fun {_ _ _ _ _} hGe y ay_0 ny_0 hby_0 hsy_0 hs r h => hsR239 hGe bp0 y ay_0 ny_0 hby_0 hsy_0 hs r h) ((FE (FE ([] : List (TN × Int)) ([43] : TN) 8) ([45] : TN) 9)) (some b25) hm40 hs38.pk1 _ hr42) ?_ ?_
 ·rintro r44 _ F2 w46 _ rfl hs47 le48 ⟨ar44_0_0, nr44_0_0, ar44_1_2, nr44_1_2, rfl, rfl, hbr44_0_0, hsr44_0_0, hbr44_1_2, hsr44_1_2⟩
  have h50 := BM h43
  refine St1 (Ai r44.2 ar44_1_2 nr44_1_2) hs47 (fun w51 hs52 => ?_)
  refine Nt ?_
  refine Rt ?_
  obtain rfl := Ab h50
  exact ⟨rfl, (.agg (Ai r44.2 ar44_1_2 nr44_1_2)), AE (l := [.cell 2 33]) (by kernel_rfl) (vs := [(.agg (Ai r44.2 ar44_1_2 nr44_1_2))]) ⟨b21, 0, rfl, Am (t := 33) (g := true) (s := 3) (by kernel_rfl) hs52.at1 rfl (by decide), trivial⟩, .inl ⟨_, F2, _, _, rfl, rfl, hs52.dr1, (le39.trans le48), ⟨ar44_0_0, nr44_0_0, ar44_1_2, nr44_1_2, rfl, rfl, hbr44_0_0, hsr44_0_0, hbr44_1_2, hsr44_1_2⟩⟩⟩
 ·rintro b53 F3 w54 rfl hs55 le56
  have h57 := Bo h43
  refine Ap ?_
  obtain rfl := Ab h57
  exact CI hs55.dr0 (le39.trans le56)
def E4 (N : Nat) (sR243 : Ac -> Option (Ak ⊕ (Ac × Expr))) (x0 : Ac) : Option (Ak ⊕ (Ac × Expr)) :=
 ((BB N x0 (fun y => sR243 y) (FE ([] : List (TN × Int)) ([42] : TN) 10)).bind fun r37 => sk r37 (fun b49 => some (.inl b49)) (fun r40 => some (.inr (r40.1, r40.2))))
theorem HR (N : Nat) (sR243 : Ac -> Option (Ak ⊕ (Ac × Expr))) (hsR243 : Nq sR243) {wb w0 : World} {Fb F0 : Mem} {Lf : Own} (hG : Dy F0) (bp0 : Nat) (x0 : Ac) (a0_0 : TO) (n0_0 : Nat) (hb0_0 : LC x0.l_.length n0_0) (hs0_0 : SlA Al F0 a0_0 x0.l_) (hs0 : HS wb Fb w0 F0 ((sb bp0 (Ah x0 a0_0 n0_0) 100) :: Lf)) (r : (Ak ⊕ (Ac × Expr))) (h : E4 N sR243 x0 = some r) :
  Calls Tryz.prog 239 ([(pt bp0 0)] : List Value).toArray w0 (Cj wb Fb F0 Lf r (fun b => (.iface 158 (.agg (A3 b)))) fun a F' v L' => ∃ (aq0_0 : TO) (nq0_0 : Nat) (aq1_2 : TO) (nq1_2 : Nat), v = (.agg (Ai a.2 aq1_2 nq1_2)) /\ L' = (sb bp0 (Ah a.1 aq0_0 nq0_0) 100) :: Lf /\ LC a.1.l_.length nq0_0 /\ SlA Al F' aq0_0 a.1.l_ /\ LC a.2.Kids.length nq1_2 /\ SlA As F' aq1_2 a.2.Kids) := by
 refine Go 9 Tryz.func239 ?_
 refine Sq (Rg [0] ?_)
 refine Al' 33 #[(vi 0), (vi 0), (.slice none ([] : List Expr).length 0)] hs0 (fun b21 w22 hs23 => ?_)
 refine Nss (Rg [0, 1, 2, 3, 4, 5, 6, 7] ?_)
 refine Vs 3 ?_
 refine RWP.makeMap (t := 198) (K := Fe) (T := Do) (dst := (some 6)) (ty := 198) (g := none) (by kernel_rfl) rfl hs23 (fun b25 e26 w27 (hs28 : HS wb Fb w27 F0 (e26 :: (sb b21 #[(vi 0), (vi 0), (.slice none ([] : List Expr).length 0)] 33) :: (sb bp0 (Ah x0 a0_0 n0_0) 100) :: Lf)) hr29 => ?_)
 refine RWP.mapIns kl9 (ty := 0) (g := none) (mt := 198) (k := 9) (vt := 3) (m := (.tmp 6)) (x := (.const (.string ⟨([42] : TN).toArray⟩))) (y := (.const (vi 10))) (b := b25) (kx := ([42] : TN)) (u := 10) (kv := (.string ⟨(([42] : TN)).toArray⟩)) (v := (vi 10)) (K := Fe) (T := Do) (by kernel_rfl) rfl rfl rfl rfl ⟨_, rfl, rfl⟩ ⟨_, rfl, rfl⟩ (by kernel_rfl) hs28 (q := 0) rfl hr29 (fun e30 w31 (hs32 : HS wb Fb w31 F0 (e30 :: (sb b21 #[(vi 0), (vi 0), (.slice none ([] : List Expr).length 0)] 33) :: (sb bp0 (Ah x0 a0_0 n0_0) 100) :: Lf)) hr33 => ?_)
 refine Vs 1 ?_
 obtain ⟨F1, hs34, le35, hm36⟩ : ∃ Fq, HS wb Fb w31 Fq ((sb b21 #[(vi 0), (vi 0), (.slice none ([] : List Expr).length 0)] 33) :: (sb bp0 (Ah x0 a0_0 n0_0) 100) :: Lf) /\ Tn F0 Fq /\ MpA Fe Do Fq (some b25) (FE ([] : List (TN × Int)) ([42] : TN) 10) := HS.freezeMap hs32 (i := 0) rfl hr33
 obtain ⟨r37, hr38, h39⟩ := bind_some h
 refine CP Cb (Cn N (hG.mono le35) bp0 x0 a0_0 n0_0 hb0_0 (Tq hs0_0 le35) 243 [(pt bp0 0)] ([] : List Value) (fun y => sR243 y) HC (fun {_ _ _ _ _} hGe y ay_0 ny_0 hby_0 hsy_0 hs r h => hsR243 hGe bp0 y ay_0 ny_0 hby_0 hsy_0 hs r h) ((FE ([] : List (TN × Int)) ([42] : TN) 10)) (some b25) hm36 hs34.pk1 _ hr38) ?_ ?_
 ·rintro r40 _ F2 w42 _ rfl hs43 le44 ⟨ar40_0_0, nr40_0_0, ar40_1_2, nr40_1_2, rfl, rfl, hbr40_0_0, hsr40_0_0, hbr40_1_2, hsr40_1_2⟩
  have h46 := BM h39
  refine St1 (Ai r40.2 ar40_1_2 nr40_1_2) hs43 (fun w47 hs48 => ?_)
  refine Nt ?_
  refine Rt ?_
  obtain rfl := Ab h46
  exact ⟨rfl, (.agg (Ai r40.2 ar40_1_2 nr40_1_2)), AE (l := [.cell 2 33]) (by kernel_rfl) (vs := [(.agg (Ai r40.2 ar40_1_2 nr40_1_2))]) ⟨b21, 0, rfl, Am (t := 33) (g := true) (s := 3) (by kernel_rfl) hs48.at1 rfl (by decide), trivial⟩, .inl ⟨_, F2, _, _, rfl, rfl, hs48.dr1, (le35.trans le44), ⟨ar40_0_0, nr40_0_0, ar40_1_2, nr40_1_2, rfl, rfl, hbr40_0_0, hsr40_0_0, hbr40_1_2, hsr40_1_2⟩⟩⟩
 ·rintro b49 F3 w50 rfl hs51 le52
  have h53 := Bo h39
  refine Ap ?_
  obtain rfl := Ab h53
  exact CI hs51.dr0 (le35.trans le52)
def AY (N : Nat) (x0 : Ac) (x1 : Int) (x2 : Int) : Option (Ak ⊕ Unit) :=
 some (.inl ({ e_ := x1, at_ := x2 } : Ak))
theorem AR : Au Tryz.prog 87 := fun _ _ => by kernel_rfl
theorem AZ (N : Nat) {wb w0 : World} {Fb F0 : Mem} {Lf : Own} (bp0 : Nat) (x0 : Ac) (a0_0 : TO) (n0_0 : Nat) (hb0_0 : LC x0.l_.length n0_0) (hs0_0 : SlA Al F0 a0_0 x0.l_) (x1 : Int) (x2 : Int) (hs0 : HS wb Fb w0 F0 ((sb bp0 (Ah x0 a0_0 n0_0) 100) :: Lf)) (r : (Ak ⊕ Unit)) (h : AY N x0 x1 x2 = some r) :
  Calls Tryz.prog 87 ([(pt bp0 0), (vi x1), (vi x2)] : List Value).toArray w0 (Cj wb Fb F0 Lf r (fun b => (.iface 158 (.agg (A3 b)))) fun a F' v L' => v = (.tuple #[]) /\ L' = (sb bp0 (Ah x0 a0_0 n0_0) 100) :: Lf) := by
 refine Go 10 Tryz.func87 ?_
 refine Rg [0, 1, 2, 3, 4] ?_
 refine Vs 3 ?_
 refine V 9 20 (GM (t := 158) (x := (.tmp 8)) (v := (.agg #[(vi x1), (vi x2)])) rfl (by kernel_rfl)) ?_
 refine RWP.panics (dst := none) (ty := 0) (g := none) (by kernel_rfl) rfl (PE (x := (.tmp 9)) (t := 158) (v := (.agg #[(vi x1), (vi x2)])) rfl) rfl ?_
 obtain rfl := Ab h
 exact CI hs0.dr0 (To _)
def AG (N : Nat) (x0 : Ac) (x1 : TN) : Option (Ak ⊕ Ac) :=
 ((Aw N x0 x1).bind fun r21 => (bif (!r21.2) then ((idx r21.1.l_ 0).bind fun x31 => ((AY N r21.1 60 x31.at_).bind fun r45 => sk r45 (fun b50 => some (.inl b50)) (fun r48 => none))) else some (.inr r21.1)))
theorem A4 : Au Tryz.prog 135 := fun _ _ => by kernel_rfl
theorem A7 (N : Nat) {wb w0 : World} {Fb F0 : Mem} {Lf : Own} (bp0 : Nat) (x0 : Ac) (a0_0 : TO) (n0_0 : Nat) (hb0_0 : LC x0.l_.length n0_0) (hs0_0 : SlA Al F0 a0_0 x0.l_) (x1 : TN) (hs0 : HS wb Fb w0 F0 ((sb bp0 (Ah x0 a0_0 n0_0) 100) :: Lf)) (r : (Ak ⊕ Ac)) (h : AG N x0 x1 = some r) :
  Calls Tryz.prog 135 ([(pt bp0 0), (.string ⟨(x1).toArray⟩)] : List Value).toArray w0 (Cj wb Fb F0 Lf r (fun b => (.iface 158 (.agg (A3 b)))) fun a F' v L' => ∃ (aq0_0 : TO) (nq0_0 : Nat), v = (.tuple #[]) /\ L' = (sb bp0 (Ah a aq0_0 nq0_0) 100) :: Lf /\ LC a.l_.length nq0_0 /\ SlA Al F' aq0_0 a.l_) := by
 refine Go 17 Tryz.func135 ?_
 refine Sq (Rg [0, 1, 2, 3] ?_)
 refine Vs 2 ?_
 obtain ⟨r21, hr22, h23⟩ := bind_some h
 refine CB AP (AV N bp0 x0 a0_0 n0_0 hb0_0 hs0_0 x1 hs0 _ hr22) ?_
 rintro _ F1 w24 _ hs25 le26 ⟨ar21_0_0, nr21_0_0, rfl, rfl, hbr21_0_0, hsr21_0_0⟩
 refine Vs 1 ?_
 refine Nt ?_
 refine Cd h23 (fun hb28 h29 => ?_) (fun hb28 h30 => ?_)
 ·refine Rg [0, 1, 2, 3, 4, 5, 6, 7, 8] ?_
  refine Vs 4 ?_
  refine Ld hs25.at0 ?_
  obtain ⟨x31, hx32, h34⟩ := bind_some h29
  obtain ⟨hi33, hx32'⟩ := Az hx32
  obtain ⟨b35, o36, C37, E38, fz39, rfl, hF41, hE42⟩ := Tx hsr21_0_0 hx32'
  have hc44 := hE42 _ _ hx32'
  refine Ix hi33 ?_
  refine Vs 1 ?_
  refine Lx 1 (hs25.pers _ _ hF41) hc44 ?_
  obtain ⟨r45, hr46, h47⟩ := bind_some h34
  refine CP AR (AZ N bp0 r21.1 (some ⟨b35, o36, none⟩) nr21_0_0 hbr21_0_0 hsr21_0_0 60 x31.at_ hs25 _ hr46) ?_ ?_
  ·rintro _ _ _ _ _ rfl _ _ _; cases hr46
  ·rintro b50 F3 w51 rfl hs52 le53
   have h54 := Bo h47
   obtain rfl := Ab h54
   exact CI hs52 (le26.trans le53)
 ·refine Sc ?_
  obtain rfl := Ab h30
  exact ReP [] hs25 le26 ⟨ar21_0_0, nr21_0_0, rfl, rfl, hbr21_0_0, hsr21_0_0⟩
def FY (N : Nat)  : Option (List TN) :=
 some [([98, 97, 110, 100] : TN), ([109, 111, 100, 101] : TN), ([104, 111, 117, 114] : TN), ([109, 121, 99, 111, 117, 110, 116, 114, 121] : TN), ([109, 121, 122, 111, 110, 101] : TN), ([109, 121, 99, 111, 110, 116, 105, 110, 101, 110, 116] : TN), ([99, 111, 117, 110, 116, 114, 121] : TN), ([122, 111, 110, 101] : TN), ([99, 111, 110, 116, 105, 110, 101, 110, 116] : TN), ([99, 97, 108, 108] : TN), ([103, 111, 116, 122, 111, 110, 101] : TN), ([99, 97, 116, 101, 103, 111, 114, 121] : TN), ([112, 111, 119, 101, 114] : TN), ([115, 116, 97, 116, 117, 115] : TN)]
theorem HE : Au Tryz.prog 152 := fun _ _ => by kernel_rfl
theorem IQ (N : Nat) (w0 : World) (F0 : Mem) (hF : TP w0 F0)  (r : (List TN)) (h : FY N  = some r) :
  Calls Tryz.prog 152 ([] : List Value).toArray w0 (Bd w0 F0 fun F' v => ∃ (aq0_0 : TO) (nq0_0 : Nat), v = (.slice aq0_0 r.length nq0_0) /\ LC r.length nq0_0 /\ SlA Fe F' aq0_0 r) := by
 have hs0 := Tp hF
 refine Go 2 Tryz.func152 ?_
 refine Sq (Rg [0] ?_)
 refine Vs 1 ?_
 refine Nss (Rg [0, 1] ?_)
 refine Bs 9 [(.string ⟨(([98, 97, 110, 100] : TN)).toArray⟩), (.string ⟨(([109, 111, 100, 101] : TN)).toArray⟩), (.string ⟨(([104, 111, 117, 114] : TN)).toArray⟩), (.string ⟨(([109, 121, 99, 111, 117, 110, 116, 114, 121] : TN)).toArray⟩), (.string ⟨(([109, 121, 122, 111, 110, 101] : TN)).toArray⟩), (.string ⟨(([109, 121, 99, 111, 110, 116, 105, 110, 101, 110, 116] : TN)).toArray⟩), (.string ⟨(([99, 111, 117, 110, 116, 114, 121] : TN)).toArray⟩), (.string ⟨(([122, 111, 110, 101] : TN)).toArray⟩), (.string ⟨(([99, 111, 110, 116, 105, 110, 101, 110, 116] : TN)).toArray⟩), (.string ⟨(([99, 97, 108, 108] : TN)).toArray⟩), (.string ⟨(([103, 111, 116, 122, 111, 110, 101] : TN)).toArray⟩), (.string ⟨(([99, 97, 116, 101, 103, 111, 114, 121] : TN)).toArray⟩), (.string ⟨(([112, 111, 119, 101, 114] : TN)).toArray⟩), (.string ⟨(([115, 116, 97, 116, 117, 115] : TN)).toArray⟩)] hs0 (fun b21 w22 hs23 => ?_)
 have hr25 : Av Fe 9 F0 (some ⟨b21, 0, none⟩) 14 [([98, 97, 110, 100] : TN), ([109, 111, 100, 101] : TN), ([104, 111, 117, 114] : TN), ([109, 121, 99, 111, 117, 110, 116, 114, 121] : TN), ([109, 121, 122, 111, 110, 101] : TN), ([109, 121, 99, 111, 110, 116, 105, 110, 101, 110, 116] : TN), ([99, 111, 117, 110, 116, 114, 121] : TN), ([122, 111, 110, 101] : TN), ([99, 111, 110, 116, 105, 110, 101, 110, 116] : TN), ([99, 97, 108, 108] : TN), ([103, 111, 116, 122, 111, 110, 101] : TN), ([99, 97, 116, 101, 103, 111, 114, 121] : TN), ([112, 111, 119, 101, 114] : TN), ([115, 116, 97, 116, 117, 115] : TN)] (some b21, .cells ([(.string ⟨(([98, 97, 110, 100] : TN)).toArray⟩), (.string ⟨(([109, 111, 100, 101] : TN)).toArray⟩), (.string ⟨(([104, 111, 117, 114] : TN)).toArray⟩), (.string ⟨(([109, 121, 99, 111, 117, 110, 116, 114, 121] : TN)).toArray⟩), (.string ⟨(([109, 121, 122, 111, 110, 101] : TN)).toArray⟩), (.string ⟨(([109, 121, 99, 111, 110, 116, 105, 110, 101, 110, 116] : TN)).toArray⟩), (.string ⟨(([99, 111, 117, 110, 116, 114, 121] : TN)).toArray⟩), (.string ⟨(([122, 111, 110, 101] : TN)).toArray⟩), (.string ⟨(([99, 111, 110, 116, 105, 110, 101, 110, 116] : TN)).toArray⟩), (.string ⟨(([99, 97, 108, 108] : TN)).toArray⟩), (.string ⟨(([103, 111, 116, 122, 111, 110, 101] : TN)).toArray⟩), (.string ⟨(([99, 97, 116, 101, 103, 111, 114, 121] : TN)).toArray⟩), (.string ⟨(([112, 111, 119, 101, 114] : TN)).toArray⟩), (.string ⟨(([115, 116, 97, 116, 117, 115] : TN)).toArray⟩)] : List Value).toArray 9 (0, 0)) := TH ⟨rfl, ⟨rfl, ⟨rfl, ⟨rfl, ⟨rfl, ⟨rfl, ⟨rfl, ⟨rfl, ⟨rfl, ⟨rfl, ⟨rfl, ⟨rfl, ⟨rfl, ⟨rfl, rfl⟩⟩⟩⟩⟩⟩⟩⟩⟩⟩⟩⟩⟩⟩ (by simp)
 refine Vs 1 ?_
 refine Nt ?_
 refine Rt ?_
 have hb29 := TF hr25
 obtain ⟨F1, hs26, le27, hs28⟩ := hs23.fr0 hr25
 obtain rfl := Ab h
 exact Re [(.slice (some ⟨b21, 0, none⟩) [([98, 97, 110, 100] : TN), ([109, 111, 100, 101] : TN), ([104, 111, 117, 114] : TN), ([109, 121, 99, 111, 117, 110, 116, 114, 121] : TN), ([109, 121, 122, 111, 110, 101] : TN), ([109, 121, 99, 111, 110, 116, 105, 110, 101, 110, 116] : TN), ([99, 111, 117, 110, 116, 114, 121] : TN), ([122, 111, 110, 101] : TN), ([99, 111, 110, 116, 105, 110, 101, 110, 116] : TN), ([99, 97, 108, 108] : TN), ([103, 111, 116, 122, 111, 110, 101] : TN), ([99, 97, 116, 101, 103, 111, 114, 121] : TN), ([112, 111, 119, 101, 114] : TN), ([115, 116, 97, 116, 117, 115] : TN)].length 14)] hs26 ⟨(some ⟨b21, 0, none⟩), 14, rfl, hb29, hs28⟩
def BQ (N : Nat) (x0 : (List TN)) (x1 : TN) : Int -> Option (Bv Int Int) := fun s24 =>
 (bif (decide (s24 < (x0.length : Int))) then ((idx x0 s24).bind fun x47 => (bif (x1 == x47) then some (.ret s24) else some (.next (W64 (s24 + 1))))) else some (.done s24))
def B1 (N : Nat) (x0 : (List TN)) (x1 : TN) : Option Int :=
 ((Be (BQ N x0 x1) N 0).bind fun o => o.k (fun r => some r) (fun s33 => some (-1)))
theorem EN : Au Tryz.prog 247 := fun _ _ => by kernel_rfl
theorem E1 (N : Nat) (w0 : World) (F0 : Mem) (hF : TP w0 F0) (x0 : (List TN)) (a0_0 : TO) (n0_0 : Nat) (hb0_0 : LC x0.length n0_0) (hs0_0 : SlA Fe F0 a0_0 x0) (x1 : TN) (r : Int) (h : B1 N x0 x1 = some r) :
  Calls Tryz.prog 247 ([(.slice a0_0 x0.length n0_0), (.string ⟨(x1).toArray⟩)] : List Value).toArray w0 (Bd w0 F0 fun F' v => v = (vi r)) := by
 have hs0 := Tp hF
 refine Go 19 Tryz.func247 ?_
 refine Sq (Rg [0] ?_)
 refine Vs 1 ?_
 refine Nss ?_
 refine Sq (Rg [0, 1, 2] ?_)
 refine Vs 3 ?_
 refine Nt ?_
 obtain ⟨o21, ho22, h23⟩ := bind_some h
 refine Tu (fun f w => ∃ (s33 : Int) (F2 : Mem), o21 = .done s33 /\ HS w0 F0 w F2 [] /\ Tn F0 F2 /\ FI f [] []) ?_ ?_
 ·refine Bk ?_
  refine Tm (by kernel_rfl) (fun m f w => ∃ (s24 : Int) (F1 : Mem), Be (BQ N x0 x1) m s24 = some o21 /\ HS w0 F0 w F1 [] /\ Tn F0 F1 /\ FI f [] [(0, (.slice a0_0 x0.length n0_0)), (1, (.string ⟨(x1).toArray⟩)), (7, (vi (x0.length : Int))), (8, (vi s24))]) N ⟨0, F0, ho22, hs0, (To _), fI⟩ ?_
  rintro m38 f w25 ⟨s24, F1, hit39, hs26, le27, ⟨_, rfl⟩⟩
  obtain ⟨m40, fl41, rfl, hb42, hnx43⟩ := A5 hit39
  refine Sq (Rg [0] ?_)
  refine Vs 1 ?_
  refine Nss ?_
  refine Cd hb42 (fun hb44 h45 => ?_) (fun hb44 h46 => ?_)
  ·refine Sc ?_
   refine Ad ?_
   refine Sq ?_
   refine Bk ?_
   refine Sq (Rg [0, 1] ?_)
   refine Vs 2 ?_
   refine Nss (Rg [0, 1, 2, 3, 4, 5] ?_)
   refine Vs 3 ?_
   obtain ⟨x47, hx48, h50⟩ := bind_some h45
   obtain ⟨hi49, hx48'⟩ := Az hx48
   obtain ⟨b51, o52, C53, E54, fz55, rfl, hF57, hE58⟩ := Tx (Tq hs0_0 le27) hx48'
   have hc60 := hE58 _ _ hx48'
   refine Ix hi49 ?_
   refine Lx 0 (hs26.pers _ _ hF57) hc60 ?_
   refine Vs 1 ?_
   refine Nt ?_
   refine Cd h50 (fun hb61 h62 => ?_) (fun hb61 h63 => ?_)
   ·refine Sq (Rg [0, 1] ?_)
    refine Vs 2 ?_
    refine Nt ?_
    refine Rt ?_
    refine Ao ?_
    refine Aj ?_
    refine Aj ?_
    refine Ao ?_
    have hret := B9 h62 hnx43
    subst hret
    refine .inr ?_
    refine Aj ?_
    obtain rfl := Ab h23
    exact Re [(vi s24)] hs26 rfl
   ·refine Sc ?_
    refine AA ?_
    refine Ad ?_
    refine Rg [0, 1] ?_
    refine Vs 2 ?_
    refine Tj ?_
    have hn64 := AW h63 hnx43
    exact ⟨m40, Nat.lt_succ_self _, (W64 (s24 + 1)), F1, hn64, hs26, le27, fI⟩
  ·refine Ex ?_
   refine AC ?_
   refine AC ?_
   refine AL rfl ?_
   have ho65 := A8 h46 hnx43
   exact .inl ⟨rfl, s24, F1, ho65, hs26, le27, fI⟩
 ·rintro f w34 ⟨s33, F2, rfl, hs35, le36, ⟨_, rfl⟩⟩
  have h66 := BT h23
  refine Ad ?_
  refine Sq (Rg [0] ?_)
  refine Vs 1 ?_
  refine Nt ?_
  refine Rt ?_
  obtain rfl := Ab h66
  exact Re [(vi (-1))] hs35 rfl
def BV (N : Nat) (x0 : Ac) : Option (Ak ⊕ Ac) :=
 ((idx x0.l_ 0).bind fun x21 => (((AO N x0 ([40] : TN)).bind fun r45 => (bif r45 then some (x0.open_ == 32) else some false)).bind fun j38 => (bif j38 then ((AY N x0 2 x21.at_).bind fun r58 => sk r58 (fun b63 => some (.inl b63)) (fun r61 => none)) else ((AG N x0 ([40] : TN)).bind fun r69 => sk r69 (fun b81 => some (.inl b81)) (fun r72 => some (.inr ({ l_ := r72.l_, open_ := (W64 (r72.open_ + 1)) } : Ac)))))))
theorem El : Au Tryz.prog 249 := fun _ _ => by kernel_rfl
theorem EW (N : Nat) {wb w0 : World} {Fb F0 : Mem} {Lf : Own} (bp0 : Nat) (x0 : Ac) (a0_0 : TO) (n0_0 : Nat) (hb0_0 : LC x0.l_.length n0_0) (hs0_0 : SlA Al F0 a0_0 x0.l_) (hs0 : HS wb Fb w0 F0 ((sb bp0 (Ah x0 a0_0 n0_0) 100) :: Lf)) (r : (Ak ⊕ Ac)) (h : BV N x0 = some r) :
  Calls Tryz.prog 249 ([(pt bp0 0)] : List Value).toArray w0 (Cj wb Fb F0 Lf r (fun b => (.iface 158 (.agg (A3 b)))) fun a F' v L' => ∃ (aq0_0 : TO) (nq0_0 : Nat), v = (.tuple #[]) /\ L' = (sb bp0 (Ah a aq0_0 nq0_0) 100) :: Lf /\ LC a.l_.length nq0_0 /\ SlA Al F' aq0_0 a.l_) := by
 refine Go 31 Tryz.func249 ?_
 refine Sq ?_
 refine Sq (Rg [0, 1, 2, 3, 4, 5, 6, 7] ?_)
 refine Vs 3 ?_
 refine Ld hs0.at0 ?_
 obtain ⟨x21, hx22, h24⟩ := bind_some h
 obtain ⟨hi23, hx22'⟩ := Az hx22
 obtain ⟨b25, o26, C27, E28, fz29, rfl, hF31, hE32⟩ := Tx hs0_0 hx22'
 have hc34 := hE32 _ _ hx22'
 refine Ix hi23 ?_
 refine Vs 1 ?_
 refine Lx 1 (hs0.pers _ _ hF31) hc34 ?_
 refine Vs 1 ?_
 refine Nss (Rg [0, 1, 2, 3, 4, 5, 6, 7, 8] ?_)
 obtain ⟨j38, hj43, h44⟩ := bind_some h24
 refine Tt (fun f w => ∃ (F1 : Mem), HS wb Fb w F1 ((sb bp0 (Ah x0 (some ⟨b25, o26, none⟩) n0_0) 100) :: Lf) /\ Tn F0 F1 /\ FI f [] [(0, (pt bp0 0)), (2, (vi x21.at_)), (18, (.bool j38))]) ?_ ?_
 ·refine Vs 1 ?_
  obtain ⟨r45, hr46, h47⟩ := bind_some hj43
  refine CB CQ (C3 N bp0 x0 (some ⟨b25, o26, none⟩) n0_0 hb0_0 hs0_0 (([40] : TN)) hs0 _ hr46) ?_
  rintro _ F2 w48 _ hs49 le50 ⟨rfl, rfl⟩
  refine Vs 1 ?_
  refine Sp h47 (fun hb52 h53 => ?_) (fun hb52 h54 => ?_)
  ·refine Vgs hb52 3 ?_
   refine Lg hb52 hs49.at0 ?_
   refine Vgs hb52 1 ?_
   refine Pk1 hb52 ?_
   obtain rfl := Ab h53
   exact Tj ⟨rfl, F2, hs49, le50, fI⟩
  ·refine Ss hb52 5 ?_
   refine Pk0 hb52 ?_
   obtain rfl := Ab h54
   exact Tj ⟨rfl, F2, hs49, le50, fI⟩
 ·rintro f w35 ⟨F1, hs36, le37, ⟨_, rfl⟩⟩
  refine Ad ?_
  refine Cd h44 (fun hb55 h56 => ?_) (fun hb55 h57 => ?_)
  ·refine Rg [0, 1, 2] ?_
   refine Vs 2 ?_
   obtain ⟨r58, hr59, h60⟩ := bind_some h56
   refine CP AR (AZ N bp0 x0 (some ⟨b25, o26, none⟩) n0_0 hb0_0 (Tq hs0_0 le37) 2 x21.at_ hs36 _ hr59) ?_ ?_
   ·rintro _ _ _ _ _ rfl _ _ _; cases hr59
   ·rintro b63 F4 w64 rfl hs65 le66
    have h67 := Bo h60
    refine Ap ?_
    obtain rfl := Ab h67
    exact CI hs65 (le37.trans le66)
  ·refine Sc ?_
   refine Ad ?_
   refine Sq (Rg [0, 1] ?_)
   refine Vs 1 ?_
   obtain ⟨r69, hr70, h71⟩ := bind_some h57
   refine CP A4 (A7 N bp0 x0 (some ⟨b25, o26, none⟩) n0_0 hb0_0 (Tq hs0_0 le37) (([40] : TN)) hs36 _ hr70) ?_ ?_
   ·rintro r72 _ F5 w74 _ rfl hs75 le76 ⟨ar72_0_0, nr72_0_0, rfl, rfl, hbr72_0_0, hsr72_0_0⟩
    have h78 := BM h71
    refine Nt ?_
    refine Rg [0, 1, 2, 3, 4, 5, 6, 7] ?_
    refine Vs 3 ?_
    refine Ld hs75.at0 ?_
    refine Vs 3 ?_
    refine St0 #[(.slice ar72_0_0 r72.l_.length nr72_0_0), (vi (W64 (r72.open_ + 1)))] hs75 (fun w79 hs80 => ?_)
    refine Tj ?_
    obtain rfl := Ab h78
    exact ReP [] hs80 (le37.trans le76) ⟨ar72_0_0, nr72_0_0, rfl, rfl, hbr72_0_0, hsr72_0_0⟩
   ·rintro b81 F6 w82 rfl hs83 le84
    have h85 := Bo h71
    refine Ap ?_
    obtain rfl := Ab h85
    exact CI hs83 (le37.trans le84)
def BU (N : Nat) (x0 : Ac) : Option (Ak ⊕ Ac) :=
 ((AG N x0 ([41] : TN)).bind fun r21 => sk r21 (fun b33 => some (.inl b33)) (fun r24 => some (.inr ({ l_ := r24.l_, open_ := (W64 (r24.open_ - 1)) } : Ac))))
theorem Ek : Au Tryz.prog 250 := fun _ _ => by kernel_rfl
theorem EV (N : Nat) {wb w0 : World} {Fb F0 : Mem} {Lf : Own} (bp0 : Nat) (x0 : Ac) (a0_0 : TO) (n0_0 : Nat) (hb0_0 : LC x0.l_.length n0_0) (hs0_0 : SlA Al F0 a0_0 x0.l_) (hs0 : HS wb Fb w0 F0 ((sb bp0 (Ah x0 a0_0 n0_0) 100) :: Lf)) (r : (Ak ⊕ Ac)) (h : BU N x0 = some r) :
  Calls Tryz.prog 250 ([(pt bp0 0)] : List Value).toArray w0 (Cj wb Fb F0 Lf r (fun b => (.iface 158 (.agg (A3 b)))) fun a F' v L' => ∃ (aq0_0 : TO) (nq0_0 : Nat), v = (.tuple #[]) /\ L' = (sb bp0 (Ah a aq0_0 nq0_0) 100) :: Lf /\ LC a.l_.length nq0_0 /\ SlA Al F' aq0_0 a.l_) := by
 refine Go 11 Tryz.func250 ?_
 refine Sq (Rg [0, 1] ?_)
 refine Vs 1 ?_
 obtain ⟨r21, hr22, h23⟩ := bind_some h
 refine CP A4 (A7 N bp0 x0 a0_0 n0_0 hb0_0 hs0_0 (([41] : TN)) hs0 _ hr22) ?_ ?_
 ·rintro r24 _ F1 w26 _ rfl hs27 le28 ⟨ar24_0_0, nr24_0_0, rfl, rfl, hbr24_0_0, hsr24_0_0⟩
  have h30 := BM h23
  refine Nt ?_
  refine Rg [0, 1, 2, 3, 4, 5, 6, 7] ?_
  refine Vs 3 ?_
  refine Ld hs27.at0 ?_
  refine Vs 3 ?_
  refine St0 #[(.slice ar24_0_0 r24.l_.length nr24_0_0), (vi (W64 (r24.open_ - 1)))] hs27 (fun w31 hs32 => ?_)
  refine Tj ?_
  obtain rfl := Ab h30
  exact ReP [] hs32 le28 ⟨ar24_0_0, nr24_0_0, rfl, rfl, hbr24_0_0, hsr24_0_0⟩
 ·rintro b33 F2 w34 rfl hs35 le36
  have h37 := Bo h23
  refine Ap ?_
  obtain rfl := Ab h37
  exact CI hs35 le36
def B4 (N : Nat) (sR145 : Ac -> Option (Ak ⊕ (Ac × Expr))) (x0 : Ac) : Option (Ak ⊕ (Ac × Expr)) :=
 ((idx x0.l_ 0).bind fun x24 => (((FY N ).bind fun r56 => ((B1 N r56 x24.text_).bind fun r64 => some r64)).bind fun j48 => (bif (x24.kind_ == 1) then ((C9 N x24.text_).bind fun r75 => (bif (r75.2 || ((decide ((x24.text_.length : Int) > 7)) || (decide (r75.1 > 1000000)))) then ((AY N x0 60 x24.at_).bind fun r97 => sk r97 (fun b102 => some (.inl b102)) (fun r100 => none)) else ((sub x0.l_ 1 (x0.l_.length : Int)).bind fun r108 => some (.inr (({ l_ := r108, open_ := x0.open_ } : Ac), ({ Op := 1, Value := r75.1, Kids := ([] : List Expr) } : Expr)))))) else (bif ((x24.kind_ == 2) && (decide (j48 >= 0))) then ((sub x0.l_ 1 (x0.l_.length : Int)).bind fun r133 => some (.inr (({ l_ := r133, open_ := x0.open_ } : Ac), ({ Op := 2, Value := j48, Kids := ([] : List Expr) } : Expr)))) else ((Aw N x0 ([105, 102] : TN)).bind fun r145 => (bif r145.2 then ((BV N r145.1).bind fun r155 => sk r155 (fun b291 => some (.inl b291)) (fun r158 => ((sR145 r158).bind fun r165 => sk r165 (fun b285 => some (.inl b285)) (fun r168 => ((AG N r168.1 ([44] : TN)).bind fun r180 => sk r180 (fun b279 => some (.inl b279)) (fun r183 => ((sR145 r183).bind fun r190 => sk r190 (fun b273 => some (.inl b273)) (fun r193 => ((AG N r193.1 ([44] : TN)).bind fun r206 => sk r206 (fun b267 => some (.inl b267)) (fun r209 => ((sR145 r209).bind fun r216 => sk r216 (fun b261 => some (.inl b261)) (fun r219 => ((BU N r219.1).bind fun r232 => sk r232 (fun b254 => some (.inl b254)) (fun r235 => some (.inr (r235, ({ Op := 11, Value := 0, Kids := [r168.2, r193.2, r219.2] } : Expr))))))))))))))))) else ((AO N r145.1 ([40] : TN)).bind fun r297 => (bif r297 then ((BV N r145.1).bind fun r307 => sk r307 (fun b356 => some (.inl b356)) (fun r310 => ((sR145 r310).bind fun r317 => sk r317 (fun b350 => some (.inl b350)) (fun r320 => ((BU N r320.1).bind fun r332 => sk r332 (fun b344 => some (.inl b344)) (fun r335 => some (.inr (r335, r320.2)))))))) else ((AY N r145.1 60 x24.at_).bind fun r362 => sk r362 (fun b367 => some (.inl b367)) (fun r365 => none))))))))))
theorem HT (N : Nat) (sR145 : Ac -> Option (Ak ⊕ (Ac × Expr))) (hsR145 : NF sR145) {wb w0 : World} {Fb F0 : Mem} {Lf : Own} (hG : Dy F0) (bp0 : Nat) (x0 : Ac) (a0_0 : TO) (n0_0 : Nat) (hb0_0 : LC x0.l_.length n0_0) (hs0_0 : SlA Al F0 a0_0 x0.l_) (hs0 : HS wb Fb w0 F0 ((sb bp0 (Ah x0 a0_0 n0_0) 100) :: Lf)) (r : (Ak ⊕ (Ac × Expr))) (h : B4 N sR145 x0 = some r) :
  Calls Tryz.prog 243 ([(pt bp0 0)] : List Value).toArray w0 (Cj wb Fb F0 Lf r (fun b => (.iface 158 (.agg (A3 b)))) fun a F' v L' => ∃ (aq0_0 : TO) (nq0_0 : Nat) (aq1_2 : TO) (nq1_2 : Nat), v = (.agg (Ai a.2 aq1_2 nq1_2)) /\ L' = (sb bp0 (Ah a.1 aq0_0 nq0_0) 100) :: Lf /\ LC a.1.l_.length nq0_0 /\ SlA Al F' aq0_0 a.1.l_ /\ LC a.2.Kids.length nq1_2 /\ SlA As F' aq1_2 a.2.Kids) := by
 refine Go 112 Tryz.func243 ?_
 refine Sq (Rg [0] ?_)
 refine Al' 33 #[(vi 0), (vi 0), (.slice none ([] : List Expr).length 0)] hs0 (fun b21 w22 hs23 => ?_)
 refine Nss (Rg [0, 1, 2, 3, 4, 5, 6, 7] ?_)
 refine Vs 3 ?_
 refine Ld hs23.at1 ?_
 obtain ⟨x24, hx25, h27⟩ := bind_some h
 obtain ⟨hi26, hx25'⟩ := Az hx25
 obtain ⟨b28, o29, C30, E31, fz32, rfl, hF34, hE35⟩ := Tx hs0_0 hx25'
 have hc37 := hE35 _ _ hx25'
 refine Ix hi26 ?_
 refine Lx 0 (hs23.pers _ _ hF34) hc37 ?_
 refine Al' 97 #[(vi 0), (vi 0), (.string ⟨(([] : TN)).toArray⟩)] hs23 (fun b38 w39 hs40 => ?_)
 refine St0 (A9 x24) hs40 (fun w41 hs42 => ?_)
 refine Nss ?_
 refine Sq ?_
 obtain ⟨j48, hj54, h55⟩ := bind_some h27
 refine RD 5 5 [(sb b38 (A9 x24) 97), (sb b21 #[(vi 0), (vi 0), (.slice none ([] : List Expr).length 0)] 33), (sb bp0 (Ah x0 (some ⟨b28, o29, none⟩) n0_0) 100)] [] hs42 (fun f w => ∃ (F1 : Mem), HS wb Fb w F1 ((sb b38 (A9 x24) 97) :: (sb b21 #[(vi 0), (vi 0), (.slice none ([] : List Expr).length 0)] 33) :: (sb bp0 (Ah x0 (some ⟨b28, o29, none⟩) n0_0) 100) :: Lf) /\ Tn F0 F1 /\ FI f [] [(0, (pt bp0 0)), (2, (pt b21 0)), (3, (pt b38 0)), (4, (vi j48))]) (fun wd43 hw44 => ?_) ?_
 ·refine Dv [1] ?_
  refine Dl 2 (fun _ hq => (hq.1.2 0 _ _ rfl)) ?_
  refine D1 0 ?_
  obtain ⟨r56, hr57, h58⟩ := bind_some hj54
  refine DCl HE hw44 (IQ N wd43 F0 hw44.pers  _ hr57) ?_
  rintro _ F2 w60 hs61 le62 ⟨ar56_0_0, nr56_0_0, rfl, hbr56_0_0, hsr56_0_0⟩
  refine D1 3 ?_
  obtain ⟨r64, hr65, h66⟩ := bind_some h58
  refine DCl EN hs61 (E1 N w60 F2 hs61.pers r56 ar56_0_0 nr56_0_0 hbr56_0_0 hsr56_0_0 x24.text_ _ hr65) ?_
  rintro _ F3 w68 hs69 le70 rfl
  refine Dv [4] ?_
  obtain rfl := Ab h66
  exact TE (by kernel_rfl) ⟨F3, hs69, (le62.trans le70), fI⟩
 ·rintro f w45 ⟨F1, hs46, le47, ⟨_, rfl⟩⟩
  refine Ad ?_
  refine Bk ?_
  refine Sq (Rg [0, 1, 2, 3] ?_)
  refine Vs 1 ?_
  refine Ld hs46.at0 ?_
  refine Vs 2 ?_
  refine Nt ?_
  refine Cd h55 (fun hb72 h73 => ?_) (fun hb72 h74 => ?_)
  ·refine Sq (Rg [0, 1, 2, 3, 4, 5, 6, 7] ?_)
   refine Vs 1 ?_
   refine Ld hs46.at0 ?_
   obtain ⟨r75, hr76, h77⟩ := bind_some h73
   refine Cl' K2 hs46 (L8 N w45 F1 hs46.pers (hG.mono le47) x24.text_ _ hr76) ?_
   rintro _ F4 w79 hs80 le81 ⟨vr75_1_0, rfl, her75_1_0⟩
   refine Vs 5 ?_
   refine Nss ?_
   refine Sq (Rg [0, 1, 2, 3, 4, 5, 6, 7, 8, 9, 10, 11] ?_)
   refine Tt (fun f w => ∃ (F5 : Mem), HS wb Fb w F5 ((sb b38 (A9 x24) 97) :: (sb b21 #[(vi 0), (vi 0), (.slice none ([] : List Expr).length 0)] 33) :: (sb bp0 (Ah x0 (some ⟨b28, o29, none⟩) n0_0) 100) :: Lf) /\ Tn F4 F5 /\ FI f [] [(0, (pt bp0 0)), (2, (pt b21 0)), (3, (pt b38 0)), (5, (vi r75.1)), (42, (.bool (r75.2 || ((decide ((x24.text_.length : Int) > 7)) || (decide (r75.1 > 1000000))))))]) ?_ ?_
   ·refine Vs 1 ?_
    refine V 32 4 (I1 (t := 134) (t' := 134) (x := (.tmp 31)) (c := .nilIface) her75_1_0 rfl rfl (by kernel_rfl)) ?_
    refine Vs 1 ?_
    refine Ts r75.2 (fun hb92 => ?_) (fun hb92 => ?_)
    ·refine Ss hb92 4 ?_
     refine Pk1 hb92 ?_
     refine Vs 1 ?_
     refine Ss (rfl : true = true) 2 ?_
     refine Pk1 (rfl : true = true) ?_
     exact Tj ⟨rfl, F4, hs80, (To _), (fJ ⟨rfl, rfl, rfl, rfl, (congrArg Value.bool (Fk hb92 rfl)), trivial⟩)⟩
    ·refine Vgs hb92 1 ?_
     refine Lg hb92 hs80.at0 ?_
     refine Vgs hb92 2 ?_
     refine Pk0 hb92 ?_
     refine Vs 1 ?_
     refine Ts (decide ((x24.text_.length : Int) > 7)) (fun hb93 => ?_) (fun hb93 => ?_)
     ·refine Ss hb93 2 ?_
      refine Pk1 hb93 ?_
      exact Tj ⟨rfl, F4, hs80, (To _), (fJ ⟨rfl, rfl, rfl, rfl, (congrArg Value.bool (B7 hb92 (Fk hb93 rfl))), trivial⟩)⟩
     ·refine Vgs hb93 2 ?_
      refine Pk0 hb93 ?_
      exact Tj ⟨rfl, F4, hs80, (To _), (fJ ⟨rfl, rfl, rfl, rfl, (congrArg Value.bool (B7 hb92 (B7 hb93 rfl))), trivial⟩)⟩
   ·rintro f w83 ⟨F5, hs84, le85, ⟨_, rfl⟩⟩
    refine Ad ?_
    refine Cd h77 (fun hb94 h95 => ?_) (fun hb94 h96 => ?_)
    ·refine Rg [0, 1, 2, 3] ?_
     refine Vs 2 ?_
     refine Ld hs84.at0 ?_
     obtain ⟨r97, hr98, h99⟩ := bind_some h95
     refine CP AR (AZ N bp0 x0 (some ⟨b28, o29, none⟩) n0_0 hb0_0 (Tq hs0_0 ((le47.trans le81).trans le85)) 60 x24.at_ hs84.pk1.pk1.pk2 _ hr98) ?_ ?_
     ·rintro _ _ _ _ _ rfl _ _ _; cases hr98
     ·rintro b102 F7 w103 rfl hs104 le105
      have h106 := Bo h99
      refine Ap ?_
      refine Bf ?_
      refine Ap ?_
      obtain rfl := Ab h106
      exact CI hs104.dr0.dr0 (((le47.trans le81).trans le85).trans le105)
    ·refine Sc ?_
     refine Ad ?_
     refine Sq (Rg [0, 1, 2, 3, 4, 5, 6, 7, 8] ?_)
     refine Vs 4 ?_
     refine Ld hs84.at2 ?_
     obtain ⟨r108, hr109, h110⟩ := bind_some h96
     obtain ⟨a111, n112, hb113, hs114, hrun115⟩ := LM (P := Tryz.prog) (T := Al) (lo := (some (.const (vi 1)))) (hi := none) (mx := none) (t := 98) (E := 97) (by_ := 32) (c := n0_0) (a := (some ⟨b28, o29, none⟩)) (l := x0.l_) (r := r108) (il := 1) (ih := (x0.l_.length : Int)) (im := 0) (by kernel_rfl) (by kernel_rfl) hb0_0 (Tq hs0_0 ((le47.trans le81).trans le85)) (fun h => by first | rfl | cases h) hr109
     refine V 52 98 (hrun115 (x := (.tmp 51)) rfl rfl rfl trivial) ?_
     refine Vs 2 ?_
     refine St2 #[(.slice a111 r108.length n112), (vi x0.open_)] hs84 (fun w116 hs117 => ?_)
     refine Nss (Rg [0, 1, 2] ?_)
     refine Vs 2 ?_
     refine St1 #[(vi 1), (vi r75.1), (.slice none ([] : List Expr).length 0)] hs117 (fun w118 hs119 => ?_)
     refine Nt ?_
     refine Rt ?_
     refine Ao ?_
     refine Aj ?_
     obtain rfl := Ab h110
     exact ⟨rfl, (.agg #[(vi 1), (vi r75.1), (.slice none ([] : List Expr).length 0)]), AE (l := [.cell 2 33]) (by kernel_rfl) (vs := [(.agg #[(vi 1), (vi r75.1), (.slice none ([] : List Expr).length 0)])]) ⟨b21, 0, rfl, Am (t := 33) (g := true) (s := 3) (by kernel_rfl) hs119.at1 rfl (by decide), trivial⟩, .inl ⟨_, F5, _, _, rfl, rfl, hs119.dr0.dr0, ((le47.trans le81).trans le85), ⟨a111, n112, none, 0, rfl, rfl, hb113, hs114, Tr, (.inl rfl)⟩⟩⟩
  ·refine Sq (Rg [0, 1, 2, 3, 4, 5, 6, 7] ?_)
   refine Tt (fun f w => ∃ (F8 : Mem), HS wb Fb w F8 ((sb b38 (A9 x24) 97) :: (sb b21 #[(vi 0), (vi 0), (.slice none ([] : List Expr).length 0)] 33) :: (sb bp0 (Ah x0 (some ⟨b28, o29, none⟩) n0_0) 100) :: Lf) /\ Tn F1 F8 /\ FI f [] [(0, (pt bp0 0)), (2, (pt b21 0)), (3, (pt b38 0)), (4, (vi j48)), (57, (.bool ((x24.kind_ == 2) && (decide (j48 >= 0)))))]) ?_ ?_
   ·refine Vs 1 ?_
    refine Ld hs46.at0 ?_
    refine Vs 2 ?_
    refine Ts (x24.kind_ == 2) (fun hb129 => ?_) (fun hb129 => ?_)
    ·refine Vgs hb129 2 ?_
     refine Pk1 hb129 ?_
     refine Vs 1 ?_
     exact Tj ⟨rfl, F1, hs46, (To _), (fJ ⟨rfl, rfl, rfl, rfl, (congrArg Value.bool (Cz hb129 rfl)), trivial⟩)⟩
    ·refine Ss hb129 2 ?_
     refine Pk0 hb129 ?_
     refine Vs 1 ?_
     exact Tj ⟨rfl, F1, hs46, (To _), (fJ ⟨rfl, rfl, rfl, rfl, (congrArg Value.bool (Dw hb129 rfl)), trivial⟩)⟩
   ·rintro f w120 ⟨F8, hs121, le122, ⟨_, rfl⟩⟩
    refine Ad ?_
    refine Cd h74 (fun hb130 h131 => ?_) (fun hb130 h132 => ?_)
    ·refine Sq (Rg [0, 1, 2, 3, 4, 5, 6, 7, 8] ?_)
     refine Vs 4 ?_
     refine Ld hs121.at2 ?_
     obtain ⟨r133, hr134, h135⟩ := bind_some h131
     obtain ⟨a136, n137, hb138, hs139, hrun140⟩ := LM (P := Tryz.prog) (T := Al) (lo := (some (.const (vi 1)))) (hi := none) (mx := none) (t := 98) (E := 97) (by_ := 32) (c := n0_0) (a := (some ⟨b28, o29, none⟩)) (l := x0.l_) (r := r133) (il := 1) (ih := (x0.l_.length : Int)) (im := 0) (by kernel_rfl) (by kernel_rfl) hb0_0 (Tq hs0_0 (le47.trans le122)) (fun h => by first | rfl | cases h) hr134
     refine V 70 98 (hrun140 (x := (.tmp 69)) rfl rfl rfl trivial) ?_
     refine Vs 2 ?_
     refine St2 #[(.slice a136 r133.length n137), (vi x0.open_)] hs121 (fun w141 hs142 => ?_)
     refine Nss (Rg [0, 1, 2] ?_)
     refine Vs 2 ?_
     refine St1 #[(vi 2), (vi j48), (.slice none ([] : List Expr).length 0)] hs142 (fun w143 hs144 => ?_)
     refine Nt ?_
     refine Rt ?_
     refine Ao ?_
     refine Aj ?_
     obtain rfl := Ab h135
     exact ⟨rfl, (.agg #[(vi 2), (vi j48), (.slice none ([] : List Expr).length 0)]), AE (l := [.cell 2 33]) (by kernel_rfl) (vs := [(.agg #[(vi 2), (vi j48), (.slice none ([] : List Expr).length 0)])]) ⟨b21, 0, rfl, Am (t := 33) (g := true) (s := 3) (by kernel_rfl) hs144.at1 rfl (by decide), trivial⟩, .inl ⟨_, F8, _, _, rfl, rfl, hs144.dr0.dr0, (le47.trans le122), ⟨a136, n137, none, 0, rfl, rfl, hb138, hs139, Tr, (.inl rfl)⟩⟩⟩
    ·refine Sq (Rg [0, 1, 2] ?_)
     refine Vs 1 ?_
     obtain ⟨r145, hr146, h147⟩ := bind_some h132
     refine CB AP (AV N bp0 x0 (some ⟨b28, o29, none⟩) n0_0 hb0_0 (Tq hs0_0 (le47.trans le122)) (([105, 102] : TN)) hs121.pk1.pk1.pk2 _ hr146) ?_
     rintro _ F9 w148 _ hs149 le150 ⟨ar145_0_0, nr145_0_0, rfl, rfl, hbr145_0_0, hsr145_0_0⟩
     refine Vs 1 ?_
     refine Nt ?_
     refine Cd h147 (fun hb152 h153 => ?_) (fun hb152 h154 => ?_)
     ·refine Sq (Rg [0, 1] ?_)
      refine Vs 1 ?_
      obtain ⟨r155, hr156, h157⟩ := bind_some h153
      refine CP El (EW N bp0 r145.1 ar145_0_0 nr145_0_0 hbr145_0_0 hsr145_0_0 hs149 _ hr156) ?_ ?_
      ·rintro r158 _ F10 w160 _ rfl hs161 le162 ⟨ar158_0_0, nr158_0_0, rfl, rfl, hbr158_0_0, hsr158_0_0⟩
       have h164 := BM h157
       refine Nss (Rg [0, 1, 2, 3] ?_)
       refine Vs 1 ?_
       obtain ⟨r165, hr166, h167⟩ := bind_some h164
       refine CP Ci (hsR145 (hG.mono (((le47.trans le122).trans le150).trans le162)) bp0 r158 ar158_0_0 nr158_0_0 hbr158_0_0 hsr158_0_0 hs161 _ hr166) ?_ ?_
       ·rintro r168 _ F11 w170 _ rfl hs171 le172 ⟨ar168_0_0, nr168_0_0, ar168_1_2, nr168_1_2, rfl, rfl, hbr168_0_0, hsr168_0_0, hbr168_1_2, hsr168_1_2⟩
        have h174 := BM h167
        refine Al' 33 #[(vi 0), (vi 0), (.slice none ([] : List Expr).length 0)] hs171 (fun b175 w176 hs177 => ?_)
        refine St0 (Ai r168.2 ar168_1_2 nr168_1_2) hs177 (fun w178 hs179 => ?_)
        refine Nss (Rg [0, 1] ?_)
        refine Vs 1 ?_
        obtain ⟨r180, hr181, h182⟩ := bind_some h174
        refine CP A4 (A7 N bp0 r168.1 ar168_0_0 nr168_0_0 hbr168_0_0 hsr168_0_0 (([44] : TN)) hs179.pk3.pk3.pk2.pk3 _ hr181) ?_ ?_
        ·rintro r183 _ F12 w185 _ rfl hs186 le187 ⟨ar183_0_0, nr183_0_0, rfl, rfl, hbr183_0_0, hsr183_0_0⟩
         have h189 := BM h182
         refine Nss (Rg [0, 1, 2, 3] ?_)
         refine Vs 1 ?_
         obtain ⟨r190, hr191, h192⟩ := bind_some h189
         refine CP Ci (hsR145 (hG.mono (((((le47.trans le122).trans le150).trans le162).trans le172).trans le187)) bp0 r183 ar183_0_0 nr183_0_0 hbr183_0_0 hsr183_0_0 hs186 _ hr191) ?_ ?_
         ·rintro r193 _ F13 w195 _ rfl hs196 le197 ⟨ar193_0_0, nr193_0_0, ar193_1_2, nr193_1_2, rfl, rfl, hbr193_0_0, hsr193_0_0, hbr193_1_2, hsr193_1_2⟩
          have h199 := BM h192
          refine Al' 33 #[(vi 0), (vi 0), (.slice none ([] : List Expr).length 0)] hs196 (fun b200 w201 hs202 => ?_)
          refine St0 (Ai r193.2 ar193_1_2 nr193_1_2) hs202 (fun w203 hs204 => ?_)
          refine Nss (Rg [0, 1] ?_)
          refine Vs 1 ?_
          have hs205 := hs204.pk4.pk4.pk4.pk3.pk4
          obtain ⟨r206, hr207, h208⟩ := bind_some h199
          refine CP A4 (A7 N bp0 r193.1 ar193_0_0 nr193_0_0 hbr193_0_0 hsr193_0_0 (([44] : TN)) hs205 _ hr207) ?_ ?_
          ·rintro r209 _ F14 w211 _ rfl hs212 le213 ⟨ar209_0_0, nr209_0_0, rfl, rfl, hbr209_0_0, hsr209_0_0⟩
           have h215 := BM h208
           refine Nss (Rg [0, 1, 2, 3] ?_)
           refine Vs 1 ?_
           obtain ⟨r216, hr217, h218⟩ := bind_some h215
           refine CP Ci (hsR145 (hG.mono (((((((le47.trans le122).trans le150).trans le162).trans le172).trans le187).trans le197).trans le213)) bp0 r209 ar209_0_0 nr209_0_0 hbr209_0_0 hsr209_0_0 hs212 _ hr217) ?_ ?_
           ·rintro r219 _ F15 w221 _ rfl hs222 le223 ⟨ar219_0_0, nr219_0_0, ar219_1_2, nr219_1_2, rfl, rfl, hbr219_0_0, hsr219_0_0, hbr219_1_2, hsr219_1_2⟩
            have h225 := BM h218
            refine Al' 33 #[(vi 0), (vi 0), (.slice none ([] : List Expr).length 0)] hs222 (fun b226 w227 hs228 => ?_)
            refine St0 (Ai r219.2 ar219_1_2 nr219_1_2) hs228 (fun w229 hs230 => ?_)
            refine Nss (Rg [0, 1] ?_)
            refine Vs 1 ?_
            have hs231 := hs230.pk5.pk5.pk5.pk5.pk4
            obtain ⟨r232, hr233, h234⟩ := bind_some h225
            refine CP Ek (EV N bp0 r219.1 ar219_0_0 nr219_0_0 hbr219_0_0 hsr219_0_0 hs231.pk5 _ hr233) ?_ ?_
            ·rintro r235 _ F16 w237 _ rfl hs238 le239 ⟨ar235_0_0, nr235_0_0, rfl, rfl, hbr235_0_0, hsr235_0_0⟩
             have h241 := BM h234
             refine Nss (Rg [0, 1, 2, 3, 4, 5] ?_)
             refine Ld hs238.at3 ?_
             refine Ld hs238.at2 ?_
             refine Ld hs238.at1 ?_
             refine Bs 33 [(vi r168.2.Op), (vi r168.2.Value), (.slice ar168_1_2 r168.2.Kids.length nr168_1_2), (vi r193.2.Op), (vi r193.2.Value), (.slice ar193_1_2 r193.2.Kids.length nr193_1_2), (vi r219.2.Op), (vi r219.2.Value), (.slice ar219_1_2 r219.2.Kids.length nr219_1_2)] hs238 (fun b242 w243 hs244 => ?_)
             have hr246 : Av As 33 F16 (some ⟨b242, 0, none⟩) 3 [r168.2, r193.2, r219.2] (some b242, .cells ([(vi r168.2.Op), (vi r168.2.Value), (.slice ar168_1_2 r168.2.Kids.length nr168_1_2), (vi r193.2.Op), (vi r193.2.Value), (.slice ar193_1_2 r193.2.Kids.length nr193_1_2), (vi r219.2.Op), (vi r219.2.Value), (.slice ar219_1_2 r219.2.Kids.length nr219_1_2)] : List Value).toArray 33 (0, 0)) := TH ⟨(Ba ⟨ar168_1_2, nr168_1_2, rfl, hbr168_1_2, (Tq hsr168_1_2 ((((le187.trans le197).trans le213).trans le223).trans le239))⟩), ⟨(Ba ⟨ar193_1_2, nr193_1_2, rfl, hbr193_1_2, (Tq hsr193_1_2 ((le213.trans le223).trans le239))⟩), ⟨(Ba ⟨ar219_1_2, nr219_1_2, rfl, hbr219_1_2, (Tq hsr219_1_2 le239)⟩), rfl⟩⟩⟩ (by simp)
             refine Vs 1 ?_
             refine St6 #[(vi 11), (vi 0), (.slice (some ⟨b242, 0, none⟩) [r168.2, r193.2, r219.2].length 3)] hs244 (fun w247 hs248 => ?_)
             refine Nt ?_
             refine Rt ?_
             refine Ao ?_
             refine Aj ?_
             have hb252 := TF hr246
             obtain ⟨F17, hs249, le250, hs251⟩ := hs248.fr0 hr246
             have hs253 := hs249.dr1.dr1.dr1.dr1.dr1
             obtain rfl := Ab h241
             exact ⟨rfl, (.agg #[(vi 11), (vi 0), (.slice (some ⟨b242, 0, none⟩) [r168.2, r193.2, r219.2].length 3)]), AE (l := [.cell 2 33]) (by kernel_rfl) (vs := [(.agg #[(vi 11), (vi 0), (.slice (some ⟨b242, 0, none⟩) [r168.2, r193.2, r219.2].length 3)])]) ⟨b21, 0, rfl, Am (t := 33) (g := true) (s := 3) (by kernel_rfl) hs249.at5 rfl (by decide), trivial⟩, .inl ⟨_, F17, _, _, rfl, rfl, hs253, ((((((((((le47.trans le122).trans le150).trans le162).trans le172).trans le187).trans le197).trans le213).trans le223).trans le239).trans le250), ⟨ar235_0_0, nr235_0_0, (some ⟨b242, 0, none⟩), 3, rfl, rfl, hbr235_0_0, (Tq hsr235_0_0 le250), hb252, hs251⟩⟩⟩
            ·rintro b254 F18 w255 rfl hs256 le257
             have h258 := Bo h234
             refine Ap ?_
             refine Bf ?_
             refine Ap ?_
             have hs260 := hs256.dr0.dr0.dr0.dr0.dr0
             obtain rfl := Ab h258
             exact CI hs260 (((((((((le47.trans le122).trans le150).trans le162).trans le172).trans le187).trans le197).trans le213).trans le223).trans le257)
           ·rintro b261 F19 w262 rfl hs263 le264
            have h265 := Bo h218
            refine Ap ?_
            refine Bf ?_
            refine Ap ?_
            obtain rfl := Ab h265
            exact CI hs263.dr0.dr0.dr0.dr0 ((((((((le47.trans le122).trans le150).trans le162).trans le172).trans le187).trans le197).trans le213).trans le264)
          ·rintro b267 F20 w268 rfl hs269 le270
           have h271 := Bo h208
           refine Ap ?_
           refine Bf ?_
           refine Ap ?_
           obtain rfl := Ab h271
           exact CI hs269.dr0.dr0.dr0.dr0 (((((((le47.trans le122).trans le150).trans le162).trans le172).trans le187).trans le197).trans le270)
         ·rintro b273 F21 w274 rfl hs275 le276
          have h277 := Bo h192
          refine Ap ?_
          refine Bf ?_
          refine Ap ?_
          obtain rfl := Ab h277
          exact CI hs275.dr0.dr0.dr0 ((((((le47.trans le122).trans le150).trans le162).trans le172).trans le187).trans le276)
        ·rintro b279 F22 w280 rfl hs281 le282
         have h283 := Bo h182
         refine Ap ?_
         refine Bf ?_
         refine Ap ?_
         obtain rfl := Ab h283
         exact CI hs281.dr0.dr0.dr0 (((((le47.trans le122).trans le150).trans le162).trans le172).trans le282)
       ·rintro b285 F23 w286 rfl hs287 le288
        have h289 := Bo h167
        refine Ap ?_
        refine Bf ?_
        refine Ap ?_
        obtain rfl := Ab h289
        exact CI hs287.dr0.dr0 ((((le47.trans le122).trans le150).trans le162).trans le288)
      ·rintro b291 F24 w292 rfl hs293 le294
       have h295 := Bo h157
       refine Ap ?_
       refine Bf ?_
       refine Ap ?_
       obtain rfl := Ab h295
       exact CI hs293.dr0.dr0 (((le47.trans le122).trans le150).trans le294)
     ·refine Sq (Rg [0, 1, 2] ?_)
      refine Vs 1 ?_
      obtain ⟨r297, hr298, h299⟩ := bind_some h154
      refine CB CQ (C3 N bp0 r145.1 ar145_0_0 nr145_0_0 hbr145_0_0 hsr145_0_0 (([40] : TN)) hs149 _ hr298) ?_
      rintro _ F25 w300 _ hs301 le302 ⟨rfl, rfl⟩
      refine Vs 1 ?_
      refine Nt ?_
      refine Cd h299 (fun hb304 h305 => ?_) (fun hb304 h306 => ?_)
      ·refine Sq (Rg [0, 1] ?_)
       refine Vs 1 ?_
       obtain ⟨r307, hr308, h309⟩ := bind_some h305
       refine CP El (EW N bp0 r145.1 ar145_0_0 nr145_0_0 hbr145_0_0 (Tq hsr145_0_0 le302) hs301 _ hr308) ?_ ?_
       ·rintro r310 _ F26 w312 _ rfl hs313 le314 ⟨ar310_0_0, nr310_0_0, rfl, rfl, hbr310_0_0, hsr310_0_0⟩
        have h316 := BM h309
        refine Nss (Rg [0, 1, 2, 3] ?_)
        refine Vs 1 ?_
        obtain ⟨r317, hr318, h319⟩ := bind_some h316
        refine CP Ci (hsR145 (hG.mono ((((le47.trans le122).trans le150).trans le302).trans le314)) bp0 r310 ar310_0_0 nr310_0_0 hbr310_0_0 hsr310_0_0 hs313 _ hr318) ?_ ?_
        ·rintro r320 _ F27 w322 _ rfl hs323 le324 ⟨ar320_0_0, nr320_0_0, ar320_1_2, nr320_1_2, rfl, rfl, hbr320_0_0, hsr320_0_0, hbr320_1_2, hsr320_1_2⟩
         have h326 := BM h319
         refine Al' 33 #[(vi 0), (vi 0), (.slice none ([] : List Expr).length 0)] hs323 (fun b327 w328 hs329 => ?_)
         refine St0 (Ai r320.2 ar320_1_2 nr320_1_2) hs329 (fun w330 hs331 => ?_)
         refine Nss (Rg [0, 1] ?_)
         refine Vs 1 ?_
         obtain ⟨r332, hr333, h334⟩ := bind_some h326
         refine CP Ek (EV N bp0 r320.1 ar320_0_0 nr320_0_0 hbr320_0_0 hsr320_0_0 hs331.pk3.pk3.pk2.pk3 _ hr333) ?_ ?_
         ·rintro r335 _ F28 w337 _ rfl hs338 le339 ⟨ar335_0_0, nr335_0_0, rfl, rfl, hbr335_0_0, hsr335_0_0⟩
          have h341 := BM h334
          refine Nss (Rg [0, 1] ?_)
          refine Ld hs338.at1 ?_
          refine St3 (Ai r320.2 ar320_1_2 nr320_1_2) hs338 (fun w342 hs343 => ?_)
          refine Nt ?_
          refine Rt ?_
          refine Ao ?_
          refine Aj ?_
          obtain rfl := Ab h341
          exact ⟨rfl, (.agg (Ai r320.2 ar320_1_2 nr320_1_2)), AE (l := [.cell 2 33]) (by kernel_rfl) (vs := [(.agg (Ai r320.2 ar320_1_2 nr320_1_2))]) ⟨b21, 0, rfl, Am (t := 33) (g := true) (s := 3) (by kernel_rfl) hs343.at3 rfl (by decide), trivial⟩, .inl ⟨_, F28, _, _, rfl, rfl, hs343.dr1.dr1.dr1, ((((((le47.trans le122).trans le150).trans le302).trans le314).trans le324).trans le339), ⟨ar335_0_0, nr335_0_0, ar320_1_2, nr320_1_2, rfl, rfl, hbr335_0_0, hsr335_0_0, hbr320_1_2, (Tq hsr320_1_2 le339)⟩⟩⟩
         ·rintro b344 F29 w345 rfl hs346 le347
          have h348 := Bo h334
          refine Ap ?_
          refine Bf ?_
          refine Ap ?_
          obtain rfl := Ab h348
          exact CI hs346.dr0.dr0.dr0 ((((((le47.trans le122).trans le150).trans le302).trans le314).trans le324).trans le347)
        ·rintro b350 F30 w351 rfl hs352 le353
         have h354 := Bo h319
         refine Ap ?_
         refine Bf ?_
         refine Ap ?_
         obtain rfl := Ab h354
         exact CI hs352.dr0.dr0 (((((le47.trans le122).trans le150).trans le302).trans le314).trans le353)
       ·rintro b356 F31 w357 rfl hs358 le359
        have h360 := Bo h309
        refine Ap ?_
        refine Bf ?_
        refine Ap ?_
        obtain rfl := Ab h360
        exact CI hs358.dr0.dr0 ((((le47.trans le122).trans le150).trans le302).trans le359)
      ·refine Sc ?_
       refine AA ?_
       refine Ad ?_
       refine Sq (Rg [0, 1, 2, 3] ?_)
       refine Vs 2 ?_
       refine Ld hs301.at1 ?_
       obtain ⟨r362, hr363, h364⟩ := bind_some h306
       refine CP AR (AZ N bp0 r145.1 ar145_0_0 nr145_0_0 hbr145_0_0 (Tq hsr145_0_0 le302) 60 x24.at_ hs301 _ hr363) ?_ ?_
       ·rintro _ _ _ _ _ rfl _ _ _; cases hr363
       ·rintro b367 F33 w368 rfl hs369 le370
        have h371 := Bo h364
        refine Ap ?_
        obtain rfl := Ab h371
        exact CI hs369.dr0.dr0 ((((le47.trans le122).trans le150).trans le302).trans le370)
structure Sx where
 q145 : Ac -> Option (Ak ⊕ (Ac × Expr))
 q185 : Ac -> Option (Ak ⊕ (Ac × Expr))
 q212 : Ac -> Option (Ak ⊕ (Ac × Expr))
 q226 : Ac -> Option (Ak ⊕ (Ac × Expr))
 q233 : Ac -> Option (Ak ⊕ (Ac × Expr))
 q239 : Ac -> Option (Ak ⊕ (Ac × Expr))
 q243 : Ac -> Option (Ak ⊕ (Ac × Expr))
def BW (N : Nat) : Nat -> Sx
 | 0 => ⟨fun _ => none, fun _ => none, fun _ => none, fun _ => none, fun _ => none, fun _ => none, fun _ => none⟩
 | k + 1 => ⟨E5 N (BW N k).q185, E6 N (BW N k).q212, CX N (BW N k).q212 (BW N k).q226, CW N (BW N k).q233, FD N (BW N k).q239, E4 N (BW N k).q243, B4 N (BW N k).q145⟩
theorem ML (N : Nat) : ∀ k, NF (BW N k).q145 /\ NA (BW N k).q185 /\ Ln (BW N k).q212 /\ Nx (BW N k).q226 /\ Nv (BW N k).q233 /\ Ns (BW N k).q239 /\ Nq (BW N k).q243
 | 0 => ⟨(by unfold NF; intros; rename_i h; cases h), (by unfold NA; intros; rename_i h; cases h), (by unfold Ln; intros; rename_i h; cases h), (by unfold Nx; intros; rename_i h; cases h), (by unfold Nv; intros; rename_i h; cases h), (by unfold Ns; intros; rename_i h; cases h), (by unfold Nq; intros; rename_i h; cases h)⟩
 | k + 1 => by
  have ih := ML N k
  exact ⟨@HU N (BW N k).q185 ih.2.1, @HW N (BW N k).q212 ih.2.2.1, @HV N (BW N k).q212 ih.2.2.1 (BW N k).q226 ih.2.2.2.1, @HQ N (BW N k).q233 ih.2.2.2.2.1, @Iy N (BW N k).q239 ih.2.2.2.2.2.1, @HR N (BW N k).q243 ih.2.2.2.2.2.2, @HT N (BW N k).q145 ih.1⟩
def D6 (N : Nat) (x0 : Ac) : Option (Ak ⊕ (Ac × Expr)) := (BW N N).q145 x0
theorem Is (N : Nat) {wb w0 : World} {Fb F0 : Mem} {Lf : Own} (hG : Dy F0) (bp0 : Nat) (x0 : Ac) (a0_0 : TO) (n0_0 : Nat) (hb0_0 : LC x0.l_.length n0_0) (hs0_0 : SlA Al F0 a0_0 x0.l_) (hs0 : HS wb Fb w0 F0 ((some bp0, (.cells #[(.slice a0_0 x0.l_.length n0_0), (.int .i64 x0.open_)] 100 (0, 0))) :: Lf)) (r : (Ak ⊕ (Ac × Expr))) (h : D6 N x0 = some r) :
  Calls Tryz.prog 145 ([(.pointer (some ⟨bp0, 0, none⟩))] : List Value).toArray w0 (Cj wb Fb F0 Lf r (fun b => (.iface 158 (.agg #[(.int .i64 b.e_), (.int .i64 b.at_)]))) fun a F' v L' => ∃ (aq0_0 : TO) (nq0_0 : Nat) (aq1_2 : TO) (nq1_2 : Nat), v = (.agg #[(.int .i64 a.2.Op), (.int .i64 a.2.Value), (.slice aq1_2 a.2.Kids.length nq1_2)]) /\ L' = (some bp0, (.cells #[(.slice aq0_0 a.1.l_.length nq0_0), (.int .i64 a.1.open_)] 100 (0, 0))) :: Lf /\ LC a.1.l_.length nq0_0 /\ SlA Al F' aq0_0 a.1.l_ /\ LC a.2.Kids.length nq1_2 /\ SlA As F' aq1_2 a.2.Kids) := (ML N N).1 hG bp0 x0 a0_0 n0_0 hb0_0 hs0_0 hs0 r h
def AH (N : Nat) (x0 : Aa) (x1 : TN) : Option Bool :=
 (((idx x0.L x0.At).bind fun x33 => some (x33.Kind, x33.At, x33.Text)).bind fun j27 => some (bif (j27.1 == 2) then (j27.2.2 == x1) else ((j27.1 == 3) && (j27.2.2 == x1))))
theorem AJ : Au Tryz.prog 142 := fun _ _ => by kernel_rfl
theorem AN (N : Nat) {wb w0 : World} {Fb F0 : Mem} {Lf : Own} (bp0 : Nat) (x0 : Aa) (a0_0 : TO) (n0_0 : Nat) (hb0_0 : LC x0.L.length n0_0) (hs0_0 : SlA Ag F0 a0_0 x0.L) (x1 : TN) (hs0 : HS wb Fb w0 F0 ((sb bp0 (Ae x0 a0_0 n0_0) 108) :: Lf)) (r : Bool) (h : AH N x0 x1 = some r) :
  Calls Tryz.prog 142 ([(pt bp0 0), (.string ⟨(x1).toArray⟩)] : List Value).toArray w0 (D4 wb Fb F0 fun F' v L' => v = (.bool r) /\ L' = (sb bp0 (Ae x0 a0_0 n0_0) 108) :: Lf) := by
 refine Go 30 Tryz.func142 ?_
 refine Sq (Rg [0] ?_)
 refine Vs 1 ?_
 refine Nss ?_
 obtain ⟨j27, hj31, h32⟩ := bind_some h
 refine RD 11 12 [(sb bp0 (Ae x0 a0_0 n0_0) 108)] [] hs0 (fun f w => ∃ (F1 : Mem) (b26 : Nat), HS wb Fb w F1 ((sb b26 #[(vi j27.1), (vi j27.2.1), (.string ⟨(j27.2.2).toArray⟩)] 110) :: (sb bp0 (Ae x0 a0_0 n0_0) 108) :: Lf) /\ Tn F0 F1 /\ FI f [] [(1, (.string ⟨(x1).toArray⟩)), (5, (pt b26 0))]) (fun wd21 hw22 => ?_) ?_
 ·refine Dv [0, 1, 2] ?_
  refine Dl 3 (fun _ hq => (hq.1.2 0 _ _ rfl)) ?_
  refine Dv [4, 5, 6] ?_
  refine Dl 7 (fun _ hq => (hq.1.2 0 _ _ rfl)) ?_
  obtain ⟨x33, hx34, h36⟩ := bind_some hj31
  obtain ⟨hi35, hx34'⟩ := Az hx34
  obtain ⟨b37, o38, C39, E40, fz41, rfl, hF43, hE44⟩ := Tx hs0_0 hx34'
  have hc46 := hE44 _ _ hx34'
  refine Di 8 hi35 ?_
  refine Dx 9 0 (fun _ hq => hq.1.1 _ _ hF43) hc46 ?_
  refine D1 10 ?_
  refine DAl 110 #[(vi 0), (vi 0), (.string ⟨(([] : TN)).toArray⟩)] hw22 (To _) (fun b47 w48 hs49 => ?_)
  refine D1 11 ?_
  refine SC (D2 x33) hs49 (To _) (fun w50 hs51 => ?_)
  obtain rfl := Ab h36
  exact TE (by kernel_rfl) ⟨F0, b47, hs51, (To _), fI⟩
 ·rintro f w23 ⟨F1, b26, hs24, le25, ⟨_, rfl⟩⟩
  refine Ad ?_
  refine Sq (Rg [0, 1, 2, 3, 4, 5, 6, 7, 8, 9, 10, 11, 12, 13, 14] ?_)
  refine Tt (fun f w => ∃ (F2 : Mem), HS wb Fb w F2 ((sb bp0 (Ae x0 a0_0 n0_0) 108) :: Lf) /\ Tn F1 F2 /\ FI f [] [(4, (.bool (bif (j27.1 == 2) then (j27.2.2 == x1) else ((j27.1 == 3) && (j27.2.2 == x1)))))]) ?_ ?_
  ·refine Vs 1 ?_
   refine Ld hs24.at0 ?_
   refine Vs 2 ?_
   refine Ts (j27.1 == 2) (fun hb57 => ?_) (fun hb57 => ?_)
   ·refine Ss hb57 3 ?_
    refine Pk1 hb57 ?_
    refine Vs 1 ?_
    refine Vg 25 0 8 true 24 rfl (fa 110 5 2 2 1 b26 0 2) ?_
    refine Vg 26 9 8 true 24 rfl (ld 9 25 b26 2 false 1 (.string ⟨(j27.2.2).toArray⟩) hs24.at0) ?_
    refine Vg 27 9 8 true 24 rfl (mv 1 (.string ⟨(x1).toArray⟩)) ?_
    refine Vg 28 4 8 true 24 rfl (Fx (t := 9) (t' := 9) (x := (.tmp 26)) (y := (.tmp 27)) (op := .eql) (a := j27.2.2) (b := x1) (v := (j27.2.2 == x1)) rfl rfl rfl) ?_
    refine Pk1 (rfl : true = true) ?_
    refine Vs 1 ?_
    exact Tj ⟨rfl, F1, hs24.dr0, (To _), (fJ ⟨(congrArg Value.bool (CH hb57 rfl)), trivial⟩)⟩
   ·refine Vgs hb57 1 ?_
    refine Lg hb57 hs24.at0 ?_
    refine Vgs hb57 1 ?_
    refine Pk0 hb57 ?_
    refine Vs 1 ?_
    refine Ts (j27.1 == 3) (fun hb58 => ?_) (fun hb58 => ?_)
    ·refine Vgs hb58 1 ?_
     refine Lg hb58 hs24.at0 ?_
     refine Vgs hb58 2 ?_
     refine Pk1 hb58 ?_
     refine Vs 1 ?_
     exact Tj ⟨rfl, F1, hs24.dr0, (To _), (fJ ⟨(congrArg Value.bool (C7 hb57 (Cz hb58 rfl))), trivial⟩)⟩
    ·refine Ss hb58 4 ?_
     refine Pk0 hb58 ?_
     refine Vs 1 ?_
     exact Tj ⟨rfl, F1, hs24.dr0, (To _), (fJ ⟨(congrArg Value.bool (C7 hb57 (Dw hb58 rfl))), trivial⟩)⟩
  ·rintro f w52 ⟨F2, hs53, le54, ⟨_, rfl⟩⟩
   refine Ad ?_
   refine Rt ?_
   obtain rfl := Ab h32
   exact ReB [(.bool (bif (j27.1 == 2) then (j27.2.2 == x1) else ((j27.1 == 3) && (j27.2.2 == x1))))] hs53 (le25.trans le54) ⟨rfl, rfl⟩
def Et (N : Nat) (x0 : Int) (x1 : Expr) (x2 : Expr) : Option Expr :=
 some ({ Op := x0, Value := 0, Kids := [x1, x2] } : Expr)
theorem DU : Au Tryz.prog 147 := fun _ _ => by kernel_rfl
theorem Eh (N : Nat) (w0 : World) (F0 : Mem) (hF : TP w0 F0) (x0 : Int) (x1 : Expr) (a1_2 : TO) (n1_2 : Nat) (hb1_2 : LC x1.Kids.length n1_2) (hs1_2 : SlA As F0 a1_2 x1.Kids) (x2 : Expr) (a2_2 : TO) (n2_2 : Nat) (hb2_2 : LC x2.Kids.length n2_2) (hs2_2 : SlA As F0 a2_2 x2.Kids) (r : Expr) (h : Et N x0 x1 x2 = some r) :
  Calls Tryz.prog 147 ([(vi x0), (.agg (Ai x1 a1_2 n1_2)), (.agg (Ai x2 a2_2 n2_2))] : List Value).toArray w0 (Bd w0 F0 fun F' v => ∃ (aq0_2 : TO) (nq0_2 : Nat), v = (.agg (Ai r aq0_2 nq0_2)) /\ LC r.Kids.length nq0_2 /\ SlA As F' aq0_2 r.Kids) := by
 have hs0 := Tp hF
 refine Go 12 Tryz.func147 ?_
 refine Sq (Rg [0, 1, 2] ?_)
 refine Bx' 33 (Ai x1 a1_2 n1_2) hs0 (fun b21 w22 hs23 => ?_)
 refine Bx' 33 (Ai x2 a2_2 n2_2) hs23 (fun b24 w25 hs26 => ?_)
 refine Al' 33 #[(vi 0), (vi 0), (.slice none ([] : List Expr).length 0)] hs26 (fun b27 w28 hs29 => ?_)
 refine Nss (Rg [0, 1, 2, 3, 4, 5] ?_)
 refine Vs 1 ?_
 refine Ld hs29.at2 ?_
 refine Ld hs29.at1 ?_
 refine Bs 33 [(vi x1.Op), (vi x1.Value), (.slice a1_2 x1.Kids.length n1_2), (vi x2.Op), (vi x2.Value), (.slice a2_2 x2.Kids.length n2_2)] hs29 (fun b30 w31 hs32 => ?_)
 have hr34 : Av As 33 F0 (some ⟨b30, 0, none⟩) 2 [x1, x2] (some b30, .cells ([(vi x1.Op), (vi x1.Value), (.slice a1_2 x1.Kids.length n1_2), (vi x2.Op), (vi x2.Value), (.slice a2_2 x2.Kids.length n2_2)] : List Value).toArray 33 (0, 0)) := TH ⟨(Ba ⟨a1_2, n1_2, rfl, hb1_2, hs1_2⟩), ⟨(Ba ⟨a2_2, n2_2, rfl, hb2_2, hs2_2⟩), rfl⟩⟩ (by simp)
 refine Vs 1 ?_
 refine St1 #[(vi x0), (vi 0), (.slice (some ⟨b30, 0, none⟩) [x1, x2].length 2)] hs32 (fun w35 hs36 => ?_)
 refine Nt ?_
 refine Rt ?_
 have hb40 := TF hr34
 obtain ⟨F1, hs37, le38, hs39⟩ := hs36.fr0 hr34
 obtain rfl := Ab h
 exact ⟨rfl, (.agg #[(vi x0), (vi 0), (.slice (some ⟨b30, 0, none⟩) [x1, x2].length 2)]), AE (l := [.cell 6 33]) (by kernel_rfl) (vs := [(.agg #[(vi x0), (vi 0), (.slice (some ⟨b30, 0, none⟩) [x1, x2].length 2)])]) ⟨b27, 0, rfl, Am (t := 33) (g := true) (s := 3) (by kernel_rfl) hs37.at0 rfl (by decide), trivial⟩, (.agg #[(vi x0), (vi 0), (.slice (some ⟨b30, 0, none⟩) [x1, x2].length 2)]), F1, rfl, hs37.clear, ⟨(some ⟨b30, 0, none⟩), 2, rfl, hb40, hs39⟩⟩
def O6 (sR89 : Aa -> Option (Aa × Expr)) : Prop := ∀ {wb w0 : World} {Fb F0 : Mem} {Lf : Own} (bp0 : Nat) (x0 : Aa) (a0_0 : TO) (n0_0 : Nat) (hb0_0 : LC x0.L.length n0_0) (hs0_0 : SlA Ag F0 a0_0 x0.L) (hs0 : HS wb Fb w0 F0 ((some bp0, (.cells #[(.slice a0_0 x0.L.length n0_0), (.int .i64 x0.At), (.int .i64 x0.Open), (.int .i64 x0.Bad), (.int .i64 x0.Where)] 108 (0, 0))) :: Lf)) (r : (Aa × Expr)), sR89 x0 = some r -> Calls Tryz.prog 89 ([(.pointer (some ⟨bp0, 0, none⟩))] : List Value).toArray w0 (D4 wb Fb F0 fun F' v L' => ∃ (aq0_0 : TO) (nq0_0 : Nat) (aq1_2 : TO) (nq1_2 : Nat), v = (.agg #[(.int .i64 r.2.Op), (.int .i64 r.2.Value), (.slice aq1_2 r.2.Kids.length nq1_2)]) /\ L' = (some bp0, (.cells #[(.slice aq0_0 r.1.L.length nq0_0), (.int .i64 r.1.At), (.int .i64 r.1.Open), (.int .i64 r.1.Bad), (.int .i64 r.1.Where)] 108 (0, 0))) :: Lf /\ LC r.1.L.length nq0_0 /\ SlA Ag F' aq0_0 r.1.L /\ LC r.2.Kids.length nq1_2 /\ SlA As F' aq1_2 r.2.Kids)
theorem B0 : Au Tryz.prog 89 := fun _ _ => by kernel_rfl
def NE (sR146 : Aa -> Option (Aa × Expr)) : Prop := ∀ {wb w0 : World} {Fb F0 : Mem} {Lf : Own} (bp0 : Nat) (x0 : Aa) (a0_0 : TO) (n0_0 : Nat) (hb0_0 : LC x0.L.length n0_0) (hs0_0 : SlA Ag F0 a0_0 x0.L) (hs0 : HS wb Fb w0 F0 ((some bp0, (.cells #[(.slice a0_0 x0.L.length n0_0), (.int .i64 x0.At), (.int .i64 x0.Open), (.int .i64 x0.Bad), (.int .i64 x0.Where)] 108 (0, 0))) :: Lf)) (r : (Aa × Expr)), sR146 x0 = some r -> Calls Tryz.prog 146 ([(.pointer (some ⟨bp0, 0, none⟩))] : List Value).toArray w0 (D4 wb Fb F0 fun F' v L' => ∃ (aq0_0 : TO) (nq0_0 : Nat) (aq1_2 : TO) (nq1_2 : Nat), v = (.agg #[(.int .i64 r.2.Op), (.int .i64 r.2.Value), (.slice aq1_2 r.2.Kids.length nq1_2)]) /\ L' = (some bp0, (.cells #[(.slice aq0_0 r.1.L.length nq0_0), (.int .i64 r.1.At), (.int .i64 r.1.Open), (.int .i64 r.1.Bad), (.int .i64 r.1.Where)] 108 (0, 0))) :: Lf /\ LC r.1.L.length nq0_0 /\ SlA Ag F' aq0_0 r.1.L /\ LC r.2.Kids.length nq1_2 /\ SlA As F' aq1_2 r.2.Kids)
theorem ET : Au Tryz.prog 146 := fun _ _ => by kernel_rfl
def Lp (sR186 : Aa -> Option (Aa × Expr)) : Prop := ∀ {wb w0 : World} {Fb F0 : Mem} {Lf : Own} (bp0 : Nat) (x0 : Aa) (a0_0 : TO) (n0_0 : Nat) (hb0_0 : LC x0.L.length n0_0) (hs0_0 : SlA Ag F0 a0_0 x0.L) (hs0 : HS wb Fb w0 F0 ((some bp0, (.cells #[(.slice a0_0 x0.L.length n0_0), (.int .i64 x0.At), (.int .i64 x0.Open), (.int .i64 x0.Bad), (.int .i64 x0.Where)] 108 (0, 0))) :: Lf)) (r : (Aa × Expr)), sR186 x0 = some r -> Calls Tryz.prog 186 ([(.pointer (some ⟨bp0, 0, none⟩))] : List Value).toArray w0 (D4 wb Fb F0 fun F' v L' => ∃ (aq0_0 : TO) (nq0_0 : Nat) (aq1_2 : TO) (nq1_2 : Nat), v = (.agg #[(.int .i64 r.2.Op), (.int .i64 r.2.Value), (.slice aq1_2 r.2.Kids.length nq1_2)]) /\ L' = (some bp0, (.cells #[(.slice aq0_0 r.1.L.length nq0_0), (.int .i64 r.1.At), (.int .i64 r.1.Open), (.int .i64 r.1.Bad), (.int .i64 r.1.Where)] 108 (0, 0))) :: Lf /\ LC r.1.L.length nq0_0 /\ SlA Ag F' aq0_0 r.1.L /\ LC r.2.Kids.length nq1_2 /\ SlA As F' aq1_2 r.2.Kids)
theorem DG : Au Tryz.prog 186 := fun _ _ => by kernel_rfl
def Ny (sR213 : Aa -> Option (Aa × Expr)) : Prop := ∀ {wb w0 : World} {Fb F0 : Mem} {Lf : Own} (bp0 : Nat) (x0 : Aa) (a0_0 : TO) (n0_0 : Nat) (hb0_0 : LC x0.L.length n0_0) (hs0_0 : SlA Ag F0 a0_0 x0.L) (hs0 : HS wb Fb w0 F0 ((some bp0, (.cells #[(.slice a0_0 x0.L.length n0_0), (.int .i64 x0.At), (.int .i64 x0.Open), (.int .i64 x0.Bad), (.int .i64 x0.Where)] 108 (0, 0))) :: Lf)) (r : (Aa × Expr)), sR213 x0 = some r -> Calls Tryz.prog 213 ([(.pointer (some ⟨bp0, 0, none⟩))] : List Value).toArray w0 (D4 wb Fb F0 fun F' v L' => ∃ (aq0_0 : TO) (nq0_0 : Nat) (aq1_2 : TO) (nq1_2 : Nat), v = (.agg #[(.int .i64 r.2.Op), (.int .i64 r.2.Value), (.slice aq1_2 r.2.Kids.length nq1_2)]) /\ L' = (some bp0, (.cells #[(.slice aq0_0 r.1.L.length nq0_0), (.int .i64 r.1.At), (.int .i64 r.1.Open), (.int .i64 r.1.Bad), (.int .i64 r.1.Where)] 108 (0, 0))) :: Lf /\ LC r.1.L.length nq0_0 /\ SlA Ag F' aq0_0 r.1.L /\ LC r.2.Kids.length nq1_2 /\ SlA As F' aq1_2 r.2.Kids)
theorem HI : Au Tryz.prog 213 := fun _ _ => by kernel_rfl
def Nw (sR227 : Aa -> Option (Aa × Expr)) : Prop := ∀ {wb w0 : World} {Fb F0 : Mem} {Lf : Own} (bp0 : Nat) (x0 : Aa) (a0_0 : TO) (n0_0 : Nat) (hb0_0 : LC x0.L.length n0_0) (hs0_0 : SlA Ag F0 a0_0 x0.L) (hs0 : HS wb Fb w0 F0 ((some bp0, (.cells #[(.slice a0_0 x0.L.length n0_0), (.int .i64 x0.At), (.int .i64 x0.Open), (.int .i64 x0.Bad), (.int .i64 x0.Where)] 108 (0, 0))) :: Lf)) (r : (Aa × Expr)), sR227 x0 = some r -> Calls Tryz.prog 227 ([(.pointer (some ⟨bp0, 0, none⟩))] : List Value).toArray w0 (D4 wb Fb F0 fun F' v L' => ∃ (aq0_0 : TO) (nq0_0 : Nat) (aq1_2 : TO) (nq1_2 : Nat), v = (.agg #[(.int .i64 r.2.Op), (.int .i64 r.2.Value), (.slice aq1_2 r.2.Kids.length nq1_2)]) /\ L' = (some bp0, (.cells #[(.slice aq0_0 r.1.L.length nq0_0), (.int .i64 r.1.At), (.int .i64 r.1.Open), (.int .i64 r.1.Bad), (.int .i64 r.1.Where)] 108 (0, 0))) :: Lf /\ LC r.1.L.length nq0_0 /\ SlA Ag F' aq0_0 r.1.L /\ LC r.2.Kids.length nq1_2 /\ SlA As F' aq1_2 r.2.Kids)
theorem E9 : Au Tryz.prog 227 := fun _ _ => by kernel_rfl
def Nu (sR234 : Aa -> Option (Aa × Expr)) : Prop := ∀ {wb w0 : World} {Fb F0 : Mem} {Lf : Own} (bp0 : Nat) (x0 : Aa) (a0_0 : TO) (n0_0 : Nat) (hb0_0 : LC x0.L.length n0_0) (hs0_0 : SlA Ag F0 a0_0 x0.L) (hs0 : HS wb Fb w0 F0 ((some bp0, (.cells #[(.slice a0_0 x0.L.length n0_0), (.int .i64 x0.At), (.int .i64 x0.Open), (.int .i64 x0.Bad), (.int .i64 x0.Where)] 108 (0, 0))) :: Lf)) (r : (Aa × Expr)), sR234 x0 = some r -> Calls Tryz.prog 234 ([(.pointer (some ⟨bp0, 0, none⟩))] : List Value).toArray w0 (D4 wb Fb F0 fun F' v L' => ∃ (aq0_0 : TO) (nq0_0 : Nat) (aq1_2 : TO) (nq1_2 : Nat), v = (.agg #[(.int .i64 r.2.Op), (.int .i64 r.2.Value), (.slice aq1_2 r.2.Kids.length nq1_2)]) /\ L' = (some bp0, (.cells #[(.slice aq0_0 r.1.L.length nq0_0), (.int .i64 r.1.At), (.int .i64 r.1.Open), (.int .i64 r.1.Bad), (.int .i64 r.1.Where)] 108 (0, 0))) :: Lf /\ LC r.1.L.length nq0_0 /\ SlA Ag F' aq0_0 r.1.L /\ LC r.2.Kids.length nq1_2 /\ SlA As F' aq1_2 r.2.Kids)
theorem EP : Au Tryz.prog 234 := fun _ _ => by kernel_rfl
def Nr (sR240 : Aa -> Option (Aa × Expr)) : Prop := ∀ {wb w0 : World} {Fb F0 : Mem} {Lf : Own} (bp0 : Nat) (x0 : Aa) (a0_0 : TO) (n0_0 : Nat) (hb0_0 : LC x0.L.length n0_0) (hs0_0 : SlA Ag F0 a0_0 x0.L) (hs0 : HS wb Fb w0 F0 ((some bp0, (.cells #[(.slice a0_0 x0.L.length n0_0), (.int .i64 x0.At), (.int .i64 x0.Open), (.int .i64 x0.Bad), (.int .i64 x0.Where)] 108 (0, 0))) :: Lf)) (r : (Aa × Expr)), sR240 x0 = some r -> Calls Tryz.prog 240 ([(.pointer (some ⟨bp0, 0, none⟩))] : List Value).toArray w0 (D4 wb Fb F0 fun F' v L' => ∃ (aq0_0 : TO) (nq0_0 : Nat) (aq1_2 : TO) (nq1_2 : Nat), v = (.agg #[(.int .i64 r.2.Op), (.int .i64 r.2.Value), (.slice aq1_2 r.2.Kids.length nq1_2)]) /\ L' = (some bp0, (.cells #[(.slice aq0_0 r.1.L.length nq0_0), (.int .i64 r.1.At), (.int .i64 r.1.Open), (.int .i64 r.1.Bad), (.int .i64 r.1.Where)] 108 (0, 0))) :: Lf /\ LC r.1.L.length nq0_0 /\ SlA Ag F' aq0_0 r.1.L /\ LC r.2.Kids.length nq1_2 /\ SlA As F' aq1_2 r.2.Kids)
theorem ES : Au Tryz.prog 240 := fun _ _ => by kernel_rfl
def BJ (N : Nat) (sR186 : Aa -> Option (Aa × Expr)) (x0 : Aa) (r24 : (Aa × Expr)) : (Int × Int × List Expr × List Af × Int × Int × Int × Int) -> Option (Bv (Aa × Expr) (Int × Int × List Expr × List Af × Int × Int × Int × Int)) := fun s39 =>
 ((bif (s39.2.2.2.2.2.2.1 == 0) then ((AH N ({ L := s39.2.2.2.1, At := s39.2.2.2.2.1, Open := s39.2.2.2.2.2.1, Bad := s39.2.2.2.2.2.2.1, Where := s39.2.2.2.2.2.2.2 } : Aa) ([97, 110, 100] : TN)).bind fun r74 => some r74) else some false).bind fun j63 => (bif j63 then ((sR186 ({ L := s39.2.2.2.1, At := (W64 (s39.2.2.2.2.1 + 1)), Open := s39.2.2.2.2.2.1, Bad := s39.2.2.2.2.2.2.1, Where := s39.2.2.2.2.2.2.2 } : Aa)).bind fun r86 => ((Et N 4 ({ Op := s39.1, Value := s39.2.1, Kids := s39.2.2.1 } : Expr) r86.2).bind fun r98 => some (.next (r98.Op, r98.Value, r98.Kids, r86.1.L, r86.1.At, r86.1.Open, r86.1.Bad, r86.1.Where)))) else some (.done (s39.1, s39.2.1, s39.2.2.1, s39.2.2.2.1, s39.2.2.2.2.1, s39.2.2.2.2.2.1, s39.2.2.2.2.2.2.1, s39.2.2.2.2.2.2.2))))
def C2 (N : Nat) (sR186 : Aa -> Option (Aa × Expr)) (x0 : Aa) : Option (Aa × Expr) :=
 ((sR186 x0).bind fun r24 => ((Be (BJ N sR186 x0 r24) N (r24.2.Op, r24.2.Value, r24.2.Kids, r24.1.L, r24.1.At, r24.1.Open, r24.1.Bad, r24.1.Where)).bind fun o => o.k (fun r => some r) (fun s47 => some (({ L := s47.2.2.2.1, At := s47.2.2.2.2.1, Open := s47.2.2.2.2.2.1, Bad := s47.2.2.2.2.2.2.1, Where := s47.2.2.2.2.2.2.2 } : Aa), ({ Op := s47.1, Value := s47.2.1, Kids := s47.2.2.1 } : Expr)))))
theorem H9 (N : Nat) (sR186 : Aa -> Option (Aa × Expr)) (hsR186 : Lp sR186) {wb w0 : World} {Fb F0 : Mem} {Lf : Own} (bp0 : Nat) (x0 : Aa) (a0_0 : TO) (n0_0 : Nat) (hb0_0 : LC x0.L.length n0_0) (hs0_0 : SlA Ag F0 a0_0 x0.L) (hs0 : HS wb Fb w0 F0 ((sb bp0 (Ae x0 a0_0 n0_0) 108) :: Lf)) (r : (Aa × Expr)) (h : C2 N sR186 x0 = some r) :
  Calls Tryz.prog 146 ([(pt bp0 0)] : List Value).toArray w0 (D4 wb Fb F0 fun F' v L' => ∃ (aq0_0 : TO) (nq0_0 : Nat) (aq1_2 : TO) (nq1_2 : Nat), v = (.agg (Ai r.2 aq1_2 nq1_2)) /\ L' = (sb bp0 (Ae r.1 aq0_0 nq0_0) 108) :: Lf /\ LC r.1.L.length nq0_0 /\ SlA Ag F' aq0_0 r.1.L /\ LC r.2.Kids.length nq1_2 /\ SlA As F' aq1_2 r.2.Kids) := by
 refine Go 29 Tryz.func146 ?_
 refine Sq (Rg [0] ?_)
 refine Al' 33 #[(vi 0), (vi 0), (.slice none ([] : List Expr).length 0)] hs0 (fun b21 w22 hs23 => ?_)
 refine Nss (Rg [0, 1, 2, 3] ?_)
 refine Vs 1 ?_
 obtain ⟨r24, hr25, h26⟩ := bind_some h
 refine CB DG (hsR186 bp0 x0 a0_0 n0_0 hb0_0 hs0_0 hs23.pk1 _ hr25) ?_
 rintro _ F1 w27 _ hs28 le29 ⟨ar24_0_0, nr24_0_0, ar24_1_2, nr24_1_2, rfl, rfl, hbr24_0_0, hsr24_0_0, hbr24_1_2, hsr24_1_2⟩
 refine Al' 33 #[(vi 0), (vi 0), (.slice none ([] : List Expr).length 0)] hs28 (fun b31 w32 hs33 => ?_)
 refine St0 (Ai r24.2 ar24_1_2 nr24_1_2) hs33 (fun w34 hs35 => ?_)
 refine Nss ?_
 obtain ⟨o36, ho37, h38⟩ := bind_some h26
 refine Tu (fun f w => ∃ (s47 : (Int × Int × List Expr × List Af × Int × Int × Int × Int)) (F3 : Mem) (as47_2 : TO) (ns47_2 : Nat) (as47_3 : TO) (ns47_3 : Nat), o36 = .done s47 /\ HS wb Fb w F3 ((sb b31 #[(vi s47.1), (vi s47.2.1), (.slice as47_2 s47.2.2.1.length ns47_2)] 33) :: (sb bp0 #[(.slice as47_3 s47.2.2.2.1.length ns47_3), (vi s47.2.2.2.2.1), (vi s47.2.2.2.2.2.1), (vi s47.2.2.2.2.2.2.1), (vi s47.2.2.2.2.2.2.2)] 108) :: (sb b21 #[(vi 0), (vi 0), (.slice none ([] : List Expr).length 0)] 33) :: Lf) /\ Tn F1 F3 /\ FI f [] [(2, (pt b21 0)), (3, (pt b31 0))] /\ LC s47.2.2.1.length ns47_2 /\ SlA As F3 as47_2 s47.2.2.1 /\ LC s47.2.2.2.1.length ns47_3 /\ SlA Ag F3 as47_3 s47.2.2.2.1) ?_ ?_
 ·refine Bk ?_
  refine Tm (by kernel_rfl) (fun m f w => ∃ (s39 : (Int × Int × List Expr × List Af × Int × Int × Int × Int)) (F2 : Mem) (as39_2 : TO) (ns39_2 : Nat) (as39_3 : TO) (ns39_3 : Nat), Be (BJ N sR186 x0 r24) m s39 = some o36 /\ HS wb Fb w F2 ((sb b31 #[(vi s39.1), (vi s39.2.1), (.slice as39_2 s39.2.2.1.length ns39_2)] 33) :: (sb bp0 #[(.slice as39_3 s39.2.2.2.1.length ns39_3), (vi s39.2.2.2.2.1), (vi s39.2.2.2.2.2.1), (vi s39.2.2.2.2.2.2.1), (vi s39.2.2.2.2.2.2.2)] 108) :: (sb b21 #[(vi 0), (vi 0), (.slice none ([] : List Expr).length 0)] 33) :: Lf) /\ Tn F1 F2 /\ FI f [] [(0, (pt bp0 0)), (2, (pt b21 0)), (3, (pt b31 0))] /\ LC s39.2.2.1.length ns39_2 /\ SlA As F2 as39_2 s39.2.2.1 /\ LC s39.2.2.2.1.length ns39_3 /\ SlA Ag F2 as39_3 s39.2.2.2.1) N ⟨(r24.2.Op, r24.2.Value, r24.2.Kids, r24.1.L, r24.1.At, r24.1.Open, r24.1.Bad, r24.1.Where), F1, ar24_1_2, nr24_1_2, ar24_0_0, nr24_0_0, ho37, hs35, (To _), fI, hbr24_1_2, hsr24_1_2, hbr24_0_0, hsr24_0_0⟩ ?_
  rintro m54 f w40 ⟨s39, F2, as39_2, ns39_2, as39_3, ns39_3, hit55, hs41, le42, ⟨_, rfl⟩, hbs39_2, hss39_2, hbs39_3, hss39_3⟩
  obtain ⟨m56, fl57, rfl, hb58, hnx59⟩ := A5 hit55
  refine Sq ?_
  refine Sq (Rg [0, 1, 2, 3, 4, 5, 6, 7, 8] ?_)
  obtain ⟨j63, hj69, h70⟩ := bind_some hb58
  refine Tt (fun f w => ∃ (F4 : Mem), HS wb Fb w F4 ((sb b31 #[(vi s39.1), (vi s39.2.1), (.slice as39_2 s39.2.2.1.length ns39_2)] 33) :: (sb bp0 #[(.slice as39_3 s39.2.2.2.1.length ns39_3), (vi s39.2.2.2.2.1), (vi s39.2.2.2.2.2.1), (vi s39.2.2.2.2.2.2.1), (vi s39.2.2.2.2.2.2.2)] 108) :: (sb b21 #[(vi 0), (vi 0), (.slice none ([] : List Expr).length 0)] 33) :: Lf) /\ Tn F2 F4 /\ FI f [] [(0, (pt bp0 0)), (2, (pt b21 0)), (3, (pt b31 0)), (15, (.bool j63))]) ?_ ?_
  ·refine Vs 3 ?_
   refine Ld hs41.at1 ?_
   refine Vs 2 ?_
   refine Sp hj69 (fun hb71 h72 => ?_) (fun hb71 h73 => ?_)
   ·refine Vgs hb71 1 ?_
    obtain ⟨r74, hr75, h76⟩ := bind_some h72
    refine TK (dst := (some 14)) (ty := 4) (g := (some (5, true))) (by kernel_rfl) (FG (d := 12) (by kernel_rfl) rfl hb71) (f0 := (.func 142)) (aos := #[(.tmp 13), (.const (.string ⟨([97, 110, 100] : TN).toArray⟩))]) (ats := #[104, 9]) (fid := 142) (first := #[]) (cap := #[]) (args := [(pt bp0 0), (.string ⟨(([97, 110, 100] : TN)).toArray⟩)]) rfl AJ rfl (AN N bp0 (({ L := s39.2.2.2.1, At := s39.2.2.2.2.1, Open := s39.2.2.2.2.2.1, Bad := s39.2.2.2.2.2.2.1, Where := s39.2.2.2.2.2.2.2 } : Aa)) as39_3 ns39_3 hbs39_3 hss39_3 (([97, 110, 100] : TN)) hs41.pk2.pk1.pk2 _ hr75) ?_
    rintro _ F5 w77 _ hs78 le79 ⟨rfl, rfl⟩
    refine Pk1 hb71 ?_
    obtain rfl := Ab h76
    exact Tj ⟨rfl, F5, hs78.pk2.pk1.pk2, le79, fI⟩
   ·refine Ss hb71 2 ?_
    refine Pk0 hb71 ?_
    obtain rfl := Ab h73
    exact Tj ⟨rfl, F2, hs41, (To _), fI⟩
  ·rintro f w60 ⟨F4, hs61, le62, ⟨_, rfl⟩⟩
   refine Ad ?_
   refine Cd h70 (fun hb81 h82 => ?_) (fun hb81 h83 => ?_)
   ·refine Sc ?_
    refine Ad ?_
    refine Bk ?_
    refine Sq (Rg [0, 1, 2, 3, 4, 5, 6, 7] ?_)
    refine Vs 3 ?_
    refine Ld hs61.at1 ?_
    refine Vs 3 ?_
    refine St1 #[(.slice as39_3 s39.2.2.2.1.length ns39_3), (vi (W64 (s39.2.2.2.2.1 + 1))), (vi s39.2.2.2.2.2.1), (vi s39.2.2.2.2.2.2.1), (vi s39.2.2.2.2.2.2.2)] hs61 (fun w84 hs85 => ?_)
    refine Nss (Rg [0, 1, 2, 3] ?_)
    refine Vs 1 ?_
    obtain ⟨r86, hr87, h88⟩ := bind_some h82
    refine CB DG (hsR186 bp0 (({ L := s39.2.2.2.1, At := (W64 (s39.2.2.2.2.1 + 1)), Open := s39.2.2.2.2.2.1, Bad := s39.2.2.2.2.2.2.1, Where := s39.2.2.2.2.2.2.2 } : Aa)) as39_3 ns39_3 hbs39_3 (Tq hss39_3 le62) hs85.pk2.pk1.pk2 _ hr87) ?_
    rintro _ F6 w89 _ hs90 le91 ⟨ar86_0_0, nr86_0_0, ar86_1_2, nr86_1_2, rfl, rfl, hbr86_0_0, hsr86_0_0, hbr86_1_2, hsr86_1_2⟩
    refine Al' 33 #[(vi 0), (vi 0), (.slice none ([] : List Expr).length 0)] hs90 (fun b93 w94 hs95 => ?_)
    refine St0 (Ai r86.2 ar86_1_2 nr86_1_2) hs95 (fun w96 hs97 => ?_)
    refine Nt ?_
    refine Rg [0, 1, 2, 3] ?_
    refine Ld hs97.at2 ?_
    refine Ld hs97.at0 ?_
    obtain ⟨r98, hr99, h100⟩ := bind_some h88
    refine Cl' DU hs97 (Eh N w96 F6 hs97.pers 4 (({ Op := s39.1, Value := s39.2.1, Kids := s39.2.2.1 } : Expr)) as39_2 ns39_2 hbs39_2 (Tq hss39_2 (le62.trans le91)) r86.2 ar86_1_2 nr86_1_2 hbr86_1_2 hsr86_1_2 _ hr99) ?_
    rintro _ F7 w102 hs103 le104 ⟨ar98_0_2, nr98_0_2, rfl, hbr98_0_2, hsr98_0_2⟩
    refine St2 (Ai r98 ar98_0_2 nr98_0_2) hs103 (fun w106 hs107 => ?_)
    refine Tj ?_
    refine AA ?_
    have hn108 := AW h100 hnx59
    exact ⟨m56, Nat.lt_succ_self _, (r98.Op, r98.Value, r98.Kids, r86.1.L, r86.1.At, r86.1.Open, r86.1.Bad, r86.1.Where), F7, ar98_0_2, nr98_0_2, ar86_0_0, nr86_0_0, hn108, hs107.dr0.pk2.pk1.pk2, (((le42.trans le62).trans le91).trans le104), fI, hbr98_0_2, hsr98_0_2, hbr86_0_0, (Tq hsr86_0_0 le104)⟩
   ·refine Ex ?_
    refine AC ?_
    refine AC ?_
    refine AL rfl ?_
    have ho109 := A8 h83 hnx59
    exact .inl ⟨rfl, (s39.1, s39.2.1, s39.2.2.1, s39.2.2.2.1, s39.2.2.2.2.1, s39.2.2.2.2.2.1, s39.2.2.2.2.2.2.1, s39.2.2.2.2.2.2.2), F4, as39_2, ns39_2, as39_3, ns39_3, ho109, hs61, (le42.trans le62), fI, hbs39_2, (Tq hss39_2 le62), hbs39_3, (Tq hss39_3 le62)⟩
 ·rintro f w48 ⟨s47, F3, as47_2, ns47_2, as47_3, ns47_3, rfl, hs49, le50, ⟨_, rfl⟩, hbs47_2, hss47_2, hbs47_3, hss47_3⟩
  have h110 := BT h38
  refine Ad ?_
  refine Sq (Rg [0, 1] ?_)
  refine Ld hs49.at0 ?_
  refine St2 #[(vi s47.1), (vi s47.2.1), (.slice as47_2 s47.2.2.1.length ns47_2)] hs49 (fun w111 hs112 => ?_)
  refine Nt ?_
  refine Rt ?_
  obtain rfl := Ab h110
  exact ⟨rfl, (.agg #[(vi s47.1), (vi s47.2.1), (.slice as47_2 s47.2.2.1.length ns47_2)]), AE (l := [.cell 2 33]) (by kernel_rfl) (vs := [(.agg #[(vi s47.1), (vi s47.2.1), (.slice as47_2 s47.2.2.1.length ns47_2)])]) ⟨b21, 0, rfl, Am (t := 33) (g := true) (s := 3) (by kernel_rfl) hs112.at2 rfl (by decide), trivial⟩, F3, _, _, rfl, hs112.dr0.dr1, (le29.trans le50), ⟨as47_3, ns47_3, as47_2, ns47_2, rfl, rfl, hbs47_3, hss47_3, hbs47_2, hss47_2⟩⟩
def B6 (N : Nat) (sR186 : Aa -> Option (Aa × Expr)) (sR213 : Aa -> Option (Aa × Expr)) (x0 : Aa) : Option (Aa × Expr) :=
 ((bif (x0.Bad == 0) then ((AH N x0 ([110, 111, 116] : TN)).bind fun r37 => some r37) else some false).bind fun j27 => (bif j27 then ((sR186 ({ L := x0.L, At := (W64 (x0.At + 1)), Open := x0.Open, Bad := x0.Bad, Where := x0.Where } : Aa)).bind fun r49 => some (r49.1, ({ Op := 3, Value := 0, Kids := [r49.2] } : Expr))) else ((sR213 x0).bind fun r72 => some (r72.1, r72.2))))
theorem H8 (N : Nat) (sR186 : Aa -> Option (Aa × Expr)) (hsR186 : Lp sR186) (sR213 : Aa -> Option (Aa × Expr)) (hsR213 : Ny sR213) {wb w0 : World} {Fb F0 : Mem} {Lf : Own} (bp0 : Nat) (x0 : Aa) (a0_0 : TO) (n0_0 : Nat) (hb0_0 : LC x0.L.length n0_0) (hs0_0 : SlA Ag F0 a0_0 x0.L) (hs0 : HS wb Fb w0 F0 ((sb bp0 (Ae x0 a0_0 n0_0) 108) :: Lf)) (r : (Aa × Expr)) (h : B6 N sR186 sR213 x0 = some r) :
  Calls Tryz.prog 186 ([(pt bp0 0)] : List Value).toArray w0 (D4 wb Fb F0 fun F' v L' => ∃ (aq0_0 : TO) (nq0_0 : Nat) (aq1_2 : TO) (nq1_2 : Nat), v = (.agg (Ai r.2 aq1_2 nq1_2)) /\ L' = (sb bp0 (Ae r.1 aq0_0 nq0_0) 108) :: Lf /\ LC r.1.L.length nq0_0 /\ SlA Ag F' aq0_0 r.1.L /\ LC r.2.Kids.length nq1_2 /\ SlA As F' aq1_2 r.2.Kids) := by
 refine Go 27 Tryz.func186 ?_
 refine Sq (Rg [0] ?_)
 refine Al' 33 #[(vi 0), (vi 0), (.slice none ([] : List Expr).length 0)] hs0 (fun b21 w22 hs23 => ?_)
 refine Nss ?_
 refine Sq (Rg [0, 1, 2, 3, 4, 5, 6, 7, 8] ?_)
 obtain ⟨j27, hj32, h33⟩ := bind_some h
 refine Tt (fun f w => ∃ (F1 : Mem), HS wb Fb w F1 ((sb b21 #[(vi 0), (vi 0), (.slice none ([] : List Expr).length 0)] 33) :: (sb bp0 (Ae x0 a0_0 n0_0) 108) :: Lf) /\ Tn F0 F1 /\ FI f [] [(0, (pt bp0 0)), (2, (pt b21 0)), (12, (.bool j27))]) ?_ ?_
 ·refine Vs 3 ?_
  refine Ld hs23.at1 ?_
  refine Vs 2 ?_
  refine Sp hj32 (fun hb34 h35 => ?_) (fun hb34 h36 => ?_)
  ·refine Vgs hb34 1 ?_
   obtain ⟨r37, hr38, h39⟩ := bind_some h35
   refine TK (dst := (some 11)) (ty := 4) (g := (some (5, true))) (by kernel_rfl) (FG (d := 9) (by kernel_rfl) rfl hb34) (f0 := (.func 142)) (aos := #[(.tmp 10), (.const (.string ⟨([110, 111, 116] : TN).toArray⟩))]) (ats := #[104, 9]) (fid := 142) (first := #[]) (cap := #[]) (args := [(pt bp0 0), (.string ⟨(([110, 111, 116] : TN)).toArray⟩)]) rfl AJ rfl (AN N bp0 x0 a0_0 n0_0 hb0_0 hs0_0 (([110, 111, 116] : TN)) hs23.pk1 _ hr38) ?_
   rintro _ F2 w40 _ hs41 le42 ⟨rfl, rfl⟩
   refine Pk1 hb34 ?_
   obtain rfl := Ab h39
   exact Tj ⟨rfl, F2, hs41.pk1, le42, fI⟩
  ·refine Ss hb34 2 ?_
   refine Pk0 hb34 ?_
   obtain rfl := Ab h36
   exact Tj ⟨rfl, F0, hs23, (To _), fI⟩
 ·rintro f w24 ⟨F1, hs25, le26, ⟨_, rfl⟩⟩
  refine Ad ?_
  refine Cd h33 (fun hb44 h45 => ?_) (fun hb44 h46 => ?_)
  ·refine Sq (Rg [0, 1, 2, 3, 4, 5, 6, 7] ?_)
   refine Vs 3 ?_
   refine Ld hs25.at1 ?_
   refine Vs 3 ?_
   refine St1 #[(.slice a0_0 x0.L.length n0_0), (vi (W64 (x0.At + 1))), (vi x0.Open), (vi x0.Bad), (vi x0.Where)] hs25 (fun w47 hs48 => ?_)
   refine Nss (Rg [0, 1, 2, 3] ?_)
   refine Vs 1 ?_
   obtain ⟨r49, hr50, h51⟩ := bind_some h45
   refine CB DG (hsR186 bp0 (({ L := x0.L, At := (W64 (x0.At + 1)), Open := x0.Open, Bad := x0.Bad, Where := x0.Where } : Aa)) a0_0 n0_0 hb0_0 (Tq hs0_0 le26) hs48.pk1 _ hr50) ?_
   rintro _ F3 w52 _ hs53 le54 ⟨ar49_0_0, nr49_0_0, ar49_1_2, nr49_1_2, rfl, rfl, hbr49_0_0, hsr49_0_0, hbr49_1_2, hsr49_1_2⟩
   refine Al' 33 #[(vi 0), (vi 0), (.slice none ([] : List Expr).length 0)] hs53 (fun b56 w57 hs58 => ?_)
   refine St0 (Ai r49.2 ar49_1_2 nr49_1_2) hs58 (fun w59 hs60 => ?_)
   refine Nss (Rg [0, 1, 2, 3] ?_)
   refine Ld hs60.at0 ?_
   refine Bs 33 [(vi r49.2.Op), (vi r49.2.Value), (.slice ar49_1_2 r49.2.Kids.length nr49_1_2)] hs60 (fun b61 w62 hs63 => ?_)
   have hr65 : Av As 33 F3 (some ⟨b61, 0, none⟩) 1 [r49.2] (some b61, .cells ([(vi r49.2.Op), (vi r49.2.Value), (.slice ar49_1_2 r49.2.Kids.length nr49_1_2)] : List Value).toArray 33 (0, 0)) := TH ⟨(Ba ⟨ar49_1_2, nr49_1_2, rfl, hbr49_1_2, hsr49_1_2⟩), rfl⟩ (by simp)
   refine Vs 1 ?_
   refine St3 #[(vi 3), (vi 0), (.slice (some ⟨b61, 0, none⟩) [r49.2].length 1)] hs63 (fun w66 hs67 => ?_)
   refine Nt ?_
   refine Rt ?_
   refine Aj ?_
   have hb71 := TF hr65
   obtain ⟨F4, hs68, le69, hs70⟩ := hs67.fr0 hr65
   obtain rfl := Ab h51
   exact ⟨rfl, (.agg #[(vi 3), (vi 0), (.slice (some ⟨b61, 0, none⟩) [r49.2].length 1)]), AE (l := [.cell 2 33]) (by kernel_rfl) (vs := [(.agg #[(vi 3), (vi 0), (.slice (some ⟨b61, 0, none⟩) [r49.2].length 1)])]) ⟨b21, 0, rfl, Am (t := 33) (g := true) (s := 3) (by kernel_rfl) hs68.at2 rfl (by decide), trivial⟩, F4, _, _, rfl, hs68.dr0.dr1, ((le26.trans le54).trans le69), ⟨ar49_0_0, nr49_0_0, (some ⟨b61, 0, none⟩), 1, rfl, rfl, hbr49_0_0, (Tq hsr49_0_0 le69), hb71, hs70⟩⟩
  ·refine Sc ?_
   refine Ad ?_
   refine Sq (Rg [0, 1, 2] ?_)
   refine Vs 1 ?_
   obtain ⟨r72, hr73, h74⟩ := bind_some h46
   refine CB HI (hsR213 bp0 x0 a0_0 n0_0 hb0_0 (Tq hs0_0 le26) hs25.pk1 _ hr73) ?_
   rintro _ F5 w75 _ hs76 le77 ⟨ar72_0_0, nr72_0_0, ar72_1_2, nr72_1_2, rfl, rfl, hbr72_0_0, hsr72_0_0, hbr72_1_2, hsr72_1_2⟩
   refine St1 (Ai r72.2 ar72_1_2 nr72_1_2) hs76 (fun w79 hs80 => ?_)
   refine Nt ?_
   refine Rt ?_
   obtain rfl := Ab h74
   exact ⟨rfl, (.agg (Ai r72.2 ar72_1_2 nr72_1_2)), AE (l := [.cell 2 33]) (by kernel_rfl) (vs := [(.agg (Ai r72.2 ar72_1_2 nr72_1_2))]) ⟨b21, 0, rfl, Am (t := 33) (g := true) (s := 3) (by kernel_rfl) hs80.at1 rfl (by decide), trivial⟩, F5, _, _, rfl, hs80.dr1, (le26.trans le77), ⟨ar72_0_0, nr72_0_0, ar72_1_2, nr72_1_2, rfl, rfl, hbr72_0_0, hsr72_0_0, hbr72_1_2, hsr72_1_2⟩⟩
def B5 (N : Nat) (sR227 : Aa -> Option (Aa × Expr)) (x0 : Aa) : Option (Aa × Expr) :=
 ((sR227 x0).bind fun r24 => ((bif (r24.1.Bad == 0) then ((AH N r24.1 ([61] : TN)).bind fun r50 => (bif r50 then some true else ((AH N r24.1 ([60] : TN)).bind fun r60 => some r60))) else some false).bind fun j39 => (bif j39 then ((AH N r24.1 ([61] : TN)).bind fun r70 => ((sR227 ({ L := r24.1.L, At := (W64 (r24.1.At + 1)), Open := r24.1.Open, Bad := r24.1.Bad, Where := r24.1.Where } : Aa)).bind fun r88 => ((Et N (bif r70 then 6 else 7) r24.2 r88.2).bind fun r100 => some (r88.1, r100)))) else some (r24.1, r24.2))))
theorem HX (N : Nat) (sR227 : Aa -> Option (Aa × Expr)) (hsR227 : Nw sR227) {wb w0 : World} {Fb F0 : Mem} {Lf : Own} (bp0 : Nat) (x0 : Aa) (a0_0 : TO) (n0_0 : Nat) (hb0_0 : LC x0.L.length n0_0) (hs0_0 : SlA Ag F0 a0_0 x0.L) (hs0 : HS wb Fb w0 F0 ((sb bp0 (Ae x0 a0_0 n0_0) 108) :: Lf)) (r : (Aa × Expr)) (h : B5 N sR227 x0 = some r) :
  Calls Tryz.prog 213 ([(pt bp0 0)] : List Value).toArray w0 (D4 wb Fb F0 fun F' v L' => ∃ (aq0_0 : TO) (nq0_0 : Nat) (aq1_2 : TO) (nq1_2 : Nat), v = (.agg (Ai r.2 aq1_2 nq1_2)) /\ L' = (sb bp0 (Ae r.1 aq0_0 nq0_0) 108) :: Lf /\ LC r.1.L.length nq0_0 /\ SlA Ag F' aq0_0 r.1.L /\ LC r.2.Kids.length nq1_2 /\ SlA As F' aq1_2 r.2.Kids) := by
 refine Go 37 Tryz.func213 ?_
 refine Sq (Rg [0] ?_)
 refine Al' 33 #[(vi 0), (vi 0), (.slice none ([] : List Expr).length 0)] hs0 (fun b21 w22 hs23 => ?_)
 refine Nss (Rg [0, 1, 2, 3] ?_)
 refine Vs 1 ?_
 obtain ⟨r24, hr25, h26⟩ := bind_some h
 refine CB E9 (hsR227 bp0 x0 a0_0 n0_0 hb0_0 hs0_0 hs23.pk1 _ hr25) ?_
 rintro _ F1 w27 _ hs28 le29 ⟨ar24_0_0, nr24_0_0, ar24_1_2, nr24_1_2, rfl, rfl, hbr24_0_0, hsr24_0_0, hbr24_1_2, hsr24_1_2⟩
 refine Al' 33 #[(vi 0), (vi 0), (.slice none ([] : List Expr).length 0)] hs28 (fun b31 w32 hs33 => ?_)
 refine St0 (Ai r24.2 ar24_1_2 nr24_1_2) hs33 (fun w34 hs35 => ?_)
 refine Nss ?_
 refine Sq (Rg [0, 1, 2, 3, 4, 5, 6, 7, 8, 9, 10, 11, 12] ?_)
 obtain ⟨j39, hj45, h46⟩ := bind_some h26
 refine Tt (fun f w => ∃ (F2 : Mem), HS wb Fb w F2 ((sb b31 (Ai r24.2 ar24_1_2 nr24_1_2) 33) :: (sb bp0 (Ae r24.1 ar24_0_0 nr24_0_0) 108) :: (sb b21 #[(vi 0), (vi 0), (.slice none ([] : List Expr).length 0)] 33) :: Lf) /\ Tn F1 F2 /\ FI f [] [(0, (pt bp0 0)), (2, (pt b21 0)), (3, (pt b31 0)), (20, (.bool j39))]) ?_ ?_
 ·refine Vs 3 ?_
  refine Ld hs35.at1 ?_
  refine Vs 2 ?_
  refine Sp hj45 (fun hb47 h48 => ?_) (fun hb47 h49 => ?_)
  ·refine Vgs hb47 1 ?_
   obtain ⟨r50, hr51, h52⟩ := bind_some h48
   refine TK (dst := (some 15)) (ty := 4) (g := (some (5, true))) (by kernel_rfl) (FG (d := 13) (by kernel_rfl) rfl hb47) (f0 := (.func 142)) (aos := #[(.tmp 14), (.const (.string ⟨([61] : TN).toArray⟩))]) (ats := #[104, 9]) (fid := 142) (first := #[]) (cap := #[]) (args := [(pt bp0 0), (.string ⟨(([61] : TN)).toArray⟩)]) rfl AJ rfl (AN N bp0 r24.1 ar24_0_0 nr24_0_0 hbr24_0_0 hsr24_0_0 (([61] : TN)) hs35.pk2.pk1.pk2 _ hr51) ?_
   rintro _ F3 w53 _ hs54 le55 ⟨rfl, rfl⟩
   refine Vgs hb47 1 ?_
   refine Sp h52 (fun hb57 h58 => ?_) (fun hb57 h59 => ?_)
   ·refine Ss hb57 2 ?_
    refine Pg1 hb47 hb57 ?_
    refine Pk1 hb47 ?_
    obtain rfl := Ab h58
    exact Tj ⟨rfl, F3, hs54.pk2.pk1.pk2, le55, fI⟩
   ·refine Vgs hb57 1 ?_
    obtain ⟨r60, hr61, h62⟩ := bind_some h59
    refine TK (dst := (some 18)) (ty := 4) (g := (some (8, false))) (by kernel_rfl) (FG (d := 16) (by kernel_rfl) rfl hb57) (f0 := (.func 142)) (aos := #[(.tmp 17), (.const (.string ⟨([60] : TN).toArray⟩))]) (ats := #[104, 9]) (fid := 142) (first := #[]) (cap := #[]) (args := [(pt bp0 0), (.string ⟨(([60] : TN)).toArray⟩)]) rfl AJ rfl (AN N bp0 r24.1 ar24_0_0 nr24_0_0 hbr24_0_0 (Tq hsr24_0_0 le55) (([60] : TN)) hs54 _ hr61) ?_
    rintro _ F4 w63 _ hs64 le65 ⟨rfl, rfl⟩
    refine Pg0 hb47 hb57 ?_
    refine Pk1 hb47 ?_
    obtain rfl := Ab h62
    exact Tj ⟨rfl, F4, hs64.pk2.pk1.pk2, (le55.trans le65), fI⟩
  ·refine Ss hb47 3 ?_
   refine Su' 2 ?_
   refine Ss hb47 1 ?_
   refine Pk0 hb47 ?_
   obtain rfl := Ab h49
   exact Tj ⟨rfl, F1, hs35, (To _), fI⟩
 ·rintro f w36 ⟨F2, hs37, le38, ⟨_, rfl⟩⟩
  refine Ad ?_
  refine Cd h46 (fun hb67 h68 => ?_) (fun hb67 h69 => ?_)
  ·refine Sq (Rg [0] ?_)
   refine Vs 1 ?_
   refine Nss ?_
   refine Sq (Rg [0, 1] ?_)
   refine Vs 1 ?_
   obtain ⟨r70, hr71, h72⟩ := bind_some h68
   refine CB AJ (AN N bp0 r24.1 ar24_0_0 nr24_0_0 hbr24_0_0 (Tq hsr24_0_0 le38) (([61] : TN)) hs37.pk2.pk1.pk2 _ hr71) ?_
   rintro _ F5 w73 _ hs74 le75 ⟨rfl, rfl⟩
   refine Nt ?_
   refine Tu (fun f w => ∃ (F6 : Mem), HS wb Fb w F6 ((sb bp0 (Ae r24.1 ar24_0_0 nr24_0_0) 108) :: (sb b31 (Ai r24.2 ar24_1_2 nr24_1_2) 33) :: (sb b21 #[(vi 0), (vi 0), (.slice none ([] : List Expr).length 0)] 33) :: Lf) /\ Tn F5 F6 /\ FI f [] [(0, (pt bp0 0)), (2, (pt b21 0)), (3, (pt b31 0)), (4, (vi (bif r70 then 6 else 7)))]) ?_ ?_
   ·refine Cp r70 (fun hb85 => ?_) (fun hb85 => ?_)
    ·refine Rg [0] ?_
     refine Vs 1 ?_
     refine Tj ?_
     exact .inl ⟨rfl, F5, hs74, (To _), (fJ ⟨rfl, rfl, rfl, (congrArg (Value.int .i64) (CH hb85 rfl)), trivial⟩)⟩
    ·refine Sc ?_
     exact .inl ⟨rfl, F5, hs74, (To _), (fJ ⟨rfl, rfl, rfl, (congrArg (Value.int .i64) (C7 hb85 rfl)), trivial⟩)⟩
   ·rintro f w77 ⟨F6, hs78, le79, ⟨_, rfl⟩⟩
    refine Ad ?_
    refine Sq (Rg [0, 1, 2, 3, 4, 5, 6, 7] ?_)
    refine Vs 3 ?_
    refine Ld hs78.at0 ?_
    refine Vs 3 ?_
    refine St0 #[(.slice ar24_0_0 r24.1.L.length nr24_0_0), (vi (W64 (r24.1.At + 1))), (vi r24.1.Open), (vi r24.1.Bad), (vi r24.1.Where)] hs78 (fun w86 hs87 => ?_)
    refine Nss (Rg [0, 1, 2, 3] ?_)
    refine Vs 1 ?_
    obtain ⟨r88, hr89, h90⟩ := bind_some h72
    refine CB E9 (hsR227 bp0 (({ L := r24.1.L, At := (W64 (r24.1.At + 1)), Open := r24.1.Open, Bad := r24.1.Bad, Where := r24.1.Where } : Aa)) ar24_0_0 nr24_0_0 hbr24_0_0 (Tq hsr24_0_0 ((le38.trans le75).trans le79)) hs87 _ hr89) ?_
    rintro _ F7 w91 _ hs92 le93 ⟨ar88_0_0, nr88_0_0, ar88_1_2, nr88_1_2, rfl, rfl, hbr88_0_0, hsr88_0_0, hbr88_1_2, hsr88_1_2⟩
    refine Al' 33 #[(vi 0), (vi 0), (.slice none ([] : List Expr).length 0)] hs92 (fun b95 w96 hs97 => ?_)
    refine St0 (Ai r88.2 ar88_1_2 nr88_1_2) hs97 (fun w98 hs99 => ?_)
    refine Nss (Rg [0, 1, 2, 3, 4] ?_)
    refine Vs 1 ?_
    refine Ld hs99.at2 ?_
    refine Ld hs99.at0 ?_
    obtain ⟨r100, hr101, h102⟩ := bind_some h90
    refine Cl' DU hs99 (Eh N w98 F7 hs99.pers ((bif r70 then 6 else 7)) r24.2 ar24_1_2 nr24_1_2 hbr24_1_2 (Tq hsr24_1_2 (((le38.trans le75).trans le79).trans le93)) r88.2 ar88_1_2 nr88_1_2 hbr88_1_2 hsr88_1_2 _ hr101) ?_
    rintro _ F8 w104 hs105 le106 ⟨ar100_0_2, nr100_0_2, rfl, hbr100_0_2, hsr100_0_2⟩
    refine St3 (Ai r100 ar100_0_2 nr100_0_2) hs105 (fun w108 hs109 => ?_)
    refine Nt ?_
    refine Rt ?_
    refine Aj ?_
    obtain rfl := Ab h102
    exact ⟨rfl, (.agg (Ai r100 ar100_0_2 nr100_0_2)), AE (l := [.cell 2 33]) (by kernel_rfl) (vs := [(.agg (Ai r100 ar100_0_2 nr100_0_2))]) ⟨b21, 0, rfl, Am (t := 33) (g := true) (s := 3) (by kernel_rfl) hs109.at3 rfl (by decide), trivial⟩, F8, _, _, rfl, hs109.dr0.dr1.dr1, (((((le29.trans le38).trans le75).trans le79).trans le93).trans le106), ⟨ar88_0_0, nr88_0_0, ar100_0_2, nr100_0_2, rfl, rfl, hbr88_0_0, (Tq hsr88_0_0 le106), hbr100_0_2, hsr100_0_2⟩⟩
  ·refine Sc ?_
   refine Ad ?_
   refine Sq (Rg [0, 1] ?_)
   refine Ld hs37.at0 ?_
   refine St2 (Ai r24.2 ar24_1_2 nr24_1_2) hs37 (fun w110 hs111 => ?_)
   refine Nt ?_
   refine Rt ?_
   obtain rfl := Ab h69
   exact ⟨rfl, (.agg (Ai r24.2 ar24_1_2 nr24_1_2)), AE (l := [.cell 2 33]) (by kernel_rfl) (vs := [(.agg (Ai r24.2 ar24_1_2 nr24_1_2))]) ⟨b21, 0, rfl, Am (t := 33) (g := true) (s := 3) (by kernel_rfl) hs111.at2 rfl (by decide), trivial⟩, F2, _, _, rfl, hs111.dr0.dr1, (le29.trans le38), ⟨ar24_0_0, nr24_0_0, ar24_1_2, nr24_1_2, rfl, rfl, hbr24_0_0, (Tq hsr24_0_0 le38), hbr24_1_2, (Tq hsr24_1_2 le38)⟩⟩
def BN (N : Nat) (sR234 : Aa -> Option (Aa × Expr)) (x0 : Aa) (r24 : (Aa × Expr)) : (Int × Int × List Expr × List Af × Int × Int × Int × Int) -> Option (Bv (Aa × Expr) (Int × Int × List Expr × List Af × Int × Int × Int × Int)) := fun s39 =>
 ((bif (s39.2.2.2.2.2.2.1 == 0) then ((AH N ({ L := s39.2.2.2.1, At := s39.2.2.2.2.1, Open := s39.2.2.2.2.2.1, Bad := s39.2.2.2.2.2.2.1, Where := s39.2.2.2.2.2.2.2 } : Aa) ([43] : TN)).bind fun r74 => (bif r74 then some true else ((AH N ({ L := s39.2.2.2.1, At := s39.2.2.2.2.1, Open := s39.2.2.2.2.2.1, Bad := s39.2.2.2.2.2.2.1, Where := s39.2.2.2.2.2.2.2 } : Aa) ([45] : TN)).bind fun r84 => some r84))) else some false).bind fun j63 => (bif j63 then ((AH N ({ L := s39.2.2.2.1, At := s39.2.2.2.2.1, Open := s39.2.2.2.2.2.1, Bad := s39.2.2.2.2.2.2.1, Where := s39.2.2.2.2.2.2.2 } : Aa) ([43] : TN)).bind fun r94 => ((sR234 ({ L := s39.2.2.2.1, At := (W64 (s39.2.2.2.2.1 + 1)), Open := s39.2.2.2.2.2.1, Bad := s39.2.2.2.2.2.2.1, Where := s39.2.2.2.2.2.2.2 } : Aa)).bind fun r112 => ((Et N (bif r94 then 8 else 9) ({ Op := s39.1, Value := s39.2.1, Kids := s39.2.2.1 } : Expr) r112.2).bind fun r124 => some (.next (r124.Op, r124.Value, r124.Kids, r112.1.L, r112.1.At, r112.1.Open, r112.1.Bad, r112.1.Where))))) else some (.done (s39.1, s39.2.1, s39.2.2.1, s39.2.2.2.1, s39.2.2.2.2.1, s39.2.2.2.2.2.1, s39.2.2.2.2.2.2.1, s39.2.2.2.2.2.2.2))))
def Da (N : Nat) (sR234 : Aa -> Option (Aa × Expr)) (x0 : Aa) : Option (Aa × Expr) :=
 ((sR234 x0).bind fun r24 => ((Be (BN N sR234 x0 r24) N (r24.2.Op, r24.2.Value, r24.2.Kids, r24.1.L, r24.1.At, r24.1.Open, r24.1.Bad, r24.1.Where)).bind fun o => o.k (fun r => some r) (fun s47 => some (({ L := s47.2.2.2.1, At := s47.2.2.2.2.1, Open := s47.2.2.2.2.2.1, Bad := s47.2.2.2.2.2.2.1, Where := s47.2.2.2.2.2.2.2 } : Aa), ({ Op := s47.1, Value := s47.2.1, Kids := s47.2.2.1 } : Expr)))))
theorem Iz (N : Nat) (sR234 : Aa -> Option (Aa × Expr)) (hsR234 : Nu sR234) {wb w0 : World} {Fb F0 : Mem} {Lf : Own} (bp0 : Nat) (x0 : Aa) (a0_0 : TO) (n0_0 : Nat) (hb0_0 : LC x0.L.length n0_0) (hs0_0 : SlA Ag F0 a0_0 x0.L) (hs0 : HS wb Fb w0 F0 ((sb bp0 (Ae x0 a0_0 n0_0) 108) :: Lf)) (r : (Aa × Expr)) (h : Da N sR234 x0 = some r) :
  Calls Tryz.prog 227 ([(pt bp0 0)] : List Value).toArray w0 (D4 wb Fb F0 fun F' v L' => ∃ (aq0_0 : TO) (nq0_0 : Nat) (aq1_2 : TO) (nq1_2 : Nat), v = (.agg (Ai r.2 aq1_2 nq1_2)) /\ L' = (sb bp0 (Ae r.1 aq0_0 nq0_0) 108) :: Lf /\ LC r.1.L.length nq0_0 /\ SlA Ag F' aq0_0 r.1.L /\ LC r.2.Kids.length nq1_2 /\ SlA As F' aq1_2 r.2.Kids) := by
 refine Go 37 Tryz.func227 ?_
 refine Sq (Rg [0] ?_)
 refine Al' 33 #[(vi 0), (vi 0), (.slice none ([] : List Expr).length 0)] hs0 (fun b21 w22 hs23 => ?_)
 refine Nss (Rg [0, 1, 2, 3] ?_)
 refine Vs 1 ?_
 obtain ⟨r24, hr25, h26⟩ := bind_some h
 refine CB EP (hsR234 bp0 x0 a0_0 n0_0 hb0_0 hs0_0 hs23.pk1 _ hr25) ?_
 rintro _ F1 w27 _ hs28 le29 ⟨ar24_0_0, nr24_0_0, ar24_1_2, nr24_1_2, rfl, rfl, hbr24_0_0, hsr24_0_0, hbr24_1_2, hsr24_1_2⟩
 refine Al' 33 #[(vi 0), (vi 0), (.slice none ([] : List Expr).length 0)] hs28 (fun b31 w32 hs33 => ?_)
 refine St0 (Ai r24.2 ar24_1_2 nr24_1_2) hs33 (fun w34 hs35 => ?_)
 refine Nss ?_
 obtain ⟨o36, ho37, h38⟩ := bind_some h26
 refine Tu (fun f w => ∃ (s47 : (Int × Int × List Expr × List Af × Int × Int × Int × Int)) (F3 : Mem) (as47_2 : TO) (ns47_2 : Nat) (as47_3 : TO) (ns47_3 : Nat), o36 = .done s47 /\ HS wb Fb w F3 ((sb b31 #[(vi s47.1), (vi s47.2.1), (.slice as47_2 s47.2.2.1.length ns47_2)] 33) :: (sb bp0 #[(.slice as47_3 s47.2.2.2.1.length ns47_3), (vi s47.2.2.2.2.1), (vi s47.2.2.2.2.2.1), (vi s47.2.2.2.2.2.2.1), (vi s47.2.2.2.2.2.2.2)] 108) :: (sb b21 #[(vi 0), (vi 0), (.slice none ([] : List Expr).length 0)] 33) :: Lf) /\ Tn F1 F3 /\ FI f [] [(2, (pt b21 0)), (3, (pt b31 0))] /\ LC s47.2.2.1.length ns47_2 /\ SlA As F3 as47_2 s47.2.2.1 /\ LC s47.2.2.2.1.length ns47_3 /\ SlA Ag F3 as47_3 s47.2.2.2.1) ?_ ?_
 ·refine Bk ?_
  refine Tm (by kernel_rfl) (fun m f w => ∃ (s39 : (Int × Int × List Expr × List Af × Int × Int × Int × Int)) (F2 : Mem) (as39_2 : TO) (ns39_2 : Nat) (as39_3 : TO) (ns39_3 : Nat), Be (BN N sR234 x0 r24) m s39 = some o36 /\ HS wb Fb w F2 ((sb b31 #[(vi s39.1), (vi s39.2.1), (.slice as39_2 s39.2.2.1.length ns39_2)] 33) :: (sb bp0 #[(.slice as39_3 s39.2.2.2.1.length ns39_3), (vi s39.2.2.2.2.1), (vi s39.2.2.2.2.2.1), (vi s39.2.2.2.2.2.2.1), (vi s39.2.2.2.2.2.2.2)] 108) :: (sb b21 #[(vi 0), (vi 0), (.slice none ([] : List Expr).length 0)] 33) :: Lf) /\ Tn F1 F2 /\ FI f [] [(0, (pt bp0 0)), (2, (pt b21 0)), (3, (pt b31 0))] /\ LC s39.2.2.1.length ns39_2 /\ SlA As F2 as39_2 s39.2.2.1 /\ LC s39.2.2.2.1.length ns39_3 /\ SlA Ag F2 as39_3 s39.2.2.2.1) N ⟨(r24.2.Op, r24.2.Value, r24.2.Kids, r24.1.L, r24.1.At, r24.1.Open, r24.1.Bad, r24.1.Where), F1, ar24_1_2, nr24_1_2, ar24_0_0, nr24_0_0, ho37, hs35, (To _), fI, hbr24_1_2, hsr24_1_2, hbr24_0_0, hsr24_0_0⟩ ?_
  rintro m54 f w40 ⟨s39, F2, as39_2, ns39_2, as39_3, ns39_3, hit55, hs41, le42, ⟨_, rfl⟩, hbs39_2, hss39_2, hbs39_3, hss39_3⟩
  obtain ⟨m56, fl57, rfl, hb58, hnx59⟩ := A5 hit55
  refine Sq ?_
  refine Sq (Rg [0, 1, 2, 3, 4, 5, 6, 7, 8, 9, 10, 11, 12] ?_)
  obtain ⟨j63, hj69, h70⟩ := bind_some hb58
  refine Tt (fun f w => ∃ (F4 : Mem), HS wb Fb w F4 ((sb b31 #[(vi s39.1), (vi s39.2.1), (.slice as39_2 s39.2.2.1.length ns39_2)] 33) :: (sb bp0 #[(.slice as39_3 s39.2.2.2.1.length ns39_3), (vi s39.2.2.2.2.1), (vi s39.2.2.2.2.2.1), (vi s39.2.2.2.2.2.2.1), (vi s39.2.2.2.2.2.2.2)] 108) :: (sb b21 #[(vi 0), (vi 0), (.slice none ([] : List Expr).length 0)] 33) :: Lf) /\ Tn F2 F4 /\ FI f [] [(0, (pt bp0 0)), (2, (pt b21 0)), (3, (pt b31 0)), (20, (.bool j63))]) ?_ ?_
  ·refine Vs 3 ?_
   refine Ld hs41.at1 ?_
   refine Vs 2 ?_
   refine Sp hj69 (fun hb71 h72 => ?_) (fun hb71 h73 => ?_)
   ·refine Vgs hb71 1 ?_
    obtain ⟨r74, hr75, h76⟩ := bind_some h72
    refine TK (dst := (some 15)) (ty := 4) (g := (some (5, true))) (by kernel_rfl) (FG (d := 13) (by kernel_rfl) rfl hb71) (f0 := (.func 142)) (aos := #[(.tmp 14), (.const (.string ⟨([43] : TN).toArray⟩))]) (ats := #[104, 9]) (fid := 142) (first := #[]) (cap := #[]) (args := [(pt bp0 0), (.string ⟨(([43] : TN)).toArray⟩)]) rfl AJ rfl (AN N bp0 (({ L := s39.2.2.2.1, At := s39.2.2.2.2.1, Open := s39.2.2.2.2.2.1, Bad := s39.2.2.2.2.2.2.1, Where := s39.2.2.2.2.2.2.2 } : Aa)) as39_3 ns39_3 hbs39_3 hss39_3 (([43] : TN)) hs41.pk2.pk1.pk2 _ hr75) ?_
    rintro _ F5 w77 _ hs78 le79 ⟨rfl, rfl⟩
    refine Vgs hb71 1 ?_
    refine Sp h76 (fun hb81 h82 => ?_) (fun hb81 h83 => ?_)
    ·refine Ss hb81 2 ?_
     refine Pg1 hb71 hb81 ?_
     refine Pk1 hb71 ?_
     obtain rfl := Ab h82
     exact Tj ⟨rfl, F5, hs78.pk2.pk1.pk2, le79, fI⟩
    ·refine Vgs hb81 1 ?_
     obtain ⟨r84, hr85, h86⟩ := bind_some h83
     refine TK (dst := (some 18)) (ty := 4) (g := (some (8, false))) (by kernel_rfl) (FG (d := 16) (by kernel_rfl) rfl hb81) (f0 := (.func 142)) (aos := #[(.tmp 17), (.const (.string ⟨([45] : TN).toArray⟩))]) (ats := #[104, 9]) (fid := 142) (first := #[]) (cap := #[]) (args := [(pt bp0 0), (.string ⟨(([45] : TN)).toArray⟩)]) rfl AJ rfl (AN N bp0 (({ L := s39.2.2.2.1, At := s39.2.2.2.2.1, Open := s39.2.2.2.2.2.1, Bad := s39.2.2.2.2.2.2.1, Where := s39.2.2.2.2.2.2.2 } : Aa)) as39_3 ns39_3 hbs39_3 (Tq hss39_3 le79) (([45] : TN)) hs78 _ hr85) ?_
     rintro _ F6 w87 _ hs88 le89 ⟨rfl, rfl⟩
     refine Pg0 hb71 hb81 ?_
     refine Pk1 hb71 ?_
     obtain rfl := Ab h86
     exact Tj ⟨rfl, F6, hs88.pk2.pk1.pk2, (le79.trans le89), fI⟩
   ·refine Ss hb71 3 ?_
    refine Su' 2 ?_
    refine Ss hb71 1 ?_
    refine Pk0 hb71 ?_
    obtain rfl := Ab h73
    exact Tj ⟨rfl, F2, hs41, (To _), fI⟩
  ·rintro f w60 ⟨F4, hs61, le62, ⟨_, rfl⟩⟩
   refine Ad ?_
   refine Cd h70 (fun hb91 h92 => ?_) (fun hb91 h93 => ?_)
   ·refine Sc ?_
    refine Ad ?_
    refine Bk ?_
    refine Sq (Rg [0] ?_)
    refine Vs 1 ?_
    refine Nss ?_
    refine Sq (Rg [0, 1] ?_)
    refine Vs 1 ?_
    obtain ⟨r94, hr95, h96⟩ := bind_some h92
    refine CB AJ (AN N bp0 (({ L := s39.2.2.2.1, At := s39.2.2.2.2.1, Open := s39.2.2.2.2.2.1, Bad := s39.2.2.2.2.2.2.1, Where := s39.2.2.2.2.2.2.2 } : Aa)) as39_3 ns39_3 hbs39_3 (Tq hss39_3 le62) (([43] : TN)) hs61.pk2.pk1.pk2 _ hr95) ?_
    rintro _ F7 w97 _ hs98 le99 ⟨rfl, rfl⟩
    refine Nt ?_
    refine Tu (fun f w => ∃ (F8 : Mem), HS wb Fb w F8 ((sb bp0 #[(.slice as39_3 s39.2.2.2.1.length ns39_3), (vi s39.2.2.2.2.1), (vi s39.2.2.2.2.2.1), (vi s39.2.2.2.2.2.2.1), (vi s39.2.2.2.2.2.2.2)] 108) :: (sb b31 #[(vi s39.1), (vi s39.2.1), (.slice as39_2 s39.2.2.1.length ns39_2)] 33) :: (sb b21 #[(vi 0), (vi 0), (.slice none ([] : List Expr).length 0)] 33) :: Lf) /\ Tn F7 F8 /\ FI f [] [(0, (pt bp0 0)), (2, (pt b21 0)), (3, (pt b31 0)), (4, (vi (bif r94 then 8 else 9)))]) ?_ ?_
    ·refine Cp r94 (fun hb109 => ?_) (fun hb109 => ?_)
     ·refine Rg [0] ?_
      refine Vs 1 ?_
      refine Tj ?_
      exact .inl ⟨rfl, F7, hs98, (To _), (fJ ⟨rfl, rfl, rfl, (congrArg (Value.int .i64) (CH hb109 rfl)), trivial⟩)⟩
     ·refine Sc ?_
      exact .inl ⟨rfl, F7, hs98, (To _), (fJ ⟨rfl, rfl, rfl, (congrArg (Value.int .i64) (C7 hb109 rfl)), trivial⟩)⟩
    ·rintro f w101 ⟨F8, hs102, le103, ⟨_, rfl⟩⟩
     refine Ad ?_
     refine Sq (Rg [0, 1, 2, 3, 4, 5, 6, 7] ?_)
     refine Vs 3 ?_
     refine Ld hs102.at0 ?_
     refine Vs 3 ?_
     refine St0 #[(.slice as39_3 s39.2.2.2.1.length ns39_3), (vi (W64 (s39.2.2.2.2.1 + 1))), (vi s39.2.2.2.2.2.1), (vi s39.2.2.2.2.2.2.1), (vi s39.2.2.2.2.2.2.2)] hs102 (fun w110 hs111 => ?_)
     refine Nss (Rg [0, 1, 2, 3] ?_)
     refine Vs 1 ?_
     obtain ⟨r112, hr113, h114⟩ := bind_some h96
     refine CB EP (hsR234 bp0 (({ L := s39.2.2.2.1, At := (W64 (s39.2.2.2.2.1 + 1)), Open := s39.2.2.2.2.2.1, Bad := s39.2.2.2.2.2.2.1, Where := s39.2.2.2.2.2.2.2 } : Aa)) as39_3 ns39_3 hbs39_3 (Tq hss39_3 ((le62.trans le99).trans le103)) hs111 _ hr113) ?_
     rintro _ F9 w115 _ hs116 le117 ⟨ar112_0_0, nr112_0_0, ar112_1_2, nr112_1_2, rfl, rfl, hbr112_0_0, hsr112_0_0, hbr112_1_2, hsr112_1_2⟩
     refine Al' 33 #[(vi 0), (vi 0), (.slice none ([] : List Expr).length 0)] hs116 (fun b119 w120 hs121 => ?_)
     refine St0 (Ai r112.2 ar112_1_2 nr112_1_2) hs121 (fun w122 hs123 => ?_)
     refine Nt ?_
     refine Rg [0, 1, 2, 3, 4] ?_
     refine Vs 1 ?_
     refine Ld hs123.at2 ?_
     refine Ld hs123.at0 ?_
     obtain ⟨r124, hr125, h126⟩ := bind_some h114
     refine Cl' DU hs123 (Eh N w122 F9 hs123.pers ((bif r94 then 8 else 9)) (({ Op := s39.1, Value := s39.2.1, Kids := s39.2.2.1 } : Expr)) as39_2 ns39_2 hbs39_2 (Tq hss39_2 (((le62.trans le99).trans le103).trans le117)) r112.2 ar112_1_2 nr112_1_2 hbr112_1_2 hsr112_1_2 _ hr125) ?_
     rintro _ F10 w128 hs129 le130 ⟨ar124_0_2, nr124_0_2, rfl, hbr124_0_2, hsr124_0_2⟩
     refine St2 (Ai r124 ar124_0_2 nr124_0_2) hs129 (fun w132 hs133 => ?_)
     refine Tj ?_
     refine AA ?_
     have hn134 := AW h126 hnx59
     exact ⟨m56, Nat.lt_succ_self _, (r124.Op, r124.Value, r124.Kids, r112.1.L, r112.1.At, r112.1.Open, r112.1.Bad, r112.1.Where), F10, ar124_0_2, nr124_0_2, ar112_0_0, nr112_0_0, hn134, hs133.dr0.pk2.pk1.pk2, (((((le42.trans le62).trans le99).trans le103).trans le117).trans le130), fI, hbr124_0_2, hsr124_0_2, hbr112_0_0, (Tq hsr112_0_0 le130)⟩
   ·refine Ex ?_
    refine AC ?_
    refine AC ?_
    refine AL rfl ?_
    have ho135 := A8 h93 hnx59
    exact .inl ⟨rfl, (s39.1, s39.2.1, s39.2.2.1, s39.2.2.2.1, s39.2.2.2.2.1, s39.2.2.2.2.2.1, s39.2.2.2.2.2.2.1, s39.2.2.2.2.2.2.2), F4, as39_2, ns39_2, as39_3, ns39_3, ho135, hs61, (le42.trans le62), fI, hbs39_2, (Tq hss39_2 le62), hbs39_3, (Tq hss39_3 le62)⟩
 ·rintro f w48 ⟨s47, F3, as47_2, ns47_2, as47_3, ns47_3, rfl, hs49, le50, ⟨_, rfl⟩, hbs47_2, hss47_2, hbs47_3, hss47_3⟩
  have h136 := BT h38
  refine Ad ?_
  refine Sq (Rg [0, 1] ?_)
  refine Ld hs49.at0 ?_
  refine St2 #[(vi s47.1), (vi s47.2.1), (.slice as47_2 s47.2.2.1.length ns47_2)] hs49 (fun w137 hs138 => ?_)
  refine Nt ?_
  refine Rt ?_
  obtain rfl := Ab h136
  exact ⟨rfl, (.agg #[(vi s47.1), (vi s47.2.1), (.slice as47_2 s47.2.2.1.length ns47_2)]), AE (l := [.cell 2 33]) (by kernel_rfl) (vs := [(.agg #[(vi s47.1), (vi s47.2.1), (.slice as47_2 s47.2.2.1.length ns47_2)])]) ⟨b21, 0, rfl, Am (t := 33) (g := true) (s := 3) (by kernel_rfl) hs138.at2 rfl (by decide), trivial⟩, F3, _, _, rfl, hs138.dr0.dr1, (le29.trans le50), ⟨as47_3, ns47_3, as47_2, ns47_2, rfl, rfl, hbs47_3, hss47_3, hbs47_2, hss47_2⟩⟩
def BH (N : Nat) (sR240 : Aa -> Option (Aa × Expr)) (x0 : Aa) (r24 : (Aa × Expr)) : (Int × Int × List Expr × List Af × Int × Int × Int × Int) -> Option (Bv (Aa × Expr) (Int × Int × List Expr × List Af × Int × Int × Int × Int)) := fun s39 =>
 ((bif (s39.2.2.2.2.2.2.1 == 0) then ((AH N ({ L := s39.2.2.2.1, At := s39.2.2.2.2.1, Open := s39.2.2.2.2.2.1, Bad := s39.2.2.2.2.2.2.1, Where := s39.2.2.2.2.2.2.2 } : Aa) ([42] : TN)).bind fun r74 => some r74) else some false).bind fun j63 => (bif j63 then ((sR240 ({ L := s39.2.2.2.1, At := (W64 (s39.2.2.2.2.1 + 1)), Open := s39.2.2.2.2.2.1, Bad := s39.2.2.2.2.2.2.1, Where := s39.2.2.2.2.2.2.2 } : Aa)).bind fun r86 => ((Et N 10 ({ Op := s39.1, Value := s39.2.1, Kids := s39.2.2.1 } : Expr) r86.2).bind fun r98 => some (.next (r98.Op, r98.Value, r98.Kids, r86.1.L, r86.1.At, r86.1.Open, r86.1.Bad, r86.1.Where)))) else some (.done (s39.1, s39.2.1, s39.2.2.1, s39.2.2.2.1, s39.2.2.2.2.1, s39.2.2.2.2.2.1, s39.2.2.2.2.2.2.1, s39.2.2.2.2.2.2.2))))
def CY (N : Nat) (sR240 : Aa -> Option (Aa × Expr)) (x0 : Aa) : Option (Aa × Expr) :=
 ((sR240 x0).bind fun r24 => ((Be (BH N sR240 x0 r24) N (r24.2.Op, r24.2.Value, r24.2.Kids, r24.1.L, r24.1.At, r24.1.Open, r24.1.Bad, r24.1.Where)).bind fun o => o.k (fun r => some r) (fun s47 => some (({ L := s47.2.2.2.1, At := s47.2.2.2.2.1, Open := s47.2.2.2.2.2.1, Bad := s47.2.2.2.2.2.2.1, Where := s47.2.2.2.2.2.2.2 } : Aa), ({ Op := s47.1, Value := s47.2.1, Kids := s47.2.2.1 } : Expr)))))
theorem HY (N : Nat) (sR240 : Aa -> Option (Aa × Expr)) (hsR240 : Nr sR240) {wb w0 : World} {Fb F0 : Mem} {Lf : Own} (bp0 : Nat) (x0 : Aa) (a0_0 : TO) (n0_0 : Nat) (hb0_0 : LC x0.L.length n0_0) (hs0_0 : SlA Ag F0 a0_0 x0.L) (hs0 : HS wb Fb w0 F0 ((sb bp0 (Ae x0 a0_0 n0_0) 108) :: Lf)) (r : (Aa × Expr)) (h : CY N sR240 x0 = some r) :
  Calls Tryz.prog 234 ([(pt bp0 0)] : List Value).toArray w0 (D4 wb Fb F0 fun F' v L' => ∃ (aq0_0 : TO) (nq0_0 : Nat) (aq1_2 : TO) (nq1_2 : Nat), v = (.agg (Ai r.2 aq1_2 nq1_2)) /\ L' = (sb bp0 (Ae r.1 aq0_0 nq0_0) 108) :: Lf /\ LC r.1.L.length nq0_0 /\ SlA Ag F' aq0_0 r.1.L /\ LC r.2.Kids.length nq1_2 /\ SlA As F' aq1_2 r.2.Kids) := by
 refine Go 29 Tryz.func234 ?_
 refine Sq (Rg [0] ?_)
 refine Al' 33 #[(vi 0), (vi 0), (.slice none ([] : List Expr).length 0)] hs0 (fun b21 w22 hs23 => ?_)
 refine Nss (Rg [0, 1, 2, 3] ?_)
 refine Vs 1 ?_
 obtain ⟨r24, hr25, h26⟩ := bind_some h
 refine CB ES (hsR240 bp0 x0 a0_0 n0_0 hb0_0 hs0_0 hs23.pk1 _ hr25) ?_
 rintro _ F1 w27 _ hs28 le29 ⟨ar24_0_0, nr24_0_0, ar24_1_2, nr24_1_2, rfl, rfl, hbr24_0_0, hsr24_0_0, hbr24_1_2, hsr24_1_2⟩
 refine Al' 33 #[(vi 0), (vi 0), (.slice none ([] : List Expr).length 0)] hs28 (fun b31 w32 hs33 => ?_)
 refine St0 (Ai r24.2 ar24_1_2 nr24_1_2) hs33 (fun w34 hs35 => ?_)
 refine Nss ?_
 obtain ⟨o36, ho37, h38⟩ := bind_some h26
 refine Tu (fun f w => ∃ (s47 : (Int × Int × List Expr × List Af × Int × Int × Int × Int)) (F3 : Mem) (as47_2 : TO) (ns47_2 : Nat) (as47_3 : TO) (ns47_3 : Nat), o36 = .done s47 /\ HS wb Fb w F3 ((sb b31 #[(vi s47.1), (vi s47.2.1), (.slice as47_2 s47.2.2.1.length ns47_2)] 33) :: (sb bp0 #[(.slice as47_3 s47.2.2.2.1.length ns47_3), (vi s47.2.2.2.2.1), (vi s47.2.2.2.2.2.1), (vi s47.2.2.2.2.2.2.1), (vi s47.2.2.2.2.2.2.2)] 108) :: (sb b21 #[(vi 0), (vi 0), (.slice none ([] : List Expr).length 0)] 33) :: Lf) /\ Tn F1 F3 /\ FI f [] [(2, (pt b21 0)), (3, (pt b31 0))] /\ LC s47.2.2.1.length ns47_2 /\ SlA As F3 as47_2 s47.2.2.1 /\ LC s47.2.2.2.1.length ns47_3 /\ SlA Ag F3 as47_3 s47.2.2.2.1) ?_ ?_
 ·refine Bk ?_
  refine Tm (by kernel_rfl) (fun m f w => ∃ (s39 : (Int × Int × List Expr × List Af × Int × Int × Int × Int)) (F2 : Mem) (as39_2 : TO) (ns39_2 : Nat) (as39_3 : TO) (ns39_3 : Nat), Be (BH N sR240 x0 r24) m s39 = some o36 /\ HS wb Fb w F2 ((sb b31 #[(vi s39.1), (vi s39.2.1), (.slice as39_2 s39.2.2.1.length ns39_2)] 33) :: (sb bp0 #[(.slice as39_3 s39.2.2.2.1.length ns39_3), (vi s39.2.2.2.2.1), (vi s39.2.2.2.2.2.1), (vi s39.2.2.2.2.2.2.1), (vi s39.2.2.2.2.2.2.2)] 108) :: (sb b21 #[(vi 0), (vi 0), (.slice none ([] : List Expr).length 0)] 33) :: Lf) /\ Tn F1 F2 /\ FI f [] [(0, (pt bp0 0)), (2, (pt b21 0)), (3, (pt b31 0))] /\ LC s39.2.2.1.length ns39_2 /\ SlA As F2 as39_2 s39.2.2.1 /\ LC s39.2.2.2.1.length ns39_3 /\ SlA Ag F2 as39_3 s39.2.2.2.1) N ⟨(r24.2.Op, r24.2.Value, r24.2.Kids, r24.1.L, r24.1.At, r24.1.Open, r24.1.Bad, r24.1.Where), F1, ar24_1_2, nr24_1_2, ar24_0_0, nr24_0_0, ho37, hs35, (To _), fI, hbr24_1_2, hsr24_1_2, hbr24_0_0, hsr24_0_0⟩ ?_
  rintro m54 f w40 ⟨s39, F2, as39_2, ns39_2, as39_3, ns39_3, hit55, hs41, le42, ⟨_, rfl⟩, hbs39_2, hss39_2, hbs39_3, hss39_3⟩
  obtain ⟨m56, fl57, rfl, hb58, hnx59⟩ := A5 hit55
  refine Sq ?_
  refine Sq (Rg [0, 1, 2, 3, 4, 5, 6, 7, 8] ?_)
  obtain ⟨j63, hj69, h70⟩ := bind_some hb58
  refine Tt (fun f w => ∃ (F4 : Mem), HS wb Fb w F4 ((sb b31 #[(vi s39.1), (vi s39.2.1), (.slice as39_2 s39.2.2.1.length ns39_2)] 33) :: (sb bp0 #[(.slice as39_3 s39.2.2.2.1.length ns39_3), (vi s39.2.2.2.2.1), (vi s39.2.2.2.2.2.1), (vi s39.2.2.2.2.2.2.1), (vi s39.2.2.2.2.2.2.2)] 108) :: (sb b21 #[(vi 0), (vi 0), (.slice none ([] : List Expr).length 0)] 33) :: Lf) /\ Tn F2 F4 /\ FI f [] [(0, (pt bp0 0)), (2, (pt b21 0)), (3, (pt b31 0)), (15, (.bool j63))]) ?_ ?_
  ·refine Vs 3 ?_
   refine Ld hs41.at1 ?_
   refine Vs 2 ?_
   refine Sp hj69 (fun hb71 h72 => ?_) (fun hb71 h73 => ?_)
   ·refine Vgs hb71 1 ?_
    obtain ⟨r74, hr75, h76⟩ := bind_some h72
    refine TK (dst := (some 14)) (ty := 4) (g := (some (5, true))) (by kernel_rfl) (FG (d := 12) (by kernel_rfl) rfl hb71) (f0 := (.func 142)) (aos := #[(.tmp 13), (.const (.string ⟨([42] : TN).toArray⟩))]) (ats := #[104, 9]) (fid := 142) (first := #[]) (cap := #[]) (args := [(pt bp0 0), (.string ⟨(([42] : TN)).toArray⟩)]) rfl AJ rfl (AN N bp0 (({ L := s39.2.2.2.1, At := s39.2.2.2.2.1, Open := s39.2.2.2.2.2.1, Bad := s39.2.2.2.2.2.2.1, Where := s39.2.2.2.2.2.2.2 } : Aa)) as39_3 ns39_3 hbs39_3 hss39_3 (([42] : TN)) hs41.pk2.pk1.pk2 _ hr75) ?_
    rintro _ F5 w77 _ hs78 le79 ⟨rfl, rfl⟩
    refine Pk1 hb71 ?_
    obtain rfl := Ab h76
    exact Tj ⟨rfl, F5, hs78.pk2.pk1.pk2, le79, fI⟩
   ·refine Ss hb71 2 ?_
    refine Pk0 hb71 ?_
    obtain rfl := Ab h73
    exact Tj ⟨rfl, F2, hs41, (To _), fI⟩
  ·rintro f w60 ⟨F4, hs61, le62, ⟨_, rfl⟩⟩
   refine Ad ?_
   refine Cd h70 (fun hb81 h82 => ?_) (fun hb81 h83 => ?_)
   ·refine Sc ?_
    refine Ad ?_
    refine Bk ?_
    refine Sq (Rg [0, 1, 2, 3, 4, 5, 6, 7] ?_)
    refine Vs 3 ?_
    refine Ld hs61.at1 ?_
    refine Vs 3 ?_
    refine St1 #[(.slice as39_3 s39.2.2.2.1.length ns39_3), (vi (W64 (s39.2.2.2.2.1 + 1))), (vi s39.2.2.2.2.2.1), (vi s39.2.2.2.2.2.2.1), (vi s39.2.2.2.2.2.2.2)] hs61 (fun w84 hs85 => ?_)
    refine Nss (Rg [0, 1, 2, 3] ?_)
    refine Vs 1 ?_
    obtain ⟨r86, hr87, h88⟩ := bind_some h82
    refine CB ES (hsR240 bp0 (({ L := s39.2.2.2.1, At := (W64 (s39.2.2.2.2.1 + 1)), Open := s39.2.2.2.2.2.1, Bad := s39.2.2.2.2.2.2.1, Where := s39.2.2.2.2.2.2.2 } : Aa)) as39_3 ns39_3 hbs39_3 (Tq hss39_3 le62) hs85.pk2.pk1.pk2 _ hr87) ?_
    rintro _ F6 w89 _ hs90 le91 ⟨ar86_0_0, nr86_0_0, ar86_1_2, nr86_1_2, rfl, rfl, hbr86_0_0, hsr86_0_0, hbr86_1_2, hsr86_1_2⟩
    refine Al' 33 #[(vi 0), (vi 0), (.slice none ([] : List Expr).length 0)] hs90 (fun b93 w94 hs95 => ?_)
    refine St0 (Ai r86.2 ar86_1_2 nr86_1_2) hs95 (fun w96 hs97 => ?_)
    refine Nt ?_
    refine Rg [0, 1, 2, 3] ?_
    refine Ld hs97.at2 ?_
    refine Ld hs97.at0 ?_
    obtain ⟨r98, hr99, h100⟩ := bind_some h88
    refine Cl' DU hs97 (Eh N w96 F6 hs97.pers 10 (({ Op := s39.1, Value := s39.2.1, Kids := s39.2.2.1 } : Expr)) as39_2 ns39_2 hbs39_2 (Tq hss39_2 (le62.trans le91)) r86.2 ar86_1_2 nr86_1_2 hbr86_1_2 hsr86_1_2 _ hr99) ?_
    rintro _ F7 w102 hs103 le104 ⟨ar98_0_2, nr98_0_2, rfl, hbr98_0_2, hsr98_0_2⟩
    refine St2 (Ai r98 ar98_0_2 nr98_0_2) hs103 (fun w106 hs107 => ?_)
    refine Tj ?_
    refine AA ?_
    have hn108 := AW h100 hnx59
    exact ⟨m56, Nat.lt_succ_self _, (r98.Op, r98.Value, r98.Kids, r86.1.L, r86.1.At, r86.1.Open, r86.1.Bad, r86.1.Where), F7, ar98_0_2, nr98_0_2, ar86_0_0, nr86_0_0, hn108, hs107.dr0.pk2.pk1.pk2, (((le42.trans le62).trans le91).trans le104), fI, hbr98_0_2, hsr98_0_2, hbr86_0_0, (Tq hsr86_0_0 le104)⟩
   ·refine Ex ?_
    refine AC ?_
    refine AC ?_
    refine AL rfl ?_
    have ho109 := A8 h83 hnx59
    exact .inl ⟨rfl, (s39.1, s39.2.1, s39.2.2.1, s39.2.2.2.1, s39.2.2.2.2.1, s39.2.2.2.2.2.1, s39.2.2.2.2.2.2.1, s39.2.2.2.2.2.2.2), F4, as39_2, ns39_2, as39_3, ns39_3, ho109, hs61, (le42.trans le62), fI, hbs39_2, (Tq hss39_2 le62), hbs39_3, (Tq hss39_3 le62)⟩
 ·rintro f w48 ⟨s47, F3, as47_2, ns47_2, as47_3, ns47_3, rfl, hs49, le50, ⟨_, rfl⟩, hbs47_2, hss47_2, hbs47_3, hss47_3⟩
  have h110 := BT h38
  refine Ad ?_
  refine Sq (Rg [0, 1] ?_)
  refine Ld hs49.at0 ?_
  refine St2 #[(vi s47.1), (vi s47.2.1), (.slice as47_2 s47.2.2.1.length ns47_2)] hs49 (fun w111 hs112 => ?_)
  refine Nt ?_
  refine Rt ?_
  obtain rfl := Ab h110
  exact ⟨rfl, (.agg #[(vi s47.1), (vi s47.2.1), (.slice as47_2 s47.2.2.1.length ns47_2)]), AE (l := [.cell 2 33]) (by kernel_rfl) (vs := [(.agg #[(vi s47.1), (vi s47.2.1), (.slice as47_2 s47.2.2.1.length ns47_2)])]) ⟨b21, 0, rfl, Am (t := 33) (g := true) (s := 3) (by kernel_rfl) hs112.at2 rfl (by decide), trivial⟩, F3, _, _, rfl, hs112.dr0.dr1, (le29.trans le50), ⟨as47_3, ns47_3, as47_2, ns47_2, rfl, rfl, hbs47_3, hss47_3, hbs47_2, hss47_2⟩⟩
def A2 (N : Nat) (x0 : Aa) (x1 : Int) (x2 : Int) : Option Aa :=
 ((bif (x0.Bad == 0) then some (x1, x2) else some (x0.Bad, x0.Where)).bind fun j24 => some ({ L := x0.L, At := x0.At, Open := x0.Open, Bad := j24.1, Where := j24.2 } : Aa))
theorem A6 : Au Tryz.prog 90 := fun _ _ => by kernel_rfl
theorem Bc (N : Nat) {wb w0 : World} {Fb F0 : Mem} {Lf : Own} (bp0 : Nat) (x0 : Aa) (a0_0 : TO) (n0_0 : Nat) (hb0_0 : LC x0.L.length n0_0) (hs0_0 : SlA Ag F0 a0_0 x0.L) (x1 : Int) (x2 : Int) (hs0 : HS wb Fb w0 F0 ((sb bp0 (Ae x0 a0_0 n0_0) 108) :: Lf)) (r : Aa) (h : A2 N x0 x1 x2 = some r) :
  Calls Tryz.prog 90 ([(pt bp0 0), (vi x1), (vi x2)] : List Value).toArray w0 (D4 wb Fb F0 fun F' v L' => ∃ (aq0_0 : TO) (nq0_0 : Nat), v = (.tuple #[]) /\ L' = (sb bp0 (Ae r aq0_0 nq0_0) 108) :: Lf /\ LC r.L.length nq0_0 /\ SlA Ag F' aq0_0 r.L) := by
 refine Go 19 Tryz.func90 ?_
 refine Sq (Rg [0, 1, 2, 3, 4] ?_)
 refine Vs 3 ?_
 refine Ld hs0.at0 ?_
 refine Vs 1 ?_
 refine Nt ?_
 obtain ⟨j24, hj26, h27⟩ := bind_some h
 refine Tu (fun f w => ∃ (F1 : Mem), HS wb Fb w F1 ((sb bp0 #[(.slice a0_0 x0.L.length n0_0), (vi x0.At), (vi x0.Open), (vi j24.1), (vi j24.2)] 108) :: Lf) /\ Tn F0 F1 /\ FI f [] []) ?_ ?_
 ·refine Cd hj26 (fun hb28 h29 => ?_) (fun hb28 h30 => ?_)
  ·refine Sq (Rg [0, 1, 2, 3, 4] ?_)
   refine Vs 4 ?_
   refine St0 #[(.slice a0_0 x0.L.length n0_0), (vi x0.At), (vi x0.Open), (vi x1), (vi x0.Where)] hs0 (fun w31 hs32 => ?_)
   refine Nt ?_
   refine Rg [0, 1, 2, 3, 4] ?_
   refine Vs 4 ?_
   refine St0 #[(.slice a0_0 x0.L.length n0_0), (vi x0.At), (vi x0.Open), (vi x1), (vi x2)] hs32 (fun w33 hs34 => ?_)
   refine Tj ?_
   obtain rfl := Ab h29
   exact .inl ⟨rfl, F0, hs34, (To _), fI⟩
  ·refine Sc ?_
   obtain rfl := Ab h30
   exact .inl ⟨rfl, F0, hs0, (To _), fI⟩
 ·rintro f w21 ⟨F1, hs22, le23, ⟨_, rfl⟩⟩
  obtain rfl := Ab h27
  exact ReB [] hs22 le23 ⟨a0_0, n0_0, rfl, rfl, hb0_0, (Tq hs0_0 le23)⟩
def AD (N : Nat) (x0 : Aa) (x1 : TN) : Option Aa :=
 (bif (x0.Bad != 0) then some x0 else ((AH N x0 x1).bind fun r24 => (bif (!r24) then (((idx x0.L x0.At).bind fun x43 => ((A2 N x0 60 x43.At).bind fun r57 => some (r57.L, r57.At, r57.Open, r57.Bad, r57.Where))).bind fun j39 => some ({ L := j39.1, At := j39.2.1, Open := j39.2.2.1, Bad := j39.2.2.2.1, Where := j39.2.2.2.2 } : Aa)) else some ({ L := x0.L, At := (W64 (x0.At + 1)), Open := x0.Open, Bad := x0.Bad, Where := x0.Where } : Aa))))
theorem BK : Au Tryz.prog 143 := fun _ _ => by kernel_rfl
theorem BO (N : Nat) {wb w0 : World} {Fb F0 : Mem} {Lf : Own} (bp0 : Nat) (x0 : Aa) (a0_0 : TO) (n0_0 : Nat) (hb0_0 : LC x0.L.length n0_0) (hs0_0 : SlA Ag F0 a0_0 x0.L) (x1 : TN) (hs0 : HS wb Fb w0 F0 ((sb bp0 (Ae x0 a0_0 n0_0) 108) :: Lf)) (r : Aa) (h : AD N x0 x1 = some r) :
  Calls Tryz.prog 143 ([(pt bp0 0), (.string ⟨(x1).toArray⟩)] : List Value).toArray w0 (D4 wb Fb F0 fun F' v L' => ∃ (aq0_0 : TO) (nq0_0 : Nat), v = (.tuple #[]) /\ L' = (sb bp0 (Ae r aq0_0 nq0_0) 108) :: Lf /\ LC r.L.length nq0_0 /\ SlA Ag F' aq0_0 r.L) := by
 refine Go 33 Tryz.func143 ?_
 refine Sq ?_
 refine Sq (Rg [0, 1, 2, 3, 4] ?_)
 refine Vs 3 ?_
 refine Ld hs0.at0 ?_
 refine Vs 1 ?_
 refine Nt ?_
 refine Cd h (fun hb21 h22 => ?_) (fun hb21 h23 => ?_)
 ·refine Rt ?_
  refine Aj ?_
  obtain rfl := Ab h22
  exact ReB [] hs0 (To _) ⟨a0_0, n0_0, rfl, rfl, hb0_0, hs0_0⟩
 ·refine Sc ?_
  refine Ad ?_
  refine Sq ?_
  refine Sq (Rg [0, 1, 2, 3] ?_)
  refine Vs 2 ?_
  obtain ⟨r24, hr25, h26⟩ := bind_some h23
  refine CB AJ (AN N bp0 x0 a0_0 n0_0 hb0_0 hs0_0 x1 hs0 _ hr25) ?_
  rintro _ F1 w27 _ hs28 le29 ⟨rfl, rfl⟩
  refine Vs 1 ?_
  refine Nt ?_
  refine Cd h26 (fun hb31 h32 => ?_) (fun hb31 h33 => ?_)
  ·refine Sq ?_
   obtain ⟨j39, hj41, h42⟩ := bind_some h32
   refine RD 13 13 [] [] hs28 (fun f w => ∃ (F2 : Mem) (aj39_0 : TO) (nj39_0 : Nat), HS wb Fb w F2 ((sb bp0 #[(.slice aj39_0 j39.1.length nj39_0), (vi j39.2.1), (vi j39.2.2.1), (vi j39.2.2.2.1), (vi j39.2.2.2.2)] 108) :: Lf) /\ Tn F1 F2 /\ FI f [] [] /\ LC j39.1.length nj39_0 /\ SlA Ag F2 aj39_0 j39.1) (fun wd34 hw35 => ?_) ?_
   ·refine Dv [0, 1, 2, 3, 5, 6, 7] ?_
    refine TB (i := 4) (j := 8) (by kernel_rfl) ?_ ?_
    ·refine TC (l' := [true, true, true, true, true, true, true, true, false, false, false, false, false]) (zd := true) (by kernel_rfl) (by kernel_rfl) (dst := (some 17)) (ty := 105) (g := none) (by kernel_rfl) rfl (Bh (t := 105) (x := (.tmp 16)) (b := bp0) (o := 0) (g := false) (s := 1) (C := (Ae x0 a0_0 n0_0)) (v := (.slice a0_0 x0.L.length n0_0)) rfl (by kernel_rfl) hw35.at0 rfl rfl rfl) (Bg hw35 (To _) (by simp) (fun e => by cases e)) ?_
     refine D1 8 ?_
     refine TC (l' := [true, true, true, true, true, true, true, true, true, false, false, false, false]) (zd := true) (by kernel_rfl) (by kernel_rfl) (dst := (some 21)) (ty := 3) (g := none) (by kernel_rfl) rfl (Bh (t := 3) (x := (.tmp 20)) (b := bp0) (o := 1) (g := false) (s := 1) (C := (Ae x0 a0_0 n0_0)) (v := (vi x0.At)) rfl (by kernel_rfl) hw35.at0 rfl rfl rfl) (Bg hw35 (To _) (by simp) (fun e => by cases e)) ?_
     obtain ⟨x43, hx44, h46⟩ := bind_some hj41
     obtain ⟨hi45, hx44'⟩ := Az hx44
     obtain ⟨b47, o48, C49, E50, fz51, rfl, hF53, hE54⟩ := Tx (Tq hs0_0 le29) hx44'
     have hc56 := hE54 _ _ hx44'
     refine Di 9 hi45 ?_
     refine Dv [10] ?_
     refine Dx 11 1 (fun _ hq => hq.1.1 _ _ hF53) hc56 ?_
     refine D1 12 ?_
     obtain ⟨r57, hr58, h59⟩ := bind_some h46
     refine DCB A6 (Bc N bp0 x0 (some ⟨b47, o48, none⟩) n0_0 hb0_0 (Tq hs0_0 le29) 60 x43.At hw35 _ hr58) ?_
     rintro _ F3 w60 _ hs61 le62 ⟨ar57_0_0, nr57_0_0, rfl, rfl, hbr57_0_0, hsr57_0_0⟩
     refine ⟨Bg hs61 le62 (by simp) (zdT (by kernel_rfl)), ?_⟩
     obtain rfl := Ab h59
     exact TE (by kernel_rfl) ⟨F3, ar57_0_0, nr57_0_0, hs61, le62, fI, hbr57_0_0, hsr57_0_0⟩
    ·refine TC (l' := [true, true, true, true, false, true, true, true, true, false, false, false, false]) (zd := true) (by kernel_rfl) (by kernel_rfl) (dst := (some 21)) (ty := 3) (g := none) (by kernel_rfl) rfl (Bh (t := 3) (x := (.tmp 20)) (b := bp0) (o := 1) (g := false) (s := 1) (C := (Ae x0 a0_0 n0_0)) (v := (vi x0.At)) rfl (by kernel_rfl) hw35.at0 rfl rfl rfl) (Bg hw35 (To _) (by simp) (fun e => by cases e)) ?_
     refine D1 4 ?_
     refine TC (l' := [true, true, true, true, true, true, true, true, true, false, false, false, false]) (zd := true) (by kernel_rfl) (by kernel_rfl) (dst := (some 17)) (ty := 105) (g := none) (by kernel_rfl) rfl (Bh (t := 105) (x := (.tmp 16)) (b := bp0) (o := 0) (g := false) (s := 1) (C := (Ae x0 a0_0 n0_0)) (v := (.slice a0_0 x0.L.length n0_0)) rfl (by kernel_rfl) hw35.at0 rfl rfl rfl) (Bg hw35 (To _) (by simp) (fun e => by cases e)) ?_
     obtain ⟨x64, hx65, h67⟩ := bind_some hj41
     obtain ⟨hi66, hx65'⟩ := Az hx65
     obtain ⟨b68, o69, C70, E71, fz72, rfl, hF74, hE75⟩ := Tx (Tq hs0_0 le29) hx65'
     have hc77 := hE75 _ _ hx65'
     refine Di 9 hi66 ?_
     refine Dv [10] ?_
     refine Dx 11 1 (fun _ hq => hq.1.1 _ _ hF74) hc77 ?_
     refine D1 12 ?_
     obtain ⟨r78, hr79, h80⟩ := bind_some h67
     refine DCB A6 (Bc N bp0 x0 (some ⟨b68, o69, none⟩) n0_0 hb0_0 (Tq hs0_0 le29) 60 x64.At hw35 _ hr79) ?_
     rintro _ F4 w81 _ hs82 le83 ⟨ar78_0_0, nr78_0_0, rfl, rfl, hbr78_0_0, hsr78_0_0⟩
     refine ⟨Bg hs82 le83 (by simp) (zdT (by kernel_rfl)), ?_⟩
     obtain rfl := Ab h80
     exact TE (by kernel_rfl) ⟨F4, ar78_0_0, nr78_0_0, hs82, le83, fI, hbr78_0_0, hsr78_0_0⟩
   ·rintro f w36 ⟨F2, aj39_0, nj39_0, hs37, le38, ⟨_, rfl⟩, hbj39_0, hsj39_0⟩
    refine Ad ?_
    refine Rt ?_
    refine Aj ?_
    obtain rfl := Ab h42
    exact ReB [] hs37 (le29.trans le38) ⟨aj39_0, nj39_0, rfl, rfl, hbj39_0, hsj39_0⟩
  ·refine Sc ?_
   refine Ad ?_
   refine Rg [0, 1, 2, 3, 4, 5, 6, 7] ?_
   refine Vs 3 ?_
   refine Ld hs28.at0 ?_
   refine Vs 3 ?_
   refine St0 #[(.slice a0_0 x0.L.length n0_0), (vi (W64 (x0.At + 1))), (vi x0.Open), (vi x0.Bad), (vi x0.Where)] hs28 (fun w85 hs86 => ?_)
   refine Tj ?_
   obtain rfl := Ab h33
   exact ReB [] hs86 le29 ⟨a0_0, n0_0, rfl, rfl, hb0_0, (Tq hs0_0 le29)⟩
def GQ (N : Nat)  : Option (List TN) :=
 some [([98, 97, 110, 100] : TN), ([109, 111, 100, 101] : TN), ([104, 111, 117, 114] : TN), ([109, 121, 99, 111, 117, 110, 116, 114, 121] : TN), ([109, 121, 122, 111, 110, 101] : TN), ([109, 121, 99, 111, 110, 116, 105, 110, 101, 110, 116] : TN), ([99, 111, 117, 110, 116, 114, 121] : TN), ([122, 111, 110, 101] : TN), ([99, 111, 110, 116, 105, 110, 101, 110, 116] : TN), ([99, 97, 108, 108] : TN), ([103, 111, 116, 122, 111, 110, 101] : TN), ([99, 97, 116, 101, 103, 111, 114, 121] : TN), ([112, 111, 119, 101, 114] : TN), ([115, 116, 97, 116, 117, 115] : TN)]
theorem K9 : Au Tryz.prog 165 := fun _ _ => by kernel_rfl
theorem Mf (N : Nat) (w0 : World) (F0 : Mem) (hF : TP w0 F0)  (r : (List TN)) (h : GQ N  = some r) :
  Calls Tryz.prog 165 ([] : List Value).toArray w0 (Bd w0 F0 fun F' v => ∃ (aq0_0 : TO) (nq0_0 : Nat), v = (.slice aq0_0 r.length nq0_0) /\ LC r.length nq0_0 /\ SlA Fe F' aq0_0 r) := by
 have hs0 := Tp hF
 refine Go 2 Tryz.func165 ?_
 refine Sq (Rg [0] ?_)
 refine Vs 1 ?_
 refine Nss (Rg [0, 1] ?_)
 refine Bs 9 [(.string ⟨(([98, 97, 110, 100] : TN)).toArray⟩), (.string ⟨(([109, 111, 100, 101] : TN)).toArray⟩), (.string ⟨(([104, 111, 117, 114] : TN)).toArray⟩), (.string ⟨(([109, 121, 99, 111, 117, 110, 116, 114, 121] : TN)).toArray⟩), (.string ⟨(([109, 121, 122, 111, 110, 101] : TN)).toArray⟩), (.string ⟨(([109, 121, 99, 111, 110, 116, 105, 110, 101, 110, 116] : TN)).toArray⟩), (.string ⟨(([99, 111, 117, 110, 116, 114, 121] : TN)).toArray⟩), (.string ⟨(([122, 111, 110, 101] : TN)).toArray⟩), (.string ⟨(([99, 111, 110, 116, 105, 110, 101, 110, 116] : TN)).toArray⟩), (.string ⟨(([99, 97, 108, 108] : TN)).toArray⟩), (.string ⟨(([103, 111, 116, 122, 111, 110, 101] : TN)).toArray⟩), (.string ⟨(([99, 97, 116, 101, 103, 111, 114, 121] : TN)).toArray⟩), (.string ⟨(([112, 111, 119, 101, 114] : TN)).toArray⟩), (.string ⟨(([115, 116, 97, 116, 117, 115] : TN)).toArray⟩)] hs0 (fun b21 w22 hs23 => ?_)
 have hr25 : Av Fe 9 F0 (some ⟨b21, 0, none⟩) 14 [([98, 97, 110, 100] : TN), ([109, 111, 100, 101] : TN), ([104, 111, 117, 114] : TN), ([109, 121, 99, 111, 117, 110, 116, 114, 121] : TN), ([109, 121, 122, 111, 110, 101] : TN), ([109, 121, 99, 111, 110, 116, 105, 110, 101, 110, 116] : TN), ([99, 111, 117, 110, 116, 114, 121] : TN), ([122, 111, 110, 101] : TN), ([99, 111, 110, 116, 105, 110, 101, 110, 116] : TN), ([99, 97, 108, 108] : TN), ([103, 111, 116, 122, 111, 110, 101] : TN), ([99, 97, 116, 101, 103, 111, 114, 121] : TN), ([112, 111, 119, 101, 114] : TN), ([115, 116, 97, 116, 117, 115] : TN)] (some b21, .cells ([(.string ⟨(([98, 97, 110, 100] : TN)).toArray⟩), (.string ⟨(([109, 111, 100, 101] : TN)).toArray⟩), (.string ⟨(([104, 111, 117, 114] : TN)).toArray⟩), (.string ⟨(([109, 121, 99, 111, 117, 110, 116, 114, 121] : TN)).toArray⟩), (.string ⟨(([109, 121, 122, 111, 110, 101] : TN)).toArray⟩), (.string ⟨(([109, 121, 99, 111, 110, 116, 105, 110, 101, 110, 116] : TN)).toArray⟩), (.string ⟨(([99, 111, 117, 110, 116, 114, 121] : TN)).toArray⟩), (.string ⟨(([122, 111, 110, 101] : TN)).toArray⟩), (.string ⟨(([99, 111, 110, 116, 105, 110, 101, 110, 116] : TN)).toArray⟩), (.string ⟨(([99, 97, 108, 108] : TN)).toArray⟩), (.string ⟨(([103, 111, 116, 122, 111, 110, 101] : TN)).toArray⟩), (.string ⟨(([99, 97, 116, 101, 103, 111, 114, 121] : TN)).toArray⟩), (.string ⟨(([112, 111, 119, 101, 114] : TN)).toArray⟩), (.string ⟨(([115, 116, 97, 116, 117, 115] : TN)).toArray⟩)] : List Value).toArray 9 (0, 0)) := TH ⟨rfl, ⟨rfl, ⟨rfl, ⟨rfl, ⟨rfl, ⟨rfl, ⟨rfl, ⟨rfl, ⟨rfl, ⟨rfl, ⟨rfl, ⟨rfl, ⟨rfl, ⟨rfl, rfl⟩⟩⟩⟩⟩⟩⟩⟩⟩⟩⟩⟩⟩⟩ (by simp)
 refine Vs 1 ?_
 refine Nt ?_
 refine Rt ?_
 have hb29 := TF hr25
 obtain ⟨F1, hs26, le27, hs28⟩ := hs23.fr0 hr25
 obtain rfl := Ab h
 exact Re [(.slice (some ⟨b21, 0, none⟩) [([98, 97, 110, 100] : TN), ([109, 111, 100, 101] : TN), ([104, 111, 117, 114] : TN), ([109, 121, 99, 111, 117, 110, 116, 114, 121] : TN), ([109, 121, 122, 111, 110, 101] : TN), ([109, 121, 99, 111, 110, 116, 105, 110, 101, 110, 116] : TN), ([99, 111, 117, 110, 116, 114, 121] : TN), ([122, 111, 110, 101] : TN), ([99, 111, 110, 116, 105, 110, 101, 110, 116] : TN), ([99, 97, 108, 108] : TN), ([103, 111, 116, 122, 111, 110, 101] : TN), ([99, 97, 116, 101, 103, 111, 114, 121] : TN), ([112, 111, 119, 101, 114] : TN), ([115, 116, 97, 116, 117, 115] : TN)].length 14)] hs26 ⟨(some ⟨b21, 0, none⟩), 14, rfl, hb29, hs28⟩
def Jt (N : Nat) (x0 : Int) : Option Expr :=
 some ({ Op := 1, Value := x0, Kids := ([] : List Expr) } : Expr)
theorem K8 : Au Tryz.prog 216 := fun _ _ => by kernel_rfl
theorem Me (N : Nat) (w0 : World) (F0 : Mem) (hF : TP w0 F0) (x0 : Int) (r : Expr) (h : Jt N x0 = some r) :
  Calls Tryz.prog 216 ([(vi x0)] : List Value).toArray w0 (Bd w0 F0 fun F' v => ∃ (aq0_2 : TO) (nq0_2 : Nat), v = (.agg (Ai r aq0_2 nq0_2)) /\ LC r.Kids.length nq0_2 /\ SlA As F' aq0_2 r.Kids) := by
 have hs0 := Tp hF
 refine Go 5 Tryz.func216 ?_
 refine Sq (Rg [0] ?_)
 refine Al' 33 #[(vi 0), (vi 0), (.slice none ([] : List Expr).length 0)] hs0 (fun b21 w22 hs23 => ?_)
 refine Nss (Rg [0, 1, 2] ?_)
 refine Vs 2 ?_
 refine St0 #[(vi 1), (vi x0), (.slice none ([] : List Expr).length 0)] hs23 (fun w24 hs25 => ?_)
 refine Nt ?_
 refine Rt ?_
 obtain rfl := Ab h
 exact ⟨rfl, (.agg #[(vi 1), (vi x0), (.slice none ([] : List Expr).length 0)]), AE (l := [.cell 2 33]) (by kernel_rfl) (vs := [(.agg #[(vi 1), (vi x0), (.slice none ([] : List Expr).length 0)])]) ⟨b21, 0, rfl, Am (t := 33) (g := true) (s := 3) (by kernel_rfl) hs25.at0 rfl (by decide), trivial⟩, (.agg #[(vi 1), (vi x0), (.slice none ([] : List Expr).length 0)]), F0, rfl, hs25.clear, ⟨none, 0, rfl, Tr, (.inl rfl)⟩⟩
def BF (N : Nat) (x0 : Aa) : Option Aa :=
 ((bif (x0.Bad == 0) then ((AH N x0 ([40] : TN)).bind fun r33 => (bif r33 then some (x0.Open == 32) else some false)) else some false).bind fun j24 => ((bif j24 then (((idx x0.L x0.At).bind fun x64 => ((A2 N x0 2 x64.At).bind fun r78 => some (r78.L, r78.At, r78.Open, r78.Bad, r78.Where))).bind fun j59 => some (j59.1, j59.2.1, j59.2.2.1, j59.2.2.2.1, j59.2.2.2.2)) else some (x0.L, x0.At, x0.Open, x0.Bad, x0.Where)).bind fun j46 => ((AD N ({ L := j46.1, At := j46.2.1, Open := j46.2.2.1, Bad := j46.2.2.2.1, Where := j46.2.2.2.2 } : Aa) ([40] : TN)).bind fun r106 => some ({ L := r106.L, At := r106.At, Open := (W64 (r106.Open + 1)), Bad := r106.Bad, Where := r106.Where } : Aa))))
theorem ER : Au Tryz.prog 245 := fun _ _ => by kernel_rfl
theorem Fc (N : Nat) {wb w0 : World} {Fb F0 : Mem} {Lf : Own} (bp0 : Nat) (x0 : Aa) (a0_0 : TO) (n0_0 : Nat) (hb0_0 : LC x0.L.length n0_0) (hs0_0 : SlA Ag F0 a0_0 x0.L) (hs0 : HS wb Fb w0 F0 ((sb bp0 (Ae x0 a0_0 n0_0) 108) :: Lf)) (r : Aa) (h : BF N x0 = some r) :
  Calls Tryz.prog 245 ([(pt bp0 0)] : List Value).toArray w0 (D4 wb Fb F0 fun F' v L' => ∃ (aq0_0 : TO) (nq0_0 : Nat), v = (.tuple #[]) /\ L' = (sb bp0 (Ae r aq0_0 nq0_0) 108) :: Lf /\ LC r.L.length nq0_0 /\ SlA Ag F' aq0_0 r.L) := by
 refine Go 40 Tryz.func245 ?_
 refine Sq ?_
 refine Sq (Rg [0, 1, 2, 3, 4, 5, 6, 7, 8, 9, 10, 11, 12, 13, 14, 15] ?_)
 obtain ⟨j24, hj28, h29⟩ := bind_some h
 refine Tt (fun f w => ∃ (F1 : Mem), HS wb Fb w F1 ((sb bp0 (Ae x0 a0_0 n0_0) 108) :: Lf) /\ Tn F0 F1 /\ FI f [] [(0, (pt bp0 0)), (17, (.bool j24))]) ?_ ?_
 ·refine Vs 3 ?_
  refine Ld hs0.at0 ?_
  refine Vs 2 ?_
  refine Sp hj28 (fun hb30 h31 => ?_) (fun hb30 h32 => ?_)
  ·refine Vgs hb30 1 ?_
   obtain ⟨r33, hr34, h35⟩ := bind_some h31
   refine TK (dst := (some 9)) (ty := 4) (g := (some (5, true))) (by kernel_rfl) (FG (d := 7) (by kernel_rfl) rfl hb30) (f0 := (.func 142)) (aos := #[(.tmp 8), (.const (.string ⟨([40] : TN).toArray⟩))]) (ats := #[104, 9]) (fid := 142) (first := #[]) (cap := #[]) (args := [(pt bp0 0), (.string ⟨(([40] : TN)).toArray⟩)]) rfl AJ rfl (AN N bp0 x0 a0_0 n0_0 hb0_0 hs0_0 (([40] : TN)) hs0 _ hr34) ?_
   rintro _ F2 w36 _ hs37 le38 ⟨rfl, rfl⟩
   refine Pk1 hb30 ?_
   refine Vs 1 ?_
   refine Sp h35 (fun hb40 h41 => ?_) (fun hb40 h42 => ?_)
   ·refine Vgs hb40 3 ?_
    refine Lg hb40 hs37.at0 ?_
    refine Vgs hb40 1 ?_
    refine Pk1 hb40 ?_
    obtain rfl := Ab h41
    exact Tj ⟨rfl, F2, hs37, le38, fI⟩
   ·refine Ss hb40 5 ?_
    refine Pk0 hb40 ?_
    obtain rfl := Ab h42
    exact Tj ⟨rfl, F2, hs37, le38, fI⟩
  ·refine Ss hb30 2 ?_
   refine Pk0 hb30 ?_
   refine Vs 1 ?_
   refine Ss (rfl : false = false) 5 ?_
   refine Pk0 (rfl : false = false) ?_
   obtain rfl := Ab h32
   exact Tj ⟨rfl, F0, hs0, (To _), fI⟩
 ·rintro f w21 ⟨F1, hs22, le23, ⟨_, rfl⟩⟩
  refine Ad ?_
  obtain ⟨j46, hj49, h50⟩ := bind_some h29
  refine Tu (fun f w => ∃ (F3 : Mem) (aj46_0 : TO) (nj46_0 : Nat), HS wb Fb w F3 ((sb bp0 #[(.slice aj46_0 j46.1.length nj46_0), (vi j46.2.1), (vi j46.2.2.1), (vi j46.2.2.2.1), (vi j46.2.2.2.2)] 108) :: Lf) /\ Tn F1 F3 /\ FI f [] [(0, (pt bp0 0))] /\ LC j46.1.length nj46_0 /\ SlA Ag F3 aj46_0 j46.1) ?_ ?_
  ·refine Cd hj49 (fun hb51 h52 => ?_) (fun hb51 h53 => ?_)
   ·obtain ⟨j59, hj62, h63⟩ := bind_some h52
    refine RD 13 13 [] [] hs22 (fun f w => ∃ (F4 : Mem) (aj59_0 : TO) (nj59_0 : Nat), HS wb Fb w F4 ((sb bp0 #[(.slice aj59_0 j59.1.length nj59_0), (vi j59.2.1), (vi j59.2.2.1), (vi j59.2.2.2.1), (vi j59.2.2.2.2)] 108) :: Lf) /\ Tn F1 F4 /\ FI f [] [(0, (pt bp0 0))] /\ LC j59.1.length nj59_0 /\ SlA Ag F4 aj59_0 j59.1) (fun wd54 hw55 => ?_) ?_
    ·refine Dv [0, 1, 2, 3, 5, 6, 7] ?_
     refine TB (i := 4) (j := 8) (by kernel_rfl) ?_ ?_
     ·refine TC (l' := [true, true, true, true, true, true, true, true, false, false, false, false, false]) (zd := true) (by kernel_rfl) (by kernel_rfl) (dst := (some 22)) (ty := 105) (g := none) (by kernel_rfl) rfl (Bh (t := 105) (x := (.tmp 21)) (b := bp0) (o := 0) (g := false) (s := 1) (C := (Ae x0 a0_0 n0_0)) (v := (.slice a0_0 x0.L.length n0_0)) rfl (by kernel_rfl) hw55.at0 rfl rfl rfl) (Bg hw55 (To _) (by simp) (fun e => by cases e)) ?_
      refine D1 8 ?_
      refine TC (l' := [true, true, true, true, true, true, true, true, true, false, false, false, false]) (zd := true) (by kernel_rfl) (by kernel_rfl) (dst := (some 26)) (ty := 3) (g := none) (by kernel_rfl) rfl (Bh (t := 3) (x := (.tmp 25)) (b := bp0) (o := 1) (g := false) (s := 1) (C := (Ae x0 a0_0 n0_0)) (v := (vi x0.At)) rfl (by kernel_rfl) hw55.at0 rfl rfl rfl) (Bg hw55 (To _) (by simp) (fun e => by cases e)) ?_
      obtain ⟨x64, hx65, h67⟩ := bind_some hj62
      obtain ⟨hi66, hx65'⟩ := Az hx65
      obtain ⟨b68, o69, C70, E71, fz72, rfl, hF74, hE75⟩ := Tx (Tq hs0_0 le23) hx65'
      have hc77 := hE75 _ _ hx65'
      refine Di 9 hi66 ?_
      refine Dv [10] ?_
      refine Dx 11 1 (fun _ hq => hq.1.1 _ _ hF74) hc77 ?_
      refine D1 12 ?_
      obtain ⟨r78, hr79, h80⟩ := bind_some h67
      refine DCB A6 (Bc N bp0 x0 (some ⟨b68, o69, none⟩) n0_0 hb0_0 (Tq hs0_0 le23) 2 x64.At hw55 _ hr79) ?_
      rintro _ F5 w81 _ hs82 le83 ⟨ar78_0_0, nr78_0_0, rfl, rfl, hbr78_0_0, hsr78_0_0⟩
      refine ⟨Bg hs82 le83 (by simp) (zdT (by kernel_rfl)), ?_⟩
      obtain rfl := Ab h80
      exact TE (by kernel_rfl) ⟨F5, ar78_0_0, nr78_0_0, hs82, le83, fI, hbr78_0_0, hsr78_0_0⟩
     ·refine TC (l' := [true, true, true, true, false, true, true, true, true, false, false, false, false]) (zd := true) (by kernel_rfl) (by kernel_rfl) (dst := (some 26)) (ty := 3) (g := none) (by kernel_rfl) rfl (Bh (t := 3) (x := (.tmp 25)) (b := bp0) (o := 1) (g := false) (s := 1) (C := (Ae x0 a0_0 n0_0)) (v := (vi x0.At)) rfl (by kernel_rfl) hw55.at0 rfl rfl rfl) (Bg hw55 (To _) (by simp) (fun e => by cases e)) ?_
      refine D1 4 ?_
      refine TC (l' := [true, true, true, true, true, true, true, true, true, false, false, false, false]) (zd := true) (by kernel_rfl) (by kernel_rfl) (dst := (some 22)) (ty := 105) (g := none) (by kernel_rfl) rfl (Bh (t := 105) (x := (.tmp 21)) (b := bp0) (o := 0) (g := false) (s := 1) (C := (Ae x0 a0_0 n0_0)) (v := (.slice a0_0 x0.L.length n0_0)) rfl (by kernel_rfl) hw55.at0 rfl rfl rfl) (Bg hw55 (To _) (by simp) (fun e => by cases e)) ?_
      obtain ⟨x85, hx86, h88⟩ := bind_some hj62
      obtain ⟨hi87, hx86'⟩ := Az hx86
      obtain ⟨b89, o90, C91, E92, fz93, rfl, hF95, hE96⟩ := Tx (Tq hs0_0 le23) hx86'
      have hc98 := hE96 _ _ hx86'
      refine Di 9 hi87 ?_
      refine Dv [10] ?_
      refine Dx 11 1 (fun _ hq => hq.1.1 _ _ hF95) hc98 ?_
      refine D1 12 ?_
      obtain ⟨r99, hr100, h101⟩ := bind_some h88
      refine DCB A6 (Bc N bp0 x0 (some ⟨b89, o90, none⟩) n0_0 hb0_0 (Tq hs0_0 le23) 2 x85.At hw55 _ hr100) ?_
      rintro _ F6 w102 _ hs103 le104 ⟨ar99_0_0, nr99_0_0, rfl, rfl, hbr99_0_0, hsr99_0_0⟩
      refine ⟨Bg hs103 le104 (by simp) (zdT (by kernel_rfl)), ?_⟩
      obtain rfl := Ab h101
      exact TE (by kernel_rfl) ⟨F6, ar99_0_0, nr99_0_0, hs103, le104, fI, hbr99_0_0, hsr99_0_0⟩
    ·rintro f w56 ⟨F4, aj59_0, nj59_0, hs57, le58, ⟨_, rfl⟩, hbj59_0, hsj59_0⟩
     obtain rfl := Ab h63
     exact .inl ⟨rfl, F4, aj59_0, nj59_0, hs57, le58, fI, hbj59_0, hsj59_0⟩
   ·refine Sc ?_
    obtain rfl := Ab h53
    exact .inl ⟨rfl, F1, a0_0, n0_0, hs22, (To _), fI, hb0_0, (Tq hs0_0 le23)⟩
  ·rintro f w43 ⟨F3, aj46_0, nj46_0, hs44, le45, ⟨_, rfl⟩, hbj46_0, hsj46_0⟩
   refine Ad ?_
   refine Sq (Rg [0, 1] ?_)
   refine Vs 1 ?_
   obtain ⟨r106, hr107, h108⟩ := bind_some h50
   refine CB BK (BO N bp0 (({ L := j46.1, At := j46.2.1, Open := j46.2.2.1, Bad := j46.2.2.2.1, Where := j46.2.2.2.2 } : Aa)) aj46_0 nj46_0 hbj46_0 hsj46_0 (([40] : TN)) hs44 _ hr107) ?_
   rintro _ F7 w109 _ hs110 le111 ⟨ar106_0_0, nr106_0_0, rfl, rfl, hbr106_0_0, hsr106_0_0⟩
   refine Nt ?_
   refine Rg [0, 1, 2, 3, 4, 5, 6, 7] ?_
   refine Vs 3 ?_
   refine Ld hs110.at0 ?_
   refine Vs 3 ?_
   refine St0 #[(.slice ar106_0_0 r106.L.length nr106_0_0), (vi r106.At), (vi (W64 (r106.Open + 1))), (vi r106.Bad), (vi r106.Where)] hs110 (fun w113 hs114 => ?_)
   refine Tj ?_
   obtain rfl := Ab h108
   exact ReB [] hs114 ((le23.trans le45).trans le111) ⟨ar106_0_0, nr106_0_0, rfl, rfl, hbr106_0_0, hsr106_0_0⟩
def BE (N : Nat) (x0 : Aa) : Option Aa :=
 ((AD N x0 ([41] : TN)).bind fun r21 => some ({ L := r21.L, At := r21.At, Open := (W64 (r21.Open - 1)), Bad := r21.Bad, Where := r21.Where } : Aa))
theorem EQ : Au Tryz.prog 246 := fun _ _ => by kernel_rfl
theorem Fa (N : Nat) {wb w0 : World} {Fb F0 : Mem} {Lf : Own} (bp0 : Nat) (x0 : Aa) (a0_0 : TO) (n0_0 : Nat) (hb0_0 : LC x0.L.length n0_0) (hs0_0 : SlA Ag F0 a0_0 x0.L) (hs0 : HS wb Fb w0 F0 ((sb bp0 (Ae x0 a0_0 n0_0) 108) :: Lf)) (r : Aa) (h : BE N x0 = some r) :
  Calls Tryz.prog 246 ([(pt bp0 0)] : List Value).toArray w0 (D4 wb Fb F0 fun F' v L' => ∃ (aq0_0 : TO) (nq0_0 : Nat), v = (.tuple #[]) /\ L' = (sb bp0 (Ae r aq0_0 nq0_0) 108) :: Lf /\ LC r.L.length nq0_0 /\ SlA Ag F' aq0_0 r.L) := by
 refine Go 11 Tryz.func246 ?_
 refine Sq (Rg [0, 1] ?_)
 refine Vs 1 ?_
 obtain ⟨r21, hr22, h23⟩ := bind_some h
 refine CB BK (BO N bp0 x0 a0_0 n0_0 hb0_0 hs0_0 (([41] : TN)) hs0 _ hr22) ?_
 rintro _ F1 w24 _ hs25 le26 ⟨ar21_0_0, nr21_0_0, rfl, rfl, hbr21_0_0, hsr21_0_0⟩
 refine Nt ?_
 refine Rg [0, 1, 2, 3, 4, 5, 6, 7] ?_
 refine Vs 3 ?_
 refine Ld hs25.at0 ?_
 refine Vs 3 ?_
 refine St0 #[(.slice ar21_0_0 r21.L.length nr21_0_0), (vi r21.At), (vi (W64 (r21.Open - 1))), (vi r21.Bad), (vi r21.Where)] hs25 (fun w28 hs29 => ?_)
 refine Tj ?_
 obtain rfl := Ab h23
 exact ReB [] hs29 le26 ⟨ar21_0_0, nr21_0_0, rfl, rfl, hbr21_0_0, hsr21_0_0⟩
end Go.Proofs.YtaihlcdkcampbaaGreatDoor
