/- Lemmas of the claim RulesParses, printed by a program of the claimant and by hand. No statement of the seat is proved here. -/
import Derived.Test.YtaihlcdkcampbaaGreatDoorE3x3
set_option linter.unusedVariables false
set_option linter.unusedSimpArgs false
set_option linter.unusedSectionVars false
set_option maxHeartbeats 4000000
set_option maxRecDepth 100000
namespace Go.Proofs.YtaihlcdkcampbaaGreatDoor
def Bp (N : Nat) (sR89 : Aa -> Option (Aa × Expr)) (x0 : Aa) (j35 : (Int × Int × TN)) (j64 : Bool) (r106 : (List TN)) : Int -> Option (Bv (Aa × Expr) Int) := fun s117 =>
 (bif (decide (s117 < (r106.length : Int))) then ((bif (j35.1 == 2) then ((idx r106 s117).bind fun x161 => some (j35.2.2 == x161)) else some false).bind fun j148 => (bif j148 then some (.ret (({ L := x0.L, At := (W64 (x0.At + 1)), Open := x0.Open, Bad := x0.Bad, Where := x0.Where } : Aa), ({ Op := 2, Value := s117, Kids := ([] : List Expr) } : Expr))) else some (.next (W64 (s117 + 1))))) else some (.done s117))
def BA (N : Nat) (sR89 : Aa -> Option (Aa × Expr)) (x0 : Aa) : Option (Aa × Expr) :=
 (bif (x0.Bad != 0) then some (x0, ({ Op := 0, Value := 0, Kids := ([] : List Expr) } : Expr)) else (((idx x0.L x0.At).bind fun x42 => some (x42.Kind, x42.At, x42.Text)).bind fun j35 => ((bif (j35.1 == 1) then ((Cv N j35.2.2).bind fun r75 => some (decide (r75 >= 0))) else some false).bind fun j64 => (bif j64 then ((Cv N j35.2.2).bind fun r88 => ((Jt N r88).bind fun r96 => some (({ L := x0.L, At := (W64 (x0.At + 1)), Open := x0.Open, Bad := x0.Bad, Where := x0.Where } : Aa), r96))) else ((GQ N ).bind fun r106 => ((Be (Bp N sR89 x0 j35 j64 r106) N 0).bind fun o => o.k (fun r => some r) (fun s127 => ((AH N x0 ([40] : TN)).bind fun r185 => (bif r185 then ((BF N x0).bind fun r195 => ((sR89 r195).bind fun r202 => ((BE N r202.1).bind fun r214 => some (r214, r202.2)))) else ((AD N x0 ([105, 102] : TN)).bind fun r223 => ((BF N r223).bind fun r230 => ((sR89 r230).bind fun r237 => ((AD N r237.1 ([44] : TN)).bind fun r249 => ((sR89 r249).bind fun r256 => ((AD N r256.1 ([44] : TN)).bind fun r268 => ((sR89 r268).bind fun r275 => ((BE N r275.1).bind fun r288 => some (r288, ({ Op := 11, Value := 0, Kids := [r237.2, r256.2, r275.2] } : Expr)))))))))))))))))))
theorem HZ (N : Nat) (sR89 : Aa -> Option (Aa × Expr)) (hsR89 : O6 sR89) {wb w0 : World} {Fb F0 : Mem} {Lf : Own} (bp0 : Nat) (x0 : Aa) (a0_0 : TO) (n0_0 : Nat) (hb0_0 : LC x0.L.length n0_0) (hs0_0 : SlA Ag F0 a0_0 x0.L) (hs0 : HS wb Fb w0 F0 ((sb bp0 (Ae x0 a0_0 n0_0) 108) :: Lf)) (r : (Aa × Expr)) (h : BA N sR89 x0 = some r) :
  Calls Tryz.prog 240 ([(pt bp0 0)] : List Value).toArray w0 (D4 wb Fb F0 fun F' v L' => ∃ (aq0_0 : TO) (nq0_0 : Nat) (aq1_2 : TO) (nq1_2 : Nat), v = (.agg (Ai r.2 aq1_2 nq1_2)) /\ L' = (sb bp0 (Ae r.1 aq0_0 nq0_0) 108) :: Lf /\ LC r.1.L.length nq0_0 /\ SlA Ag F' aq0_0 r.1.L /\ LC r.2.Kids.length nq1_2 /\ SlA As F' aq1_2 r.2.Kids) := by
 refine Go 104 Tryz.func240 ?_
 refine Sq (Rg [0] ?_)
 refine Al' 33 #[(vi 0), (vi 0), (.slice none ([] : List Expr).length 0)] hs0 (fun b21 w22 hs23 => ?_)
 refine Nss ?_
 refine Sq (Rg [0, 1, 2, 3, 4] ?_)
 refine Vs 3 ?_
 refine Ld hs23.at1 ?_
 refine Vs 1 ?_
 refine Nt ?_
 refine Cd h (fun hb24 h25 => ?_) (fun hb24 h26 => ?_)
 ·refine Sq (Rg [0, 1] ?_)
  refine Vs 1 ?_
  refine St0 #[(vi 0), (vi 0), (.slice none ([] : List Expr).length 0)] hs23 (fun w27 hs28 => ?_)
  refine Nt ?_
  refine Rt ?_
  refine Aj ?_
  obtain rfl := Ab h25
  exact ⟨rfl, (.agg #[(vi 0), (vi 0), (.slice none ([] : List Expr).length 0)]), AE (l := [.cell 2 33]) (by kernel_rfl) (vs := [(.agg #[(vi 0), (vi 0), (.slice none ([] : List Expr).length 0)])]) ⟨b21, 0, rfl, Am (t := 33) (g := true) (s := 3) (by kernel_rfl) hs28.at0 rfl (by decide), trivial⟩, F0, _, _, rfl, hs28.dr0, (To _), ⟨a0_0, n0_0, none, 0, rfl, rfl, hb0_0, hs0_0, Tr, (.inl rfl)⟩⟩
 ·refine Sc ?_
  refine Ad ?_
  refine Sq ?_
  obtain ⟨j35, hj40, h41⟩ := bind_some h26
  refine RD 11 12 [(sb b21 #[(vi 0), (vi 0), (.slice none ([] : List Expr).length 0)] 33), (sb bp0 (Ae x0 a0_0 n0_0) 108)] [] hs23 (fun f w => ∃ (F1 : Mem) (b34 : Nat), HS wb Fb w F1 ((sb b34 #[(vi j35.1), (vi j35.2.1), (.string ⟨(j35.2.2).toArray⟩)] 110) :: (sb b21 #[(vi 0), (vi 0), (.slice none ([] : List Expr).length 0)] 33) :: (sb bp0 (Ae x0 a0_0 n0_0) 108) :: Lf) /\ Tn F0 F1 /\ FI f [] [(0, (pt bp0 0)), (2, (pt b21 0)), (3, (pt b34 0))]) (fun wd29 hw30 => ?_) ?_
  ·refine Dv [0, 1, 2] ?_
   refine Dl 3 (fun _ hq => (hq.1.2 1 _ _ rfl)) ?_
   refine Dv [4, 5, 6] ?_
   refine Dl 7 (fun _ hq => (hq.1.2 1 _ _ rfl)) ?_
   obtain ⟨x42, hx43, h45⟩ := bind_some hj40
   obtain ⟨hi44, hx43'⟩ := Az hx43
   obtain ⟨b46, o47, C48, E49, fz50, rfl, hF52, hE53⟩ := Tx hs0_0 hx43'
   have hc55 := hE53 _ _ hx43'
   refine Di 8 hi44 ?_
   refine Dx 9 0 (fun _ hq => hq.1.1 _ _ hF52) hc55 ?_
   refine D1 10 ?_
   refine DAl 110 #[(vi 0), (vi 0), (.string ⟨(([] : TN)).toArray⟩)] hw30 (To _) (fun b56 w57 hs58 => ?_)
   refine D1 11 ?_
   refine SC (D2 x42) hs58 (To _) (fun w59 hs60 => ?_)
   obtain rfl := Ab h45
   exact TE (by kernel_rfl) ⟨F0, b56, hs60, (To _), fI⟩
  ·rintro f w31 ⟨F1, b34, hs32, le33, ⟨_, rfl⟩⟩
   refine Ad ?_
   refine Sq ?_
   refine Sq (Rg [0, 1, 2, 3, 4, 5, 6, 7, 8] ?_)
   obtain ⟨j64, hj70, h71⟩ := bind_some h41
   refine Tt (fun f w => ∃ (F2 : Mem), HS wb Fb w F2 ((sb b34 #[(vi j35.1), (vi j35.2.1), (.string ⟨(j35.2.2).toArray⟩)] 110) :: (sb b21 #[(vi 0), (vi 0), (.slice none ([] : List Expr).length 0)] 33) :: (sb bp0 (Ae x0 a0_0 n0_0) 108) :: Lf) /\ Tn F1 F2 /\ FI f [] [(0, (pt bp0 0)), (2, (pt b21 0)), (3, (pt b34 0)), (34, (.bool j64))]) ?_ ?_
   ·refine Vs 1 ?_
    refine Ld hs32.at0 ?_
    refine Vs 2 ?_
    refine Sp hj70 (fun hb72 h73 => ?_) (fun hb72 h74 => ?_)
    ·refine Vgs hb72 1 ?_
     refine Lg hb72 hs32.at0 ?_
     obtain ⟨r75, hr76, h77⟩ := bind_some h73
     refine Cg hb72 G7 hs32 (HP N w31 F1 hs32.pers j35.2.2 _ hr76) ?_
     rintro _ F3 w79 hs80 le81 rfl
     refine Vgs hb72 1 ?_
     refine Pk1 hb72 ?_
     obtain rfl := Ab h77
     exact Tj ⟨rfl, F3, hs80, le81, fI⟩
    ·refine Ss hb72 4 ?_
     refine Pk0 hb72 ?_
     obtain rfl := Ab h74
     exact Tj ⟨rfl, F1, hs32, (To _), fI⟩
   ·rintro f w61 ⟨F2, hs62, le63, ⟨_, rfl⟩⟩
    refine Ad ?_
    refine Cd h71 (fun hb83 h84 => ?_) (fun hb83 h85 => ?_)
    ·refine Sq (Rg [0, 1, 2, 3, 4, 5, 6, 7] ?_)
     refine Vs 3 ?_
     refine Ld hs62.at2 ?_
     refine Vs 3 ?_
     refine St2 #[(.slice a0_0 x0.L.length n0_0), (vi (W64 (x0.At + 1))), (vi x0.Open), (vi x0.Bad), (vi x0.Where)] hs62 (fun w86 hs87 => ?_)
     refine Nss (Rg [0, 1, 2, 3, 4] ?_)
     refine Vs 1 ?_
     refine Ld hs87.at0 ?_
     obtain ⟨r88, hr89, h90⟩ := bind_some h84
     refine Cl' G7 hs87 (HP N w86 F2 hs87.pers j35.2.2 _ hr89) ?_
     rintro _ F4 w92 hs93 le94 rfl
     obtain ⟨r96, hr97, h98⟩ := bind_some h90
     refine Cl' K8 hs93 (Me N w92 F4 hs93.pers r88 _ hr97) ?_
     rintro _ F5 w100 hs101 le102 ⟨ar96_0_2, nr96_0_2, rfl, hbr96_0_2, hsr96_0_2⟩
     refine St1 (Ai r96 ar96_0_2 nr96_0_2) hs101 (fun w104 hs105 => ?_)
     refine Nt ?_
     refine Rt ?_
     refine Aj ?_
     obtain rfl := Ab h98
     exact ⟨rfl, (.agg (Ai r96 ar96_0_2 nr96_0_2)), AE (l := [.cell 2 33]) (by kernel_rfl) (vs := [(.agg (Ai r96 ar96_0_2 nr96_0_2))]) ⟨b21, 0, rfl, Am (t := 33) (g := true) (s := 3) (by kernel_rfl) hs105.at1 rfl (by decide), trivial⟩, F5, _, _, rfl, hs105.dr0.dr0, (((le33.trans le63).trans le94).trans le102), ⟨a0_0, n0_0, ar96_0_2, nr96_0_2, rfl, rfl, hb0_0, (Tq hs0_0 (((le33.trans le63).trans le94).trans le102)), hbr96_0_2, hsr96_0_2⟩⟩
    ·refine Sc ?_
     refine Ad ?_
     refine Sq (Rg [0, 1] ?_)
     obtain ⟨r106, hr107, h108⟩ := bind_some h85
     refine Cl' K9 hs62 (Mf N w61 F2 hs62.pers  _ hr107) ?_
     rintro _ F6 w110 hs111 le112 ⟨ar106_0_0, nr106_0_0, rfl, hbr106_0_0, hsr106_0_0⟩
     refine Vs 1 ?_
     refine Nss ?_
     refine Sq (Rg [0] ?_)
     refine Vs 1 ?_
     refine Nt ?_
     obtain ⟨o114, ho115, h116⟩ := bind_some h108
     refine Tu (fun f w => ∃ (s127 : Int) (F8 : Mem), o114 = .done s127 /\ HS wb Fb w F8 ((sb b21 #[(vi 0), (vi 0), (.slice none ([] : List Expr).length 0)] 33) :: (sb bp0 (Ae x0 a0_0 n0_0) 108) :: Lf) /\ Tn F6 F8 /\ FI f [] [(0, (pt bp0 0)), (2, (pt b21 0))]) ?_ ?_
     ·refine Bk ?_
      refine Tm (by kernel_rfl) (fun m f w => ∃ (s117 : Int) (F7 : Mem), Be (Bp N sR89 x0 j35 j64 r106) m s117 = some o114 /\ HS wb Fb w F7 ((sb b34 #[(vi j35.1), (vi j35.2.1), (.string ⟨(j35.2.2).toArray⟩)] 110) :: (sb b21 #[(vi 0), (vi 0), (.slice none ([] : List Expr).length 0)] 33) :: (sb bp0 (Ae x0 a0_0 n0_0) 108) :: Lf) /\ Tn F6 F7 /\ FI f [] [(0, (pt bp0 0)), (2, (pt b21 0)), (3, (pt b34 0)), (4, (.slice ar106_0_0 r106.length nr106_0_0)), (5, (vi s117))]) N ⟨0, F6, ho115, hs111, (To _), fI⟩ ?_
      rintro m134 f w118 ⟨s117, F7, hit135, hs119, le120, ⟨_, rfl⟩⟩
      obtain ⟨m136, fl137, rfl, hb138, hnx139⟩ := A5 hit135
      refine Sq ?_
      refine Sq (Rg [0, 1, 2, 3] ?_)
      refine Vs 4 ?_
      refine Nt ?_
      refine Cd hb138 (fun hb140 h141 => ?_) (fun hb140 h142 => ?_)
      ·refine Sc ?_
       refine Ad ?_
       refine Sq ?_
       refine Bk ?_
       refine Sq ?_
       obtain ⟨j148, hj156, h157⟩ := bind_some h141
       refine RD 12 12 [(sb b34 #[(vi j35.1), (vi j35.2.1), (.string ⟨(j35.2.2).toArray⟩)] 110), (sb b21 #[(vi 0), (vi 0), (.slice none ([] : List Expr).length 0)] 33), (sb bp0 (Ae x0 a0_0 n0_0) 108)] [] hs119 (fun f w => ∃ (F9 : Mem), HS wb Fb w F9 ((sb b34 #[(vi j35.1), (vi j35.2.1), (.string ⟨(j35.2.2).toArray⟩)] 110) :: (sb b21 #[(vi 0), (vi 0), (.slice none ([] : List Expr).length 0)] 33) :: (sb bp0 (Ae x0 a0_0 n0_0) 108) :: Lf) /\ Tn F7 F9 /\ FI f [] [(0, (pt bp0 0)), (2, (pt b21 0)), (3, (pt b34 0)), (4, (.slice ar106_0_0 r106.length nr106_0_0)), (5, (vi s117)), (64, (.bool j148))]) (fun wd143 hw144 => ?_) ?_
       ·refine Dv [0] ?_
        refine Dl 1 (fun _ hq => (hq.1.2 0 _ _ rfl)) ?_
        refine Dv [2, 3] ?_
        refine Sd hj156 (fun hb158 h159 => ?_) (fun hb158 h160 => ?_)
        ·refine Dg 4 57 0 (pt b34 2) 3 true 56 hb158 (fun _ hq => fa 110 3 2 2 1 b34 0 2) ?_
         refine Dg 5 58 9 _ 3 true 56 hb158 (fun _ hq => ld 9 57 b34 2 false 1 (.string ⟨(j35.2.2).toArray⟩) (hq.1.2 0 _ _ rfl)) ?_
         refine Dg 6 59 120 _ 3 true 56 hb158 (fun _ hq => mv 4 (.slice ar106_0_0 r106.length nr106_0_0)) ?_
         refine Dg 7 60 3 _ 3 true 56 hb158 (fun _ hq => mv 5 (vi s117)) ?_
         obtain ⟨x161, hx162, h164⟩ := bind_some h159
         obtain ⟨hi163, hx162'⟩ := Az hx162
         obtain ⟨b165, o166, C167, E168, fz169, rfl, hF171, hE172⟩ := Tx (Tq hsr106_0_0 le120) hx162'
         have hc174 := hE172 _ _ hx162'
         refine Dg 8 61 0 (.pointer (some ⟨b165, (o166 + (s117 : Int).toNat * 1), none⟩)) 3 true 56 hb158 (fun _ hq => ix 120 59 60 b165 o166 9 1 16 hi163) ?_
         refine Dg 9 62 9 _ 3 true 56 hb158 (fun _ hq => lx 9 61 0 1 false 1 (.string ⟨(x161).toArray⟩) (hq.1.1 _ _ hF171) hc174) ?_
         refine Dg 10 63 4 (.bool (j35.2.2 == x161)) 3 true 56 hb158 (fun _ hq => Fx (t := 9) (t' := 9) (x := (.tmp 58)) (y := (.tmp 62)) (op := .eql) (a := j35.2.2) (b := x161) (v := (j35.2.2 == x161)) rfl rfl rfl) ?_
         refine Dt 11 64 4 _ (fun _ hq => p1 56 (.tmp 63) (.const (.bool false)) (.bool (j35.2.2 == x161)) hb158) ?_
         obtain rfl := Ab h164
         exact TE (by kernel_rfl) ⟨F7, hw144, (To _), fI⟩
        ·refine Dk [(4, 57), (5, 58), (6, 59), (7, 60), (8, 61), (9, 62), (10, 63)] 3 true 56 hb158 ?_
         refine Dt 11 64 4 _ (fun _ hq => p0 56 (.tmp 63) (.const (.bool false)) (.bool false) hb158) ?_
         obtain rfl := Ab h160
         exact TE (by kernel_rfl) ⟨F7, hw144, (To _), fI⟩
       ·rintro f w145 ⟨F9, hs146, le147, ⟨_, rfl⟩⟩
        refine Ad ?_
        refine Cd h157 (fun hb175 h176 => ?_) (fun hb175 h177 => ?_)
        ·refine Sq (Rg [0, 1, 2, 3, 4, 5, 6, 7] ?_)
         refine Vs 3 ?_
         refine Ld hs146.at2 ?_
         refine Vs 3 ?_
         refine St2 #[(.slice a0_0 x0.L.length n0_0), (vi (W64 (x0.At + 1))), (vi x0.Open), (vi x0.Bad), (vi x0.Where)] hs146 (fun w178 hs179 => ?_)
         refine Nss (Rg [0, 1, 2] ?_)
         refine Vs 2 ?_
         refine St1 #[(vi 2), (vi s117), (.slice none ([] : List Expr).length 0)] hs179 (fun w180 hs181 => ?_)
         refine Nt ?_
         refine Rt ?_
         refine Ao ?_
         refine Aj ?_
         refine Aj ?_
         refine Ao ?_
         have hret := B9 h176 hnx139
         subst hret
         refine .inr ?_
         refine Aj ?_
         obtain rfl := Ab h116
         exact ⟨rfl, (.agg #[(vi 2), (vi s117), (.slice none ([] : List Expr).length 0)]), AE (l := [.cell 2 33]) (by kernel_rfl) (vs := [(.agg #[(vi 2), (vi s117), (.slice none ([] : List Expr).length 0)])]) ⟨b21, 0, rfl, Am (t := 33) (g := true) (s := 3) (by kernel_rfl) hs181.at1 rfl (by decide), trivial⟩, F9, _, _, rfl, hs181.dr0.dr0, ((((le33.trans le63).trans le112).trans le120).trans le147), ⟨a0_0, n0_0, none, 0, rfl, rfl, hb0_0, (Tq hs0_0 ((((le33.trans le63).trans le112).trans le120).trans le147)), Tr, (.inl rfl)⟩⟩
        ·refine Sc ?_
         refine AA ?_
         refine Ad ?_
         refine Rg [0, 1, 2] ?_
         refine Vs 3 ?_
         refine Tj ?_
         have hn182 := AW h177 hnx139
         exact ⟨m136, Nat.lt_succ_self _, (W64 (s117 + 1)), F9, hn182, hs146, (le120.trans le147), fI⟩
      ·refine Ex ?_
       refine AC ?_
       refine AC ?_
       refine AL rfl ?_
       have ho183 := A8 h142 hnx139
       exact .inl ⟨rfl, s117, F7, ho183, hs119.dr0, le120, fI⟩
     ·rintro f w128 ⟨s127, F8, rfl, hs129, le130, ⟨_, rfl⟩⟩
      have h184 := BT h116
      refine Ad ?_
      refine Sq ?_
      refine Sq (Rg [0, 1] ?_)
      refine Vs 1 ?_
      obtain ⟨r185, hr186, h187⟩ := bind_some h184
      refine CB AJ (AN N bp0 x0 a0_0 n0_0 hb0_0 (Tq hs0_0 (((le33.trans le63).trans le112).trans le130)) (([40] : TN)) hs129.pk1 _ hr186) ?_
      rintro _ F10 w188 _ hs189 le190 ⟨rfl, rfl⟩
      refine Nt ?_
      refine Cd h187 (fun hb192 h193 => ?_) (fun hb192 h194 => ?_)
      ·refine Sq (Rg [0, 1] ?_)
       refine Vs 1 ?_
       obtain ⟨r195, hr196, h197⟩ := bind_some h193
       refine CB ER (Fc N bp0 x0 a0_0 n0_0 hb0_0 (Tq hs0_0 ((((le33.trans le63).trans le112).trans le130).trans le190)) hs189 _ hr196) ?_
       rintro _ F11 w198 _ hs199 le200 ⟨ar195_0_0, nr195_0_0, rfl, rfl, hbr195_0_0, hsr195_0_0⟩
       refine Nss (Rg [0, 1, 2, 3] ?_)
       refine Vs 1 ?_
       obtain ⟨r202, hr203, h204⟩ := bind_some h197
       refine CB B0 (hsR89 bp0 r195 ar195_0_0 nr195_0_0 hbr195_0_0 hsr195_0_0 hs199 _ hr203) ?_
       rintro _ F12 w205 _ hs206 le207 ⟨ar202_0_0, nr202_0_0, ar202_1_2, nr202_1_2, rfl, rfl, hbr202_0_0, hsr202_0_0, hbr202_1_2, hsr202_1_2⟩
       refine Al' 33 #[(vi 0), (vi 0), (.slice none ([] : List Expr).length 0)] hs206 (fun b209 w210 hs211 => ?_)
       refine St0 (Ai r202.2 ar202_1_2 nr202_1_2) hs211 (fun w212 hs213 => ?_)
       refine Nss (Rg [0, 1] ?_)
       refine Vs 1 ?_
       obtain ⟨r214, hr215, h216⟩ := bind_some h204
       refine CB EQ (Fa N bp0 r202.1 ar202_0_0 nr202_0_0 hbr202_0_0 hsr202_0_0 hs213.pk2.pk1.pk2 _ hr215) ?_
       rintro _ F13 w217 _ hs218 le219 ⟨ar214_0_0, nr214_0_0, rfl, rfl, hbr214_0_0, hsr214_0_0⟩
       refine Nss (Rg [0, 1] ?_)
       refine Ld hs218.at1 ?_
       refine St2 (Ai r202.2 ar202_1_2 nr202_1_2) hs218 (fun w221 hs222 => ?_)
       refine Nt ?_
       refine Rt ?_
       refine Aj ?_
       obtain rfl := Ab h216
       exact ⟨rfl, (.agg (Ai r202.2 ar202_1_2 nr202_1_2)), AE (l := [.cell 2 33]) (by kernel_rfl) (vs := [(.agg (Ai r202.2 ar202_1_2 nr202_1_2))]) ⟨b21, 0, rfl, Am (t := 33) (g := true) (s := 3) (by kernel_rfl) hs222.at2 rfl (by decide), trivial⟩, F13, _, _, rfl, hs222.dr1.dr1, (((((((le33.trans le63).trans le112).trans le130).trans le190).trans le200).trans le207).trans le219), ⟨ar214_0_0, nr214_0_0, ar202_1_2, nr202_1_2, rfl, rfl, hbr214_0_0, hsr214_0_0, hbr202_1_2, (Tq hsr202_1_2 le219)⟩⟩
      ·refine Sc ?_
       refine Ad ?_
       refine Sq (Rg [0, 1] ?_)
       refine Vs 1 ?_
       obtain ⟨r223, hr224, h225⟩ := bind_some h194
       refine CB BK (BO N bp0 x0 a0_0 n0_0 hb0_0 (Tq hs0_0 ((((le33.trans le63).trans le112).trans le130).trans le190)) (([105, 102] : TN)) hs189 _ hr224) ?_
       rintro _ F14 w226 _ hs227 le228 ⟨ar223_0_0, nr223_0_0, rfl, rfl, hbr223_0_0, hsr223_0_0⟩
       refine Nss (Rg [0, 1] ?_)
       refine Vs 1 ?_
       obtain ⟨r230, hr231, h232⟩ := bind_some h225
       refine CB ER (Fc N bp0 r223 ar223_0_0 nr223_0_0 hbr223_0_0 hsr223_0_0 hs227 _ hr231) ?_
       rintro _ F15 w233 _ hs234 le235 ⟨ar230_0_0, nr230_0_0, rfl, rfl, hbr230_0_0, hsr230_0_0⟩
       refine Nss (Rg [0, 1, 2, 3] ?_)
       refine Vs 1 ?_
       obtain ⟨r237, hr238, h239⟩ := bind_some h232
       refine CB B0 (hsR89 bp0 r230 ar230_0_0 nr230_0_0 hbr230_0_0 hsr230_0_0 hs234 _ hr238) ?_
       rintro _ F16 w240 _ hs241 le242 ⟨ar237_0_0, nr237_0_0, ar237_1_2, nr237_1_2, rfl, rfl, hbr237_0_0, hsr237_0_0, hbr237_1_2, hsr237_1_2⟩
       refine Al' 33 #[(vi 0), (vi 0), (.slice none ([] : List Expr).length 0)] hs241 (fun b244 w245 hs246 => ?_)
       refine St0 (Ai r237.2 ar237_1_2 nr237_1_2) hs246 (fun w247 hs248 => ?_)
       refine Nss (Rg [0, 1] ?_)
       refine Vs 1 ?_
       obtain ⟨r249, hr250, h251⟩ := bind_some h239
       refine CB BK (BO N bp0 r237.1 ar237_0_0 nr237_0_0 hbr237_0_0 hsr237_0_0 (([44] : TN)) hs248.pk2.pk1.pk2 _ hr250) ?_
       rintro _ F17 w252 _ hs253 le254 ⟨ar249_0_0, nr249_0_0, rfl, rfl, hbr249_0_0, hsr249_0_0⟩
       refine Nss (Rg [0, 1, 2, 3] ?_)
       refine Vs 1 ?_
       obtain ⟨r256, hr257, h258⟩ := bind_some h251
       refine CB B0 (hsR89 bp0 r249 ar249_0_0 nr249_0_0 hbr249_0_0 hsr249_0_0 hs253 _ hr257) ?_
       rintro _ F18 w259 _ hs260 le261 ⟨ar256_0_0, nr256_0_0, ar256_1_2, nr256_1_2, rfl, rfl, hbr256_0_0, hsr256_0_0, hbr256_1_2, hsr256_1_2⟩
       refine Al' 33 #[(vi 0), (vi 0), (.slice none ([] : List Expr).length 0)] hs260 (fun b263 w264 hs265 => ?_)
       refine St0 (Ai r256.2 ar256_1_2 nr256_1_2) hs265 (fun w266 hs267 => ?_)
       refine Nss (Rg [0, 1] ?_)
       refine Vs 1 ?_
       obtain ⟨r268, hr269, h270⟩ := bind_some h258
       refine CB BK (BO N bp0 r256.1 ar256_0_0 nr256_0_0 hbr256_0_0 hsr256_0_0 (([44] : TN)) hs267.pk3.pk3.pk2.pk3 _ hr269) ?_
       rintro _ F19 w271 _ hs272 le273 ⟨ar268_0_0, nr268_0_0, rfl, rfl, hbr268_0_0, hsr268_0_0⟩
       refine Nss (Rg [0, 1, 2, 3] ?_)
       refine Vs 1 ?_
       obtain ⟨r275, hr276, h277⟩ := bind_some h270
       refine CB B0 (hsR89 bp0 r268 ar268_0_0 nr268_0_0 hbr268_0_0 hsr268_0_0 hs272 _ hr276) ?_
       rintro _ F20 w278 _ hs279 le280 ⟨ar275_0_0, nr275_0_0, ar275_1_2, nr275_1_2, rfl, rfl, hbr275_0_0, hsr275_0_0, hbr275_1_2, hsr275_1_2⟩
       refine Al' 33 #[(vi 0), (vi 0), (.slice none ([] : List Expr).length 0)] hs279 (fun b282 w283 hs284 => ?_)
       refine St0 (Ai r275.2 ar275_1_2 nr275_1_2) hs284 (fun w285 hs286 => ?_)
       refine Nss (Rg [0, 1] ?_)
       refine Vs 1 ?_
       have hs287 := hs286.pk4.pk4.pk4.pk3.pk4
       obtain ⟨r288, hr289, h290⟩ := bind_some h277
       refine CB EQ (Fa N bp0 r275.1 ar275_0_0 nr275_0_0 hbr275_0_0 hsr275_0_0 hs287 _ hr289) ?_
       rintro _ F21 w291 _ hs292 le293 ⟨ar288_0_0, nr288_0_0, rfl, rfl, hbr288_0_0, hsr288_0_0⟩
       refine Nss (Rg [0, 1, 2, 3, 4, 5] ?_)
       refine Ld hs292.at3 ?_
       refine Ld hs292.at2 ?_
       refine Ld hs292.at1 ?_
       refine Bs 33 [(vi r237.2.Op), (vi r237.2.Value), (.slice ar237_1_2 r237.2.Kids.length nr237_1_2), (vi r256.2.Op), (vi r256.2.Value), (.slice ar256_1_2 r256.2.Kids.length nr256_1_2), (vi r275.2.Op), (vi r275.2.Value), (.slice ar275_1_2 r275.2.Kids.length nr275_1_2)] hs292 (fun b295 w296 hs297 => ?_)
       have hr299 : Av As 33 F21 (some ⟨b295, 0, none⟩) 3 [r237.2, r256.2, r275.2] (some b295, .cells ([(vi r237.2.Op), (vi r237.2.Value), (.slice ar237_1_2 r237.2.Kids.length nr237_1_2), (vi r256.2.Op), (vi r256.2.Value), (.slice ar256_1_2 r256.2.Kids.length nr256_1_2), (vi r275.2.Op), (vi r275.2.Value), (.slice ar275_1_2 r275.2.Kids.length nr275_1_2)] : List Value).toArray 33 (0, 0)) := TH ⟨(Ba ⟨ar237_1_2, nr237_1_2, rfl, hbr237_1_2, (Tq hsr237_1_2 ((((le254.trans le261).trans le273).trans le280).trans le293))⟩), ⟨(Ba ⟨ar256_1_2, nr256_1_2, rfl, hbr256_1_2, (Tq hsr256_1_2 ((le273.trans le280).trans le293))⟩), ⟨(Ba ⟨ar275_1_2, nr275_1_2, rfl, hbr275_1_2, (Tq hsr275_1_2 le293)⟩), rfl⟩⟩⟩ (by simp)
       refine Vs 1 ?_
       refine St5 #[(vi 11), (vi 0), (.slice (some ⟨b295, 0, none⟩) [r237.2, r256.2, r275.2].length 3)] hs297 (fun w300 hs301 => ?_)
       refine Nt ?_
       refine Rt ?_
       have hb305 := TF hr299
       obtain ⟨F22, hs302, le303, hs304⟩ := hs301.fr0 hr299
       obtain rfl := Ab h290
       exact ⟨rfl, (.agg #[(vi 11), (vi 0), (.slice (some ⟨b295, 0, none⟩) [r237.2, r256.2, r275.2].length 3)]), AE (l := [.cell 2 33]) (by kernel_rfl) (vs := [(.agg #[(vi 11), (vi 0), (.slice (some ⟨b295, 0, none⟩) [r237.2, r256.2, r275.2].length 3)])]) ⟨b21, 0, rfl, Am (t := 33) (g := true) (s := 3) (by kernel_rfl) hs302.at4 rfl (by decide), trivial⟩, F22, _, _, rfl, hs302.dr1.dr1.dr1.dr1, (((((((((((((le33.trans le63).trans le112).trans le130).trans le190).trans le228).trans le235).trans le242).trans le254).trans le261).trans le273).trans le280).trans le293).trans le303), ⟨ar288_0_0, nr288_0_0, (some ⟨b295, 0, none⟩), 3, rfl, rfl, hbr288_0_0, (Tq hsr288_0_0 le303), hb305, hs304⟩⟩
def BI (N : Nat) (sR146 : Aa -> Option (Aa × Expr)) (x0 : Aa) (r24 : (Aa × Expr)) : (Int × Int × List Expr × List Af × Int × Int × Int × Int) -> Option (Bv (Aa × Expr) (Int × Int × List Expr × List Af × Int × Int × Int × Int)) := fun s39 =>
 ((bif (s39.2.2.2.2.2.2.1 == 0) then ((AH N ({ L := s39.2.2.2.1, At := s39.2.2.2.2.1, Open := s39.2.2.2.2.2.1, Bad := s39.2.2.2.2.2.2.1, Where := s39.2.2.2.2.2.2.2 } : Aa) ([111, 114] : TN)).bind fun r74 => some r74) else some false).bind fun j63 => (bif j63 then ((sR146 ({ L := s39.2.2.2.1, At := (W64 (s39.2.2.2.2.1 + 1)), Open := s39.2.2.2.2.2.1, Bad := s39.2.2.2.2.2.2.1, Where := s39.2.2.2.2.2.2.2 } : Aa)).bind fun r86 => ((Et N 5 ({ Op := s39.1, Value := s39.2.1, Kids := s39.2.2.1 } : Expr) r86.2).bind fun r98 => some (.next (r98.Op, r98.Value, r98.Kids, r86.1.L, r86.1.At, r86.1.Open, r86.1.Bad, r86.1.Where)))) else some (.done (s39.1, s39.2.1, s39.2.2.1, s39.2.2.2.1, s39.2.2.2.2.1, s39.2.2.2.2.2.1, s39.2.2.2.2.2.2.1, s39.2.2.2.2.2.2.2))))
def CZ (N : Nat) (sR146 : Aa -> Option (Aa × Expr)) (x0 : Aa) : Option (Aa × Expr) :=
 ((sR146 x0).bind fun r24 => ((Be (BI N sR146 x0 r24) N (r24.2.Op, r24.2.Value, r24.2.Kids, r24.1.L, r24.1.At, r24.1.Open, r24.1.Bad, r24.1.Where)).bind fun o => o.k (fun r => some r) (fun s47 => some (({ L := s47.2.2.2.1, At := s47.2.2.2.2.1, Open := s47.2.2.2.2.2.1, Bad := s47.2.2.2.2.2.2.1, Where := s47.2.2.2.2.2.2.2 } : Aa), ({ Op := s47.1, Value := s47.2.1, Kids := s47.2.2.1 } : Expr)))))
theorem H7 (N : Nat) (sR146 : Aa -> Option (Aa × Expr)) (hsR146 : NE sR146) {wb w0 : World} {Fb F0 : Mem} {Lf : Own} (bp0 : Nat) (x0 : Aa) (a0_0 : TO) (n0_0 : Nat) (hb0_0 : LC x0.L.length n0_0) (hs0_0 : SlA Ag F0 a0_0 x0.L) (hs0 : HS wb Fb w0 F0 ((sb bp0 (Ae x0 a0_0 n0_0) 108) :: Lf)) (r : (Aa × Expr)) (h : CZ N sR146 x0 = some r) :
  Calls Tryz.prog 89 ([(pt bp0 0)] : List Value).toArray w0 (D4 wb Fb F0 fun F' v L' => ∃ (aq0_0 : TO) (nq0_0 : Nat) (aq1_2 : TO) (nq1_2 : Nat), v = (.agg (Ai r.2 aq1_2 nq1_2)) /\ L' = (sb bp0 (Ae r.1 aq0_0 nq0_0) 108) :: Lf /\ LC r.1.L.length nq0_0 /\ SlA Ag F' aq0_0 r.1.L /\ LC r.2.Kids.length nq1_2 /\ SlA As F' aq1_2 r.2.Kids) := by
 refine Go 29 Tryz.func89 ?_
 refine Sq (Rg [0] ?_)
 refine Al' 33 #[(vi 0), (vi 0), (.slice none ([] : List Expr).length 0)] hs0 (fun b21 w22 hs23 => ?_)
 refine Nss (Rg [0, 1, 2, 3] ?_)
 refine Vs 1 ?_
 obtain ⟨r24, hr25, h26⟩ := bind_some h
 refine CB ET (hsR146 bp0 x0 a0_0 n0_0 hb0_0 hs0_0 hs23.pk1 _ hr25) ?_
 rintro _ F1 w27 _ hs28 le29 ⟨ar24_0_0, nr24_0_0, ar24_1_2, nr24_1_2, rfl, rfl, hbr24_0_0, hsr24_0_0, hbr24_1_2, hsr24_1_2⟩
 refine Al' 33 #[(vi 0), (vi 0), (.slice none ([] : List Expr).length 0)] hs28 (fun b31 w32 hs33 => ?_)
 refine St0 (Ai r24.2 ar24_1_2 nr24_1_2) hs33 (fun w34 hs35 => ?_)
 refine Nss ?_
 obtain ⟨o36, ho37, h38⟩ := bind_some h26
 refine Tu (fun f w => ∃ (s47 : (Int × Int × List Expr × List Af × Int × Int × Int × Int)) (F3 : Mem) (as47_2 : TO) (ns47_2 : Nat) (as47_3 : TO) (ns47_3 : Nat), o36 = .done s47 /\ HS wb Fb w F3 ((sb b31 #[(vi s47.1), (vi s47.2.1), (.slice as47_2 s47.2.2.1.length ns47_2)] 33) :: (sb bp0 #[(.slice as47_3 s47.2.2.2.1.length ns47_3), (vi s47.2.2.2.2.1), (vi s47.2.2.2.2.2.1), (vi s47.2.2.2.2.2.2.1), (vi s47.2.2.2.2.2.2.2)] 108) :: (sb b21 #[(vi 0), (vi 0), (.slice none ([] : List Expr).length 0)] 33) :: Lf) /\ Tn F1 F3 /\ FI f [] [(2, (pt b21 0)), (3, (pt b31 0))] /\ LC s47.2.2.1.length ns47_2 /\ SlA As F3 as47_2 s47.2.2.1 /\ LC s47.2.2.2.1.length ns47_3 /\ SlA Ag F3 as47_3 s47.2.2.2.1) ?_ ?_
 ·refine Bk ?_
  refine Tm (by kernel_rfl) (fun m f w => ∃ (s39 : (Int × Int × List Expr × List Af × Int × Int × Int × Int)) (F2 : Mem) (as39_2 : TO) (ns39_2 : Nat) (as39_3 : TO) (ns39_3 : Nat), Be (BI N sR146 x0 r24) m s39 = some o36 /\ HS wb Fb w F2 ((sb b31 #[(vi s39.1), (vi s39.2.1), (.slice as39_2 s39.2.2.1.length ns39_2)] 33) :: (sb bp0 #[(.slice as39_3 s39.2.2.2.1.length ns39_3), (vi s39.2.2.2.2.1), (vi s39.2.2.2.2.2.1), (vi s39.2.2.2.2.2.2.1), (vi s39.2.2.2.2.2.2.2)] 108) :: (sb b21 #[(vi 0), (vi 0), (.slice none ([] : List Expr).length 0)] 33) :: Lf) /\ Tn F1 F2 /\ FI f [] [(0, (pt bp0 0)), (2, (pt b21 0)), (3, (pt b31 0))] /\ LC s39.2.2.1.length ns39_2 /\ SlA As F2 as39_2 s39.2.2.1 /\ LC s39.2.2.2.1.length ns39_3 /\ SlA Ag F2 as39_3 s39.2.2.2.1) N ⟨(r24.2.Op, r24.2.Value, r24.2.Kids, r24.1.L, r24.1.At, r24.1.Open, r24.1.Bad, r24.1.Where), F1, ar24_1_2, nr24_1_2, ar24_0_0, nr24_0_0, ho37, hs35, (To _), fI, hbr24_1_2, hsr24_1_2, hbr24_0_0, hsr24_0_0⟩ ?_
  rintro m54 f w40 ⟨s39, F2, as39_2, ns39_2, as39_3, ns39_3, hit55, hs41, le42, ⟨_, rfl⟩, hbs39_2, hss39_2, hbs39_3, hss39_3⟩
  obtain ⟨m56, fl57, rfl, hb58, hnx59⟩ := A5 hit55
  refine Sq ?_
  refine Sq (Rg [0, 1, 2, 3, 4, 5, 6, 7, 8] ?_)
  obtain ⟨j63, hj69, h70⟩ := bind_some hb58
  refine Tt (fun f w => ∃ (F4 : Mem), HS wb Fb w F4 ((sb b31 #[(vi s39.1), (vi s39.2.1), (.slice as39_2 s39.2.2.1.length ns39_2)] 33) :: (sb bp0 #[(.slice as39_3 s39.2.2.2.1.length ns39_3), (vi s39.2.2.2.2.1), (vi s39.2.2.2.2.2.1), (vi s39.2.2.2.2.2.2.1), (vi s39.2.2.2.2.2.2.2)] 108) :: (sb b21 #[(vi 0), (vi 0), (.slice none ([] : List Expr).length 0)] 33) :: Lf) /\ Tn F2 F4 /\ FI f [] [(0, (pt bp0 0)), (2, (pt b21 0)), (3, (pt b31 0)), (15, (.bool j63))]) ?_ ?_
  ·refine Vs 3 ?_
   refine Ld hs41.at1 ?_
   refine Vs 2 ?_
   refine Sp hj69 (fun hb71 h72 => ?_) (fun hb71 h73 => ?_)
   ·refine Vgs hb71 1 ?_
    obtain ⟨r74, hr75, h76⟩ := bind_some h72
    refine TK (dst := (some 14)) (ty := 4) (g := (some (5, true))) (by kernel_rfl) (FG (d := 12) (by kernel_rfl) rfl hb71) (f0 := (.func 142)) (aos := #[(.tmp 13), (.const (.string ⟨([111, 114] : TN).toArray⟩))]) (ats := #[104, 9]) (fid := 142) (first := #[]) (cap := #[]) (args := [(pt bp0 0), (.string ⟨(([111, 114] : TN)).toArray⟩)]) rfl AJ rfl (AN N bp0 (({ L := s39.2.2.2.1, At := s39.2.2.2.2.1, Open := s39.2.2.2.2.2.1, Bad := s39.2.2.2.2.2.2.1, Where := s39.2.2.2.2.2.2.2 } : Aa)) as39_3 ns39_3 hbs39_3 hss39_3 (([111, 114] : TN)) hs41.pk2.pk1.pk2 _ hr75) ?_
    rintro _ F5 w77 _ hs78 le79 ⟨rfl, rfl⟩
    refine Pk1 hb71 ?_
    obtain rfl := Ab h76
    exact Tj ⟨rfl, F5, hs78.pk2.pk1.pk2, le79, fI⟩
   ·refine Ss hb71 2 ?_
    refine Pk0 hb71 ?_
    obtain rfl := Ab h73
    exact Tj ⟨rfl, F2, hs41, (To _), fI⟩
  ·rintro f w60 ⟨F4, hs61, le62, ⟨_, rfl⟩⟩
   refine Ad ?_
   refine Cd h70 (fun hb81 h82 => ?_) (fun hb81 h83 => ?_)
   ·refine Sc ?_
    refine Ad ?_
    refine Bk ?_
    refine Sq (Rg [0, 1, 2, 3, 4, 5, 6, 7] ?_)
    refine Vs 3 ?_
    refine Ld hs61.at1 ?_
    refine Vs 3 ?_
    refine St1 #[(.slice as39_3 s39.2.2.2.1.length ns39_3), (vi (W64 (s39.2.2.2.2.1 + 1))), (vi s39.2.2.2.2.2.1), (vi s39.2.2.2.2.2.2.1), (vi s39.2.2.2.2.2.2.2)] hs61 (fun w84 hs85 => ?_)
    refine Nss (Rg [0, 1, 2, 3] ?_)
    refine Vs 1 ?_
    obtain ⟨r86, hr87, h88⟩ := bind_some h82
    refine CB ET (hsR146 bp0 (({ L := s39.2.2.2.1, At := (W64 (s39.2.2.2.2.1 + 1)), Open := s39.2.2.2.2.2.1, Bad := s39.2.2.2.2.2.2.1, Where := s39.2.2.2.2.2.2.2 } : Aa)) as39_3 ns39_3 hbs39_3 (Tq hss39_3 le62) hs85.pk2.pk1.pk2 _ hr87) ?_
    rintro _ F6 w89 _ hs90 le91 ⟨ar86_0_0, nr86_0_0, ar86_1_2, nr86_1_2, rfl, rfl, hbr86_0_0, hsr86_0_0, hbr86_1_2, hsr86_1_2⟩
    refine Al' 33 #[(vi 0), (vi 0), (.slice none ([] : List Expr).length 0)] hs90 (fun b93 w94 hs95 => ?_)
    refine St0 (Ai r86.2 ar86_1_2 nr86_1_2) hs95 (fun w96 hs97 => ?_)
    refine Nt ?_
    refine Rg [0, 1, 2, 3] ?_
    refine Ld hs97.at2 ?_
    refine Ld hs97.at0 ?_
    obtain ⟨r98, hr99, h100⟩ := bind_some h88
    refine Cl' DU hs97 (Eh N w96 F6 hs97.pers 5 (({ Op := s39.1, Value := s39.2.1, Kids := s39.2.2.1 } : Expr)) as39_2 ns39_2 hbs39_2 (Tq hss39_2 (le62.trans le91)) r86.2 ar86_1_2 nr86_1_2 hbr86_1_2 hsr86_1_2 _ hr99) ?_
    rintro _ F7 w102 hs103 le104 ⟨ar98_0_2, nr98_0_2, rfl, hbr98_0_2, hsr98_0_2⟩
    refine St2 (Ai r98 ar98_0_2 nr98_0_2) hs103 (fun w106 hs107 => ?_)
    refine Tj ?_
    refine AA ?_
    have hn108 := AW h100 hnx59
    exact ⟨m56, Nat.lt_succ_self _, (r98.Op, r98.Value, r98.Kids, r86.1.L, r86.1.At, r86.1.Open, r86.1.Bad, r86.1.Where), F7, ar98_0_2, nr98_0_2, ar86_0_0, nr86_0_0, hn108, hs107.dr0.pk2.pk1.pk2, (((le42.trans le62).trans le91).trans le104), fI, hbr98_0_2, hsr98_0_2, hbr86_0_0, (Tq hsr86_0_0 le104)⟩
   ·refine Ex ?_
    refine AC ?_
    refine AC ?_
    refine AL rfl ?_
    have ho109 := A8 h83 hnx59
    exact .inl ⟨rfl, (s39.1, s39.2.1, s39.2.2.1, s39.2.2.2.1, s39.2.2.2.2.1, s39.2.2.2.2.2.1, s39.2.2.2.2.2.2.1, s39.2.2.2.2.2.2.2), F4, as39_2, ns39_2, as39_3, ns39_3, ho109, hs61, (le42.trans le62), fI, hbs39_2, (Tq hss39_2 le62), hbs39_3, (Tq hss39_3 le62)⟩
 ·rintro f w48 ⟨s47, F3, as47_2, ns47_2, as47_3, ns47_3, rfl, hs49, le50, ⟨_, rfl⟩, hbs47_2, hss47_2, hbs47_3, hss47_3⟩
  have h110 := BT h38
  refine Ad ?_
  refine Sq (Rg [0, 1] ?_)
  refine Ld hs49.at0 ?_
  refine St2 #[(vi s47.1), (vi s47.2.1), (.slice as47_2 s47.2.2.1.length ns47_2)] hs49 (fun w111 hs112 => ?_)
  refine Nt ?_
  refine Rt ?_
  obtain rfl := Ab h110
  exact ⟨rfl, (.agg #[(vi s47.1), (vi s47.2.1), (.slice as47_2 s47.2.2.1.length ns47_2)]), AE (l := [.cell 2 33]) (by kernel_rfl) (vs := [(.agg #[(vi s47.1), (vi s47.2.1), (.slice as47_2 s47.2.2.1.length ns47_2)])]) ⟨b21, 0, rfl, Am (t := 33) (g := true) (s := 3) (by kernel_rfl) hs112.at2 rfl (by decide), trivial⟩, F3, _, _, rfl, hs112.dr0.dr1, (le29.trans le50), ⟨as47_3, ns47_3, as47_2, ns47_2, rfl, rfl, hbs47_3, hss47_3, hbs47_2, hss47_2⟩⟩
structure SY where
 q89 : Aa -> Option (Aa × Expr)
 q146 : Aa -> Option (Aa × Expr)
 q186 : Aa -> Option (Aa × Expr)
 q213 : Aa -> Option (Aa × Expr)
 q227 : Aa -> Option (Aa × Expr)
 q234 : Aa -> Option (Aa × Expr)
 q240 : Aa -> Option (Aa × Expr)
def BL (N : Nat) : Nat -> SY
 | 0 => ⟨fun _ => none, fun _ => none, fun _ => none, fun _ => none, fun _ => none, fun _ => none, fun _ => none⟩
 | k + 1 => ⟨CZ N (BL N k).q146, C2 N (BL N k).q186, B6 N (BL N k).q186 (BL N k).q213, B5 N (BL N k).q227, Da N (BL N k).q234, CY N (BL N k).q240, BA N (BL N k).q89⟩
theorem N0 (N : Nat) : ∀ k, O6 (BL N k).q89 /\ NE (BL N k).q146 /\ Lp (BL N k).q186 /\ Ny (BL N k).q213 /\ Nw (BL N k).q227 /\ Nu (BL N k).q234 /\ Nr (BL N k).q240
 | 0 => ⟨(by unfold O6; intros; rename_i h; cases h), (by unfold NE; intros; rename_i h; cases h), (by unfold Lp; intros; rename_i h; cases h), (by unfold Ny; intros; rename_i h; cases h), (by unfold Nw; intros; rename_i h; cases h), (by unfold Nu; intros; rename_i h; cases h), (by unfold Nr; intros; rename_i h; cases h)⟩
 | k + 1 => by
  have ih := N0 N k
  exact ⟨@H7 N (BL N k).q146 ih.2.1, @H9 N (BL N k).q186 ih.2.2.1, @H8 N (BL N k).q186 ih.2.2.1 (BL N k).q213 ih.2.2.2.1, @HX N (BL N k).q227 ih.2.2.2.2.1, @Iz N (BL N k).q234 ih.2.2.2.2.2.1, @HY N (BL N k).q240 ih.2.2.2.2.2.2, @HZ N (BL N k).q89 ih.1⟩
def Bn (N : Nat) (x0 : Aa) : Option (Aa × Expr) := (BL N N).q89 x0
theorem Fd (N : Nat) {wb w0 : World} {Fb F0 : Mem} {Lf : Own} (bp0 : Nat) (x0 : Aa) (a0_0 : TO) (n0_0 : Nat) (hb0_0 : LC x0.L.length n0_0) (hs0_0 : SlA Ag F0 a0_0 x0.L) (hs0 : HS wb Fb w0 F0 ((some bp0, (.cells #[(.slice a0_0 x0.L.length n0_0), (.int .i64 x0.At), (.int .i64 x0.Open), (.int .i64 x0.Bad), (.int .i64 x0.Where)] 108 (0, 0))) :: Lf)) (r : (Aa × Expr)) (h : Bn N x0 = some r) :
  Calls Tryz.prog 89 ([(.pointer (some ⟨bp0, 0, none⟩))] : List Value).toArray w0 (D4 wb Fb F0 fun F' v L' => ∃ (aq0_0 : TO) (nq0_0 : Nat) (aq1_2 : TO) (nq1_2 : Nat), v = (.agg #[(.int .i64 r.2.Op), (.int .i64 r.2.Value), (.slice aq1_2 r.2.Kids.length nq1_2)]) /\ L' = (some bp0, (.cells #[(.slice aq0_0 r.1.L.length nq0_0), (.int .i64 r.1.At), (.int .i64 r.1.Open), (.int .i64 r.1.Bad), (.int .i64 r.1.Where)] 108 (0, 0))) :: Lf /\ LC r.1.L.length nq0_0 /\ SlA Ag F' aq0_0 r.1.L /\ LC r.2.Kids.length nq1_2 /\ SlA As F' aq1_2 r.2.Kids) := (N0 N N).1 bp0 x0 a0_0 n0_0 hb0_0 hs0_0 hs0 r h
def O3 (sR99 : Expr -> (List Int) -> Option Int) : Prop := ∀ (w0 : World) (F0 : Mem) (hF : TP w0 F0) (x0 : Expr) (a0_2 : TO) (n0_2 : Nat) (hb0_2 : LC x0.Kids.length n0_2) (hs0_2 : SlA As F0 a0_2 x0.Kids) (x1 : (List Int)) (a1_0 : TO) (n1_0 : Nat) (hb1_0 : LC x1.length n1_0) (hs1_0 : SlA Do F0 a1_0 x1) (r : Int), sR99 x0 x1 = some r -> Calls Tryz.prog 99 ([(.agg #[(.int .i64 x0.Op), (.int .i64 x0.Value), (.slice a0_2 x0.Kids.length n0_2)]), (.slice a1_0 x1.length n1_0)] : List Value).toArray w0 (Bd w0 F0 fun F' v => v = (.int .i64 r))
theorem Ee : Au Tryz.prog 99 := fun _ _ => by kernel_rfl
def ND (sR155 : Int -> Expr -> (List Int) -> Option Int) : Prop := ∀ (w0 : World) (F0 : Mem) (hF : TP w0 F0) (x0 : Int) (bz0 : Nat) (z0 : Expr) (az0_2 : TO) (nz0_2 : Nat) (hbz0_2 : LC z0.Kids.length nz0_2) (hsz0_2 : SlA As F0 az0_2 z0.Kids) (hz0 : F0 bz0 = some (.cells #[(.int .i64 z0.Op), (.int .i64 z0.Value), (.slice az0_2 z0.Kids.length nz0_2)] 33 (0, 0))) (bz1 : Nat) (z1 : (List Int)) (az1_0 : TO) (nz1_0 : Nat) (hbz1_0 : LC z1.length nz1_0) (hsz1_0 : SlA Do F0 az1_0 z1) (hz1 : F0 bz1 = some (.cells #[(.slice az1_0 z1.length nz1_0)] 47 (0, 0))) (r : Int), sR155 x0 z0 z1 = some r -> Calls Tryz.prog 155 ([(.int .i64 x0), (.pointer (some ⟨bz0, 0, none⟩)), (.pointer (some ⟨bz1, 0, none⟩))] : List Value).toArray w0 (Bd w0 F0 fun F' v => v = (.int .i64 r))
theorem A0 : Au Tryz.prog 155 := fun _ _ => by kernel_rfl
def GY (N : Nat) (sR99 : Expr -> (List Int) -> Option Int) (x0 : Int) (z0 : Expr) (z1 : (List Int)) : Option Int :=
 (((idx z0.Kids x0).bind fun x31 => ((sR99 x31 z1).bind fun r45 => some r45)).bind fun j26 => some j26)
theorem KF (N : Nat) (sR99 : Expr -> (List Int) -> Option Int) (hsR99 : O3 sR99) (w0 : World) (F0 : Mem) (hF : TP w0 F0) (x0 : Int) (bz0 : Nat) (z0 : Expr) (az0_2 : TO) (nz0_2 : Nat) (hbz0_2 : LC z0.Kids.length nz0_2) (hsz0_2 : SlA As F0 az0_2 z0.Kids) (hz0 : F0 bz0 = some (oc (Ai z0 az0_2 nz0_2) 33)) (bz1 : Nat) (z1 : (List Int)) (az1_0 : TO) (nz1_0 : Nat) (hbz1_0 : LC z1.length nz1_0) (hsz1_0 : SlA Do F0 az1_0 z1) (hz1 : F0 bz1 = some (oc #[(.slice az1_0 z1.length nz1_0)] 47)) (r : Int) (h : GY N sR99 x0 z0 z1 = some r) :
  Calls Tryz.prog 155 ([(vi x0), (pt bz0 0), (pt bz1 0)] : List Value).toArray w0 (Bd w0 F0 fun F' v => v = (vi r)) := by
 have hs0 := Tp hF
 refine Go 12 Tryz.func155 ?_
 refine Sq (Rg [0] ?_)
 refine Vs 1 ?_
 refine Nss ?_
 obtain ⟨j26, hj29, h30⟩ := bind_some h
 refine RD 8 8 [] [] hs0 (fun f w => ∃ (F1 : Mem), HS w0 F0 w F1 [] /\ Tn F0 F1 /\ FI f [] [(4, (vi j26))]) (fun wd21 hw22 => ?_) ?_
 ·refine Dv [0] ?_
  refine Dl 1 (fun _ hq => (hq.1.1 _ _ hz0)) ?_
  refine Dv [2] ?_
  obtain ⟨x31, hx32, h34⟩ := bind_some hj29
  obtain ⟨hi33, hx32'⟩ := Az hx32
  obtain ⟨b35, o36, C37, E38, fz39, rfl, hF41, hE42⟩ := Tx hsz0_2 hx32'
  obtain ⟨ae43_2, ne43_2, hc44, hbe43_2, hse43_2⟩ := (A1 (hE42 _ _ hx32'))
  refine Di 3 hi33 ?_
  refine Dx 4 0 (fun _ hq => hq.1.1 _ _ hF41) hc44 ?_
  refine Dl 5 (fun _ hq => (hq.1.1 _ _ hz1)) ?_
  refine D1 6 ?_
  obtain ⟨r45, hr46, h47⟩ := bind_some h34
  refine DCl Ee hw22 (hsR99 wd21 F0 hw22.pers x31 ae43_2 ne43_2 hbe43_2 hse43_2 z1 az1_0 nz1_0 hbz1_0 hsz1_0 _ hr46) ?_
  rintro _ F2 w49 hs50 le51 rfl
  refine Dv [7] ?_
  obtain rfl := Ab h47
  exact TE (by kernel_rfl) ⟨F2, hs50, le51, fI⟩
 ·rintro f w23 ⟨F1, hs24, le25, ⟨_, rfl⟩⟩
  refine Ad ?_
  refine Rt ?_
  obtain rfl := Ab h30
  exact Re [(vi j26)] hs24 rfl
def Km (N : Nat) (x0 : Bool) : Option Int :=
 (bif x0 then some 1 else some 0)
theorem J6 : Au Tryz.prog 156 := fun _ _ => by kernel_rfl
theorem KW (N : Nat) (w0 : World) (F0 : Mem) (hF : TP w0 F0) (x0 : Bool) (r : Int) (h : Km N x0 = some r) :
  Calls Tryz.prog 156 ([(.bool x0)] : List Value).toArray w0 (Bd w0 F0 fun F' v => v = (vi r)) := by
 have hs0 := Tp hF
 refine Go 4 Tryz.func156 ?_
 refine Sq (Rg [0] ?_)
 refine Vs 1 ?_
 refine Nss ?_
 refine Sq (Rg [0] ?_)
 refine Vs 1 ?_
 refine Nt ?_
 refine Cd h (fun hb21 h22 => ?_) (fun hb21 h23 => ?_)
 ·refine Sq (Rg [0] ?_)
  refine Vs 1 ?_
  refine Nt ?_
  refine Rt ?_
  refine Aj ?_
  obtain rfl := Ab h22
  exact Re [(vi 1)] hs0 rfl
 ·refine Sc ?_
  refine Ad ?_
  refine Sq (Rg [0] ?_)
  refine Vs 1 ?_
  refine Nt ?_
  refine Rt ?_
  obtain rfl := Ab h23
  exact Re [(vi 0)] hs0 rfl
def GO (N : Nat) (x0 : Int) : Option Int :=
 some (max (-1000000) (min 1000000 x0))
theorem Gq : Au Tryz.prog 157 := fun _ _ => by kernel_rfl
theorem GV (N : Nat) (w0 : World) (F0 : Mem) (hF : TP w0 F0) (x0 : Int) (r : Int) (h : GO N x0 = some r) :
  Calls Tryz.prog 157 ([(vi x0)] : List Value).toArray w0 (Bd w0 F0 fun F' v => v = (vi r)) := by
 have hs0 := Tp hF
 refine Go 6 Tryz.func157 ?_
 refine Sq (Rg [0] ?_)
 refine Vs 1 ?_
 refine Nss (Rg [0, 1, 2, 3] ?_)
 refine Vs 4 ?_
 refine Nt ?_
 refine Rt ?_
 obtain rfl := Ab h
 exact Re [(vi (max (-1000000) (min 1000000 x0)))] hs0 rfl
def IJ (N : Nat) (sR155 : Int -> Expr -> (List Int) -> Option Int) (x0 : Expr) (x1 : (List Int)) : Option Int :=
 (bif (x0.Op == 1) then some x0.Value else (bif (x0.Op == 2) then ((idx x1 x0.Value).bind fun x33 => some x33) else (bif (x0.Op == 3) then ((sR155 0 x0 x1).bind fun r56 => some (W64 (1 - r56))) else (bif (x0.Op == 4) then ((sR155 0 x0 x1).bind fun r73 => ((sR155 1 x0 x1).bind fun r81 => some (W64 (r73 * r81)))) else (bif (x0.Op == 5) then ((sR155 0 x0 x1).bind fun r98 => ((sR155 1 x0 x1).bind fun r106 => some (max r98 r106))) else (bif (x0.Op == 6) then ((sR155 0 x0 x1).bind fun r123 => ((sR155 1 x0 x1).bind fun r131 => ((Km N (r123 == r131)).bind fun r139 => some r139))) else (bif (x0.Op == 7) then ((sR155 0 x0 x1).bind fun r156 => ((sR155 1 x0 x1).bind fun r164 => ((Km N (decide (r156 < r164))).bind fun r172 => some r172))) else (bif (x0.Op == 8) then ((sR155 0 x0 x1).bind fun r189 => ((sR155 1 x0 x1).bind fun r197 => ((GO N (W64 (r189 + r197))).bind fun r205 => some r205))) else (bif (x0.Op == 9) then ((sR155 0 x0 x1).bind fun r222 => ((sR155 1 x0 x1).bind fun r230 => ((GO N (W64 (r222 - r230))).bind fun r238 => some r238))) else (bif (x0.Op == 10) then ((sR155 0 x0 x1).bind fun r255 => ((sR155 1 x0 x1).bind fun r263 => ((GO N (W64 (r255 * r263))).bind fun r271 => some r271))) else (bif (x0.Op == 11) then ((sR155 0 x0 x1).bind fun r288 => ((sR155 (W64 (2 - r288)) x0 x1).bind fun r296 => some r296)) else some 0)))))))))))
theorem Mh (N : Nat) (sR155 : Int -> Expr -> (List Int) -> Option Int) (hsR155 : ND sR155) (w0 : World) (F0 : Mem) (hF : TP w0 F0) (x0 : Expr) (a0_2 : TO) (n0_2 : Nat) (hb0_2 : LC x0.Kids.length n0_2) (hs0_2 : SlA As F0 a0_2 x0.Kids) (x1 : (List Int)) (a1_0 : TO) (n1_0 : Nat) (hb1_0 : LC x1.length n1_0) (hs1_0 : SlA Do F0 a1_0 x1) (r : Int) (h : IJ N sR155 x0 x1 = some r) :
  Calls Tryz.prog 99 ([(.agg (Ai x0 a0_2 n0_2)), (.slice a1_0 x1.length n1_0)] : List Value).toArray w0 (Bd w0 F0 fun F' v => v = (vi r)) := by
 have hs0 := Tp hF
 refine Go 86 Tryz.func99 ?_
 refine Sq (Rg [0, 1, 2] ?_)
 refine Bx' 33 (Ai x0 a0_2 n0_2) hs0 (fun b21 w22 hs23 => ?_)
 refine Bx' 47 #[(.slice a1_0 x1.length n1_0)] hs23 (fun b24 w25 hs26 => ?_)
 refine Vs 1 ?_
 refine Nss (Rg [0, 1] ?_)
 refine Vs 2 ?_
 refine Nss ?_
 refine Sq (Rg [0, 1] ?_)
 refine Vs 1 ?_
 refine Ld hs26.at1 ?_
 refine Nt ?_
 refine Bk ?_
 refine Sq (Rg [0, 1] ?_)
 refine Vs 2 ?_
 refine Nt ?_
 refine Cd h (fun hb27 h28 => ?_) (fun hb27 h29 => ?_)
 ·refine Sq (Rg [0, 1, 2] ?_)
  refine Vs 1 ?_
  refine Ld hs26.at1 ?_
  refine Vs 1 ?_
  refine Nt ?_
  refine Rt ?_
  refine Ao ?_
  refine Aj ?_
  obtain rfl := Ab h28
  exact Re [(vi x0.Value)] hs26 rfl
 ·refine Sq (Rg [0, 1] ?_)
  refine Vs 2 ?_
  refine Nt ?_
  refine Cd h29 (fun hb30 h31 => ?_) (fun hb30 h32 => ?_)
  ·refine Sq (Rg [0, 1, 2, 3, 4, 5] ?_)
   refine Ld hs26.at0 ?_
   refine Vs 1 ?_
   refine Ld hs26.at1 ?_
   obtain ⟨x33, hx34, h36⟩ := bind_some h31
   obtain ⟨hi35, hx34'⟩ := Az hx34
   obtain ⟨b37, o38, C39, E40, fz41, rfl, hF43, hE44⟩ := Tx hs1_0 hx34'
   have hc46 := hE44 _ _ hx34'
   refine Ix hi35 ?_
   refine Lx 0 (hs26.pers _ _ hF43) hc46 ?_
   refine Vs 1 ?_
   refine Nt ?_
   refine Rt ?_
   refine Ao ?_
   refine Aj ?_
   obtain rfl := Ab h36
   exact Re [(vi x33)] hs26 rfl
  ·refine Sq (Rg [0, 1] ?_)
   refine Vs 2 ?_
   refine Nt ?_
   refine Cd h32 (fun hb47 h48 => ?_) (fun hb47 h49 => ?_)
   ·refine Sq (Rg [0, 1, 2, 3] ?_)
    refine Vs 1 ?_
    obtain ⟨F1, hs50, le51, hF52⟩ := hs26.fc1
    obtain ⟨F2, hs53, le54, hF55⟩ := hs50.fc0
    obtain ⟨r56, hr57, h58⟩ := bind_some h48
    refine Cl' A0 hs53 (hsR155 w25 F2 hs53.pers 0 b21 x0 a0_2 n0_2 hb0_2 (Tq hs0_2 (le51.trans le54)) (le54 _ _ hF52) b24 x1 a1_0 n1_0 hb1_0 (Tq hs1_0 (le51.trans le54)) hF55 _ hr57) ?_
    rintro _ F3 w60 hs61 le62 rfl
    refine Vs 2 ?_
    refine Nt ?_
    refine Rt ?_
    refine Ao ?_
    refine Aj ?_
    obtain rfl := Ab h58
    exact Re [(vi (W64 (1 - r56)))] hs61 rfl
   ·refine Sq (Rg [0, 1] ?_)
    refine Vs 2 ?_
    refine Nt ?_
    refine Cd h49 (fun hb64 h65 => ?_) (fun hb64 h66 => ?_)
    ·refine Sq (Rg [0, 1, 2, 3, 4, 5] ?_)
     refine Vs 1 ?_
     obtain ⟨F4, hs67, le68, hF69⟩ := hs26.fc1
     obtain ⟨F5, hs70, le71, hF72⟩ := hs67.fc0
     obtain ⟨r73, hr74, h75⟩ := bind_some h65
     refine Cl' A0 hs70 (hsR155 w25 F5 hs70.pers 0 b21 x0 a0_2 n0_2 hb0_2 (Tq hs0_2 (le68.trans le71)) (le71 _ _ hF69) b24 x1 a1_0 n1_0 hb1_0 (Tq hs1_0 (le68.trans le71)) hF72 _ hr74) ?_
     rintro _ F6 w77 hs78 le79 rfl
     refine Vs 1 ?_
     obtain ⟨r81, hr82, h83⟩ := bind_some h75
     refine Cl' A0 hs78 (hsR155 w77 F6 hs78.pers 1 b21 x0 a0_2 n0_2 hb0_2 (Tq hs0_2 ((le68.trans le71).trans le79)) ((le71.trans le79) _ _ hF69) b24 x1 a1_0 n1_0 hb1_0 (Tq hs1_0 ((le68.trans le71).trans le79)) (le79 _ _ hF72) _ hr82) ?_
     rintro _ F7 w85 hs86 le87 rfl
     refine Vs 2 ?_
     refine Nt ?_
     refine Rt ?_
     refine Ao ?_
     refine Aj ?_
     obtain rfl := Ab h83
     exact Re [(vi (W64 (r73 * r81)))] hs86 rfl
    ·refine Sq (Rg [0, 1] ?_)
     refine Vs 2 ?_
     refine Nt ?_
     refine Cd h66 (fun hb89 h90 => ?_) (fun hb89 h91 => ?_)
     ·refine Sq (Rg [0, 1, 2, 3, 4, 5] ?_)
      refine Vs 1 ?_
      obtain ⟨F8, hs92, le93, hF94⟩ := hs26.fc1
      obtain ⟨F9, hs95, le96, hF97⟩ := hs92.fc0
      obtain ⟨r98, hr99, h100⟩ := bind_some h90
      refine Cl' A0 hs95 (hsR155 w25 F9 hs95.pers 0 b21 x0 a0_2 n0_2 hb0_2 (Tq hs0_2 (le93.trans le96)) (le96 _ _ hF94) b24 x1 a1_0 n1_0 hb1_0 (Tq hs1_0 (le93.trans le96)) hF97 _ hr99) ?_
      rintro _ F10 w102 hs103 le104 rfl
      refine Vs 1 ?_
      obtain ⟨r106, hr107, h108⟩ := bind_some h100
      refine Cl' A0 hs103 (hsR155 w102 F10 hs103.pers 1 b21 x0 a0_2 n0_2 hb0_2 (Tq hs0_2 ((le93.trans le96).trans le104)) ((le96.trans le104) _ _ hF94) b24 x1 a1_0 n1_0 hb1_0 (Tq hs1_0 ((le93.trans le96).trans le104)) (le104 _ _ hF97) _ hr107) ?_
      rintro _ F11 w110 hs111 le112 rfl
      refine Vs 2 ?_
      refine Nt ?_
      refine Rt ?_
      refine Ao ?_
      refine Aj ?_
      obtain rfl := Ab h108
      exact Re [(vi (max r98 r106))] hs111 rfl
     ·refine Sq (Rg [0, 1] ?_)
      refine Vs 2 ?_
      refine Nt ?_
      refine Cd h91 (fun hb114 h115 => ?_) (fun hb114 h116 => ?_)
      ·refine Sq (Rg [0, 1, 2, 3, 4, 5, 6] ?_)
       refine Vs 1 ?_
       obtain ⟨F12, hs117, le118, hF119⟩ := hs26.fc1
       obtain ⟨F13, hs120, le121, hF122⟩ := hs117.fc0
       obtain ⟨r123, hr124, h125⟩ := bind_some h115
       refine Cl' A0 hs120 (hsR155 w25 F13 hs120.pers 0 b21 x0 a0_2 n0_2 hb0_2 (Tq hs0_2 (le118.trans le121)) (le121 _ _ hF119) b24 x1 a1_0 n1_0 hb1_0 (Tq hs1_0 (le118.trans le121)) hF122 _ hr124) ?_
       rintro _ F14 w127 hs128 le129 rfl
       refine Vs 1 ?_
       obtain ⟨r131, hr132, h133⟩ := bind_some h125
       refine Cl' A0 hs128 (hsR155 w127 F14 hs128.pers 1 b21 x0 a0_2 n0_2 hb0_2 (Tq hs0_2 ((le118.trans le121).trans le129)) ((le121.trans le129) _ _ hF119) b24 x1 a1_0 n1_0 hb1_0 (Tq hs1_0 ((le118.trans le121).trans le129)) (le129 _ _ hF122) _ hr132) ?_
       rintro _ F15 w135 hs136 le137 rfl
       refine Vs 1 ?_
       obtain ⟨r139, hr140, h141⟩ := bind_some h133
       refine Cl' J6 hs136 (KW N w135 F15 hs136.pers ((r123 == r131)) _ hr140) ?_
       rintro _ F16 w143 hs144 le145 rfl
       refine Vs 1 ?_
       refine Nt ?_
       refine Rt ?_
       refine Ao ?_
       refine Aj ?_
       obtain rfl := Ab h141
       exact Re [(vi r139)] hs144 rfl
      ·refine Sq (Rg [0, 1] ?_)
       refine Vs 2 ?_
       refine Nt ?_
       refine Cd h116 (fun hb147 h148 => ?_) (fun hb147 h149 => ?_)
       ·refine Sq (Rg [0, 1, 2, 3, 4, 5, 6] ?_)
        refine Vs 1 ?_
        obtain ⟨F17, hs150, le151, hF152⟩ := hs26.fc1
        obtain ⟨F18, hs153, le154, hF155⟩ := hs150.fc0
        obtain ⟨r156, hr157, h158⟩ := bind_some h148
        refine Cl' A0 hs153 (hsR155 w25 F18 hs153.pers 0 b21 x0 a0_2 n0_2 hb0_2 (Tq hs0_2 (le151.trans le154)) (le154 _ _ hF152) b24 x1 a1_0 n1_0 hb1_0 (Tq hs1_0 (le151.trans le154)) hF155 _ hr157) ?_
        rintro _ F19 w160 hs161 le162 rfl
        refine Vs 1 ?_
        obtain ⟨r164, hr165, h166⟩ := bind_some h158
        refine Cl' A0 hs161 (hsR155 w160 F19 hs161.pers 1 b21 x0 a0_2 n0_2 hb0_2 (Tq hs0_2 ((le151.trans le154).trans le162)) ((le154.trans le162) _ _ hF152) b24 x1 a1_0 n1_0 hb1_0 (Tq hs1_0 ((le151.trans le154).trans le162)) (le162 _ _ hF155) _ hr165) ?_
        rintro _ F20 w168 hs169 le170 rfl
        refine Vs 1 ?_
        obtain ⟨r172, hr173, h174⟩ := bind_some h166
        refine Cl' J6 hs169 (KW N w168 F20 hs169.pers ((decide (r156 < r164))) _ hr173) ?_
        rintro _ F21 w176 hs177 le178 rfl
        refine Vs 1 ?_
        refine Nt ?_
        refine Rt ?_
        refine Ao ?_
        refine Aj ?_
        obtain rfl := Ab h174
        exact Re [(vi r172)] hs177 rfl
       ·refine Sq (Rg [0, 1] ?_)
        refine Vs 2 ?_
        refine Nt ?_
        refine Cd h149 (fun hb180 h181 => ?_) (fun hb180 h182 => ?_)
        ·refine Sq (Rg [0, 1, 2, 3, 4, 5, 6] ?_)
         refine Vs 1 ?_
         obtain ⟨F22, hs183, le184, hF185⟩ := hs26.fc1
         obtain ⟨F23, hs186, le187, hF188⟩ := hs183.fc0
         obtain ⟨r189, hr190, h191⟩ := bind_some h181
         refine Cl' A0 hs186 (hsR155 w25 F23 hs186.pers 0 b21 x0 a0_2 n0_2 hb0_2 (Tq hs0_2 (le184.trans le187)) (le187 _ _ hF185) b24 x1 a1_0 n1_0 hb1_0 (Tq hs1_0 (le184.trans le187)) hF188 _ hr190) ?_
         rintro _ F24 w193 hs194 le195 rfl
         refine Vs 1 ?_
         obtain ⟨r197, hr198, h199⟩ := bind_some h191
         refine Cl' A0 hs194 (hsR155 w193 F24 hs194.pers 1 b21 x0 a0_2 n0_2 hb0_2 (Tq hs0_2 ((le184.trans le187).trans le195)) ((le187.trans le195) _ _ hF185) b24 x1 a1_0 n1_0 hb1_0 (Tq hs1_0 ((le184.trans le187).trans le195)) (le195 _ _ hF188) _ hr198) ?_
         rintro _ F25 w201 hs202 le203 rfl
         refine Vs 1 ?_
         obtain ⟨r205, hr206, h207⟩ := bind_some h199
         refine Cl' Gq hs202 (GV N w201 F25 hs202.pers ((W64 (r189 + r197))) _ hr206) ?_
         rintro _ F26 w209 hs210 le211 rfl
         refine Vs 1 ?_
         refine Nt ?_
         refine Rt ?_
         refine Ao ?_
         refine Aj ?_
         obtain rfl := Ab h207
         exact Re [(vi r205)] hs210 rfl
        ·refine Sq (Rg [0, 1] ?_)
         refine Vs 2 ?_
         refine Nt ?_
         refine Cd h182 (fun hb213 h214 => ?_) (fun hb213 h215 => ?_)
         ·refine Sq (Rg [0, 1, 2, 3, 4, 5, 6] ?_)
          refine Vs 1 ?_
          obtain ⟨F27, hs216, le217, hF218⟩ := hs26.fc1
          obtain ⟨F28, hs219, le220, hF221⟩ := hs216.fc0
          obtain ⟨r222, hr223, h224⟩ := bind_some h214
          refine Cl' A0 hs219 (hsR155 w25 F28 hs219.pers 0 b21 x0 a0_2 n0_2 hb0_2 (Tq hs0_2 (le217.trans le220)) (le220 _ _ hF218) b24 x1 a1_0 n1_0 hb1_0 (Tq hs1_0 (le217.trans le220)) hF221 _ hr223) ?_
          rintro _ F29 w226 hs227 le228 rfl
          refine Vs 1 ?_
          obtain ⟨r230, hr231, h232⟩ := bind_some h224
          refine Cl' A0 hs227 (hsR155 w226 F29 hs227.pers 1 b21 x0 a0_2 n0_2 hb0_2 (Tq hs0_2 ((le217.trans le220).trans le228)) ((le220.trans le228) _ _ hF218) b24 x1 a1_0 n1_0 hb1_0 (Tq hs1_0 ((le217.trans le220).trans le228)) (le228 _ _ hF221) _ hr231) ?_
          rintro _ F30 w234 hs235 le236 rfl
          refine Vs 1 ?_
          obtain ⟨r238, hr239, h240⟩ := bind_some h232
          refine Cl' Gq hs235 (GV N w234 F30 hs235.pers ((W64 (r222 - r230))) _ hr239) ?_
          rintro _ F31 w242 hs243 le244 rfl
          refine Vs 1 ?_
          refine Nt ?_
          refine Rt ?_
          refine Ao ?_
          refine Aj ?_
          obtain rfl := Ab h240
          exact Re [(vi r238)] hs243 rfl
         ·refine Sq (Rg [0, 1] ?_)
          refine Vs 2 ?_
          refine Nt ?_
          refine Cd h215 (fun hb246 h247 => ?_) (fun hb246 h248 => ?_)
          ·refine Sq (Rg [0, 1, 2, 3, 4, 5, 6] ?_)
           refine Vs 1 ?_
           obtain ⟨F32, hs249, le250, hF251⟩ := hs26.fc1
           obtain ⟨F33, hs252, le253, hF254⟩ := hs249.fc0
           obtain ⟨r255, hr256, h257⟩ := bind_some h247
           refine Cl' A0 hs252 (hsR155 w25 F33 hs252.pers 0 b21 x0 a0_2 n0_2 hb0_2 (Tq hs0_2 (le250.trans le253)) (le253 _ _ hF251) b24 x1 a1_0 n1_0 hb1_0 (Tq hs1_0 (le250.trans le253)) hF254 _ hr256) ?_
           rintro _ F34 w259 hs260 le261 rfl
           refine Vs 1 ?_
           obtain ⟨r263, hr264, h265⟩ := bind_some h257
           refine Cl' A0 hs260 (hsR155 w259 F34 hs260.pers 1 b21 x0 a0_2 n0_2 hb0_2 (Tq hs0_2 ((le250.trans le253).trans le261)) ((le253.trans le261) _ _ hF251) b24 x1 a1_0 n1_0 hb1_0 (Tq hs1_0 ((le250.trans le253).trans le261)) (le261 _ _ hF254) _ hr264) ?_
           rintro _ F35 w267 hs268 le269 rfl
           refine Vs 1 ?_
           obtain ⟨r271, hr272, h273⟩ := bind_some h265
           refine Cl' Gq hs268 (GV N w267 F35 hs268.pers ((W64 (r255 * r263))) _ hr272) ?_
           rintro _ F36 w275 hs276 le277 rfl
           refine Vs 1 ?_
           refine Nt ?_
           refine Rt ?_
           refine Ao ?_
           refine Aj ?_
           obtain rfl := Ab h273
           exact Re [(vi r271)] hs276 rfl
          ·refine Sq (Rg [0, 1] ?_)
           refine Vs 2 ?_
           refine Nt ?_
           refine Cd h248 (fun hb279 h280 => ?_) (fun hb279 h281 => ?_)
           ·refine Sq (Rg [0, 1, 2, 3, 4, 5] ?_)
            refine Vs 2 ?_
            obtain ⟨F37, hs282, le283, hF284⟩ := hs26.fc1
            obtain ⟨F38, hs285, le286, hF287⟩ := hs282.fc0
            obtain ⟨r288, hr289, h290⟩ := bind_some h280
            refine Cl' A0 hs285 (hsR155 w25 F38 hs285.pers 0 b21 x0 a0_2 n0_2 hb0_2 (Tq hs0_2 (le283.trans le286)) (le286 _ _ hF284) b24 x1 a1_0 n1_0 hb1_0 (Tq hs1_0 (le283.trans le286)) hF287 _ hr289) ?_
            rintro _ F39 w292 hs293 le294 rfl
            refine Vs 1 ?_
            obtain ⟨r296, hr297, h298⟩ := bind_some h290
            refine Cl' A0 hs293 (hsR155 w292 F39 hs293.pers ((W64 (2 - r288))) b21 x0 a0_2 n0_2 hb0_2 (Tq hs0_2 ((le283.trans le286).trans le294)) ((le286.trans le294) _ _ hF284) b24 x1 a1_0 n1_0 hb1_0 (Tq hs1_0 ((le283.trans le286).trans le294)) (le294 _ _ hF287) _ hr297) ?_
            rintro _ F40 w300 hs301 le302 rfl
            refine Vs 1 ?_
            refine Nt ?_
            refine Rt ?_
            refine Ao ?_
            refine Aj ?_
            obtain rfl := Ab h298
            exact Re [(vi r296)] hs301 rfl
           ·refine Sc ?_
            refine AA ?_
            refine Ad ?_
            refine Sq (Rg [0] ?_)
            refine Vs 1 ?_
            refine Nt ?_
            refine Rt ?_
            obtain rfl := Ab h281
            exact Re [(vi 0)] hs26 rfl
structure SV where
 q99 : Expr -> (List Int) -> Option Int
 q155 : Int -> Expr -> (List Int) -> Option Int
def LH (N : Nat) : Nat -> SV
 | 0 => ⟨fun _ _ => none, fun _ _ _ => none⟩
 | k + 1 => ⟨IJ N (LH N k).q155, GY N (LH N k).q99⟩
theorem NX (N : Nat) : ∀ k, O3 (LH N k).q99 /\ ND (LH N k).q155
 | 0 => ⟨(by unfold O3; intros; rename_i h; cases h), (by unfold ND; intros; rename_i h; cases h)⟩
 | k + 1 => by
  have ih := NX N k
  exact ⟨@Mh N (LH N k).q155 ih.2, @KF N (LH N k).q99 ih.1⟩
def FU (N : Nat) (x0 : Expr) (x1 : (List Int)) : Option Int := (LH N N).q99 x0 x1
theorem Gr (N : Nat) (w0 : World) (F0 : Mem) (hF : TP w0 F0) (x0 : Expr) (a0_2 : TO) (n0_2 : Nat) (hb0_2 : LC x0.Kids.length n0_2) (hs0_2 : SlA As F0 a0_2 x0.Kids) (x1 : (List Int)) (a1_0 : TO) (n1_0 : Nat) (hb1_0 : LC x1.length n1_0) (hs1_0 : SlA Do F0 a1_0 x1) (r : Int) (h : FU N x0 x1 = some r) :
  Calls Tryz.prog 99 ([(.agg #[(.int .i64 x0.Op), (.int .i64 x0.Value), (.slice a0_2 x0.Kids.length n0_2)]), (.slice a1_0 x1.length n1_0)] : List Value).toArray w0 (Bd w0 F0 fun F' v => v = (.int .i64 r)) := (NX N N).1 w0 F0 hF x0 a0_2 n0_2 hb0_2 hs0_2 x1 a1_0 n1_0 hb1_0 hs1_0 r h





def Dr (N : Nat) (x0 : (List Int)) (x1 : (Int -> Option Bool)) : Int -> Option (Bv Int Int) := fun s24 =>
 (bif (decide (s24 < (x0.length : Int))) then ((idx x0 s24).bind fun x47 => ((x1 x47).bind fun r61 => (bif r61 then some (.ret s24) else some (.next (W64 (s24 + 1)))))) else some (.done s24))
def DQ (N : Nat) (x0 : (List Int)) (x1 : (Int -> Option Bool)) : Option Int :=
 ((Be (Dr N x0 x1) N 0).bind fun o => o.k (fun r => some r) (fun s33 => some (-1)))
theorem Fl : Au Tryz.prog 197 := fun _ _ => by kernel_rfl
theorem FP (N : Nat) (w0 : World) (F0 : Mem) (hF : TP w0 F0) (x0 : (List Int)) (a0_0 : TO) (n0_0 : Nat) (hb0_0 : LC x0.length n0_0) (hs0_0 : SlA Do F0 a0_0 x0) (gx1 : FuncId) (fx1 kx1 : List Value) (x1 : Int -> Option Bool) (hox1 : Au Tryz.prog gx1) (hpx1 : Ov F0 gx1 fx1 kx1 x1) (r : Int) (h : DQ N x0 x1 = some r) :
  Calls Tryz.prog 197 ([(.slice a0_0 x0.length n0_0), (.func (.func gx1) fx1.toArray kx1.toArray)] : List Value).toArray w0 (Bd w0 F0 fun F' v => v = (vi r)) := by
 have hs0 := Tp hF
 refine Go 19 Tryz.func197 ?_
 refine Sq (Rg [0] ?_)
 refine Vs 1 ?_
 refine Nss ?_
 refine Sq (Rg [0, 1, 2] ?_)
 refine Vs 3 ?_
 refine Nt ?_
 obtain ⟨o21, ho22, h23⟩ := bind_some h
 refine Tu (fun f w => ∃ (s33 : Int) (F2 : Mem), o21 = .done s33 /\ HS w0 F0 w F2 [] /\ Tn F0 F2 /\ FI f [] []) ?_ ?_
 ·refine Bk ?_
  refine Tm (by kernel_rfl) (fun m f w => ∃ (s24 : Int) (F1 : Mem), Be (Dr N x0 x1) m s24 = some o21 /\ HS w0 F0 w F1 [] /\ Tn F0 F1 /\ FI f [] [(0, (.slice a0_0 x0.length n0_0)), (1, (.func (.func gx1) fx1.toArray kx1.toArray)), (7, (vi (x0.length : Int))), (8, (vi s24))]) N ⟨0, F0, ho22, hs0, (To _), fI⟩ ?_
  rintro m38 f w25 ⟨s24, F1, hit39, hs26, le27, ⟨_, rfl⟩⟩
  obtain ⟨m40, fl41, rfl, hb42, hnx43⟩ := A5 hit39
  refine Sq (Rg [0] ?_)
  refine Vs 1 ?_
  refine Nss ?_
  refine Cd hb42 (fun hb44 h45 => ?_) (fun hb44 h46 => ?_)
  ·refine Sc ?_
   refine Ad ?_
   refine Sq ?_
   refine Bk ?_
   refine Sq (Rg [0, 1] ?_)
   refine Vs 2 ?_
   refine Nss (Rg [0, 1, 2, 3, 4, 5] ?_)
   refine Vs 3 ?_
   obtain ⟨x47, hx48, h50⟩ := bind_some h45
   obtain ⟨hi49, hx48'⟩ := Az hx48
   obtain ⟨b51, o52, C53, E54, fz55, rfl, hF57, hE58⟩ := Tx (Tq hs0_0 le27) hx48'
   have hc60 := hE58 _ _ hx48'
   refine Ix hi49 ?_
   refine Lx 0 (hs26.pers _ _ hF57) hc60 ?_
   obtain ⟨r61, hr62, h63⟩ := bind_some h50
   refine Cq hox1 hs26 (hpx1 w25 F1 x47 _ le27 hs26.pers hr62) ?_
   rintro _ F3 w65 hs66 le67 rfl
   refine Nt ?_
   refine Cd h63 (fun hb69 h70 => ?_) (fun hb69 h71 => ?_)
   ·refine Sq (Rg [0, 1] ?_)
    refine Vs 2 ?_
    refine Nt ?_
    refine Rt ?_
    refine Ao ?_
    refine Aj ?_
    refine Aj ?_
    refine Ao ?_
    have hret := B9 h70 hnx43
    subst hret
    refine .inr ?_
    refine Aj ?_
    obtain rfl := Ab h23
    exact Re [(vi s24)] hs66 rfl
   ·refine Sc ?_
    refine AA ?_
    refine Ad ?_
    refine Rg [0, 1] ?_
    refine Vs 2 ?_
    refine Tj ?_
    have hn72 := AW h71 hnx43
    exact ⟨m40, Nat.lt_succ_self _, (W64 (s24 + 1)), F3, hn72, hs66, (le27.trans le67), fI⟩
  ·refine Ex ?_
   refine AC ?_
   refine AC ?_
   refine AL rfl ?_
   have ho73 := A8 h46 hnx43
   exact .inl ⟨rfl, s24, F1, ho73, hs26, le27, fI⟩
 ·rintro f w34 ⟨s33, F2, rfl, hs35, le36, ⟨_, rfl⟩⟩
  have h74 := BT h23
  refine Ad ?_
  refine Sq (Rg [0] ?_)
  refine Vs 1 ?_
  refine Nt ?_
  refine Rt ?_
  obtain rfl := Ab h74
  exact Re [(vi (-1))] hs35 rfl
def Ds (N : Nat) (x0 : (List Int)) (x1 : (Int -> Option Bool)) : Option Bool :=
 ((DQ N x0 x1).bind fun r21 => some (decide (r21 >= 0)))
theorem Ez : Au Tryz.prog 153 := fun _ _ => by kernel_rfl
theorem EU (N : Nat) (w0 : World) (F0 : Mem) (hF : TP w0 F0) (x0 : (List Int)) (a0_0 : TO) (n0_0 : Nat) (hb0_0 : LC x0.length n0_0) (hs0_0 : SlA Do F0 a0_0 x0) (gx1 : FuncId) (fx1 kx1 : List Value) (x1 : Int -> Option Bool) (hox1 : Au Tryz.prog gx1) (hpx1 : Ov F0 gx1 fx1 kx1 x1) (r : Bool) (h : Ds N x0 x1 = some r) :
  Calls Tryz.prog 153 ([(.slice a0_0 x0.length n0_0), (.func (.func gx1) fx1.toArray kx1.toArray)] : List Value).toArray w0 (Bd w0 F0 fun F' v => v = (.bool r)) := by
 have hs0 := Tp hF
 refine Go 9 Tryz.func153 ?_
 refine Sq (Rg [0] ?_)
 refine Vs 1 ?_
 refine Nss (Rg [0, 1, 2, 3, 4] ?_)
 refine Vs 2 ?_
 obtain ⟨r21, hr22, h23⟩ := bind_some h
 refine Cl' Fl hs0 (FP N w0 F0 hs0.pers x0 a0_0 n0_0 hb0_0 hs0_0 gx1 fx1 kx1 x1 hox1 (fun w1 F1 y0 r le1 pe1 hr1 => hpx1 w1 F1 y0 r le1 pe1 hr1) _ hr22) ?_
 rintro _ F1 w25 hs26 le27 rfl
 refine Vs 2 ?_
 refine Nt ?_
 refine Rt ?_
 obtain rfl := Ab h23
 exact Re [(.bool (decide (r21 >= 0)))] hs26 rfl
def D0 (N : Nat) (x0 : Int) : Option Bool :=
 some ((decide (x0 < 0)) || (decide (x0 > 1000000)))
theorem Hb : Au Tryz.prog 154 := fun _ _ => by kernel_rfl
theorem HO (N : Nat) (w0 : World) (F0 : Mem) (hF : TP w0 F0) (x0 : Int) (r : Bool) (h : D0 N x0 = some r) :
  Calls Tryz.prog 154 ([(vi x0)] : List Value).toArray w0 (Bd w0 F0 fun F' v => v = (.bool r)) := by
 have hs0 := Tp hF
 refine Go 9 Tryz.func154 ?_
 refine Sq (Rg [0] ?_)
 refine Vs 1 ?_
 refine Nss (Rg [0, 1, 2, 3, 4, 5, 6] ?_)
 refine Tt (fun f w => ∃ (F1 : Mem), HS w0 F0 w F1 [] /\ Tn F0 F1 /\ FI f [] [(2, (.bool ((decide (x0 < 0)) || (decide (x0 > 1000000)))))]) ?_ ?_
 ·refine Vs 3 ?_
  refine Ts (decide (x0 < 0)) (fun hb26 => ?_) (fun hb26 => ?_)
  ·refine Ss hb26 2 ?_
   refine Pk1 hb26 ?_
   refine Vs 1 ?_
   exact Tj ⟨rfl, F0, hs0, (To _), (fJ ⟨(congrArg Value.bool (Fk hb26 rfl)), trivial⟩)⟩
  ·refine Vgs hb26 2 ?_
   refine Pk0 hb26 ?_
   refine Vs 1 ?_
   exact Tj ⟨rfl, F0, hs0, (To _), (fJ ⟨(congrArg Value.bool (B7 hb26 rfl)), trivial⟩)⟩
 ·rintro f w21 ⟨F1, hs22, le23, ⟨_, rfl⟩⟩
  refine Ad ?_
  refine Rt ?_
  obtain rfl := Ab h
  exact Re [(.bool ((decide (x0 < 0)) || (decide (x0 > 1000000))))] hs22 rfl
def Gz (N : Nat) (x0 : (List Int)) : Option Bool :=
 ((bif ((x0.length : Int) == 14) then ((Ds N x0 (fun y0 => D0 N y0)).bind fun r32 => some (!r32)) else some false).bind fun j24 => some j24)
theorem Im : Au Tryz.prog 98 := fun _ _ => by kernel_rfl
theorem Jd (N : Nat) (w0 : World) (F0 : Mem) (hF : TP w0 F0) (x0 : (List Int)) (a0_0 : TO) (n0_0 : Nat) (hb0_0 : LC x0.length n0_0) (hs0_0 : SlA Do F0 a0_0 x0) (r : Bool) (h : Gz N x0 = some r) :
  Calls Tryz.prog 98 ([(.slice a0_0 x0.length n0_0)] : List Value).toArray w0 (Bd w0 F0 fun F' v => v = (.bool r)) := by
 have hs0 := Tp hF
 refine Go 11 Tryz.func98 ?_
 refine Sq (Rg [0] ?_)
 refine Vs 1 ?_
 refine Nss (Rg [0, 1, 2, 3, 4, 5, 6, 7, 8] ?_)
 obtain ⟨j24, hj27, h28⟩ := bind_some h
 refine Tt (fun f w => ∃ (F1 : Mem), HS w0 F0 w F1 [] /\ Tn F0 F1 /\ FI f [] [(2, (.bool j24))]) ?_ ?_
 ·refine Vs 4 ?_
  refine Sp hj27 (fun hb29 h30 => ?_) (fun hb29 h31 => ?_)
  ·refine Vgs hb29 1 ?_
   obtain ⟨r32, hr33, h34⟩ := bind_some h30
   refine Cg hb29 Ez hs0 (EU N w0 F0 hs0.pers x0 a0_0 n0_0 hb0_0 hs0_0 154 [] [] (fun y0 => D0 N y0) Hb (fun w1 F1 y0 r le1 pe1 hr1 => HO N w1 F1 pe1  y0  r hr1) _ hr33) ?_
   rintro _ F2 w36 hs37 le38 rfl
   refine Vgs hb29 1 ?_
   refine Pk1 hb29 ?_
   refine Vs 1 ?_
   obtain rfl := Ab h34
   exact Tj ⟨rfl, F2, hs37, le38, fI⟩
  ·refine Ss hb29 3 ?_
   refine Pk0 hb29 ?_
   refine Vs 1 ?_
   obtain rfl := Ab h31
   exact Tj ⟨rfl, F0, hs0, (To _), fI⟩
 ·rintro f w21 ⟨F1, hs22, le23, ⟨_, rfl⟩⟩
  refine Ad ?_
  refine Rt ?_
  obtain rfl := Ab h28
  exact Re [(.bool j24)] hs22 rfl

def zE : Expr := ⟨0, 0, []⟩
def hold (n : Int) : Int := max (-1000000) (min 1000000 n)
def SU (b : Bool) : Int := if b then 1 else 0
def vop (op v fv : Int) (l : List Int) : Int :=
 if op = 1 then v else if op = 2 then fv else if op = 3 then 1 - l[0]! else if op = 4 then min l[0]! l[1]! else if op = 5 then max l[0]! l[1]! else if op = 6 then SU (l[0]! == l[1]!)
 else if op = 7 then SU (decide (l[0]! < l[1]!)) else if op = 8 then hold (l[0]! + l[1]!) else if op = 9 then hold (l[0]! - l[1]!) else if op = 10 then hold (l[0]! * l[1]!)
 else if l[0]! = 1 then l[1]! else l[2]!
def val (f : List Int) (e : Expr) : Int := match e with
 | ⟨op, v, ks⟩ => vop op v f[v.toNat]! (ks.map fun x => val f x)
section
variable {N : Nat} {f : List Int}
end
def PS (Lr : List An) (i : Nat) (o : Int) : Ac := ⟨Lr.drop i, o⟩
def RB (Lf : List Af) (i : Nat) (o e w : Int) : Aa := ⟨Lf, (i : Int), o, e, w⟩
abbrev RS (Lf : List Af) (i : Nat) (o : Int) : Aa := RB Lf i o 0 0
def Se (Lf : List Af) (i : Nat) (t : TN) : Bool := match Lf[i]? with
 | some b => seeF b t
 | none => false
def atI (Lf : List Af) (i : Nat) : Int := match Lf[i]? with
 | some b => b.At
 | none => 0
section
variable {N n : Nat} {Lr : List An} {Lf : List Af} (T : IB n Lr Lf)
include T
theorem IB.hd {i : Nat} (hi : i < n) : ∃ a b, Lr[i]? = some a /\ Lf[i]? = some b /\ idx (Lr.drop i) 0 = some a /\ idx Lf (i : Int) = some b /\ ((O2 a b /\ i + 1 < n) \/ (Qe a b /\ i + 1 = n)) /\ a.at_ = b.At := by
 have h1 : i < Lr.length := by have := T.lr; omega
 have h2 : i < Lf.length := by have := T.lf; omega
 refine ⟨Lr[i], Lf[i], List.getElem?_eq_getElem h1, List.getElem?_eq_getElem h2, ?_, Ed h2, ?_, ?_⟩
 ·show idx (Lr.drop i) ((0 : Nat) : Int) = _
  rw [JW, List.getElem?_drop, Nat.add_zero, List.getElem?_eq_getElem h1]
 ·by_cases h : i + 1 < n
  ·exact .inl ⟨T.c i h1 h2 h, h⟩
  ·exact .inr ⟨T.e i h1 h2 (by omega), by omega⟩
 ·by_cases h : i + 1 < n
  ·exact (T.c i h1 h2 h).at_
  ·exact (T.e i h1 h2 (by omega)).at_
theorem IB.see {i : Nat} {a : An} (ha : Lr[i]? = some a) (hi : i < n) {t : TN} (ht : t ≠ [10]) : seeR a t = Se Lf i t := by
 obtain ⟨a', b, h1, h2, _, _, h5, _⟩ := T.hd hi
 rw [h1] at ha; cases ha
 unfold Se
 rw [h2]
 rcases h5 with ⟨h, _⟩ | ⟨h, _⟩
 ·exact h.see ht
 ·rw [h.seeR]; exact (h.seeF t).symm
theorem IB.lt {i : Nat} {t : TN} (hi : i < n) (h : Se Lf i t = true) : i + 1 < n := by
 obtain ⟨a, b, _, h2, _, _, h5, _⟩ := T.hd hi
 rcases h5 with ⟨_, h5⟩ | ⟨h5, _⟩
 ·exact h5
 ·unfold Se at h; rw [h2] at h; simp only [h5.seeF] at h; cases h
theorem LL {i : Nat} (hi : i < n) (o : Int) (t : TN) {a : An} (ha : Lr[i]? = some a) : AO N (PS Lr i o) t = some (seeR a t) := by
 obtain ⟨a', b, h1, _, h3, _, _, _⟩ := T.hd hi
 rw [h1] at ha; cases ha
 unfold AO PS seeR
 simp only [h3, Option.bind_some]
 cases h2 : (a.kind_ == 2) <;> cases h3 : (a.kind_ == 3) <;> simp
theorem QB {i : Nat} (hi : i < n) (o : Int) {t : TN} (ht : t ≠ [10]) : AO N (PS Lr i o) t = some (Se Lf i t) := by
 obtain ⟨a, b, h1, _⟩ := T.hd hi
 rw [LL T hi o t h1, T.see h1 hi ht]
theorem Ej {i : Nat} (hi : i < n) (o e w : Int) (t : TN) : AH N (RB Lf i o e w) t = some (Se Lf i t) := by
 obtain ⟨a, b, _, h2, _, h4, _, _⟩ := T.hd hi
 unfold AH RB Se
 simp only [h4, Option.bind_some, h2]
 unfold seeF
 cases hk2 : (b.Kind == 2) <;> cases hk3 : (b.Kind == 3) <;> simp
theorem NP {i : Nat} (hi : i < n) : sub (Lr.drop i) 1 ((Lr.drop i).length : Int) = some (Lr.drop (i + 1)) := by
 have := T.lr
 unfold sub
 rw [if_pos ⟨by omega, by rw [List.length_drop]; omega, by omega⟩, Int.toNat_natCast, List.take_length]
 show some (List.drop 1 (List.drop i Lr)) = _
 rw [List.drop_drop, Nat.add_comm]
theorem Jg {i : Nat} (hi : i < n) (o : Int) (t : TN) {a : An} (ha : Lr[i]? = some a) : Aw N (PS Lr i o) t = some (bif seeR a t then (PS Lr (i + 1) o, true) else (PS Lr i o, false)) := by
 unfold Aw
 rw [LL T hi o t ha, Option.bind_some]
 cases seeR a t with
 | false => rfl
 | true =>
  simp only [Bool.not_true, cond_false, cond_true]
  rw [show (PS Lr i o).l_ = Lr.drop i from rfl, NP T hi]; rfl
theorem Eb {i : Nat} (hi : i < n) (o : Int) {t : TN} (ht : t ≠ [10]) : Aw N (PS Lr i o) t = some (bif Se Lf i t then (PS Lr (i + 1) o, true) else (PS Lr i o, false)) := by
 obtain ⟨a, b, h1, _⟩ := T.hd hi
 rw [Jg T hi o t h1, T.see h1 hi ht]
theorem Jw {i : Nat} (o e w : Int) : A2 N (RS Lf i o) e w = some (RB Lf i o e w) := rfl
theorem W1 {i : Nat} (hi : i < n) : W64 ((i : Int) + 1) = ((i + 1 : Nat) : Int) := by
 have := T.small
 exact Dm (by omega)
theorem Gn {i : Nat} (hi : i < n) (o : Int) (t : TN) : AD N (RS Lf i o) t = some (bif Se Lf i t then RS Lf (i + 1) o else RB Lf i o 60 (atI Lf i)) := by
 obtain ⟨a, b, _, h2, _, h4, _, _⟩ := T.hd hi
 unfold AD
 rw [show ((RS Lf i o).Bad != 0) = false from rfl, cond_false, Ej T hi, Option.bind_some]
 have e : (RS Lf i o).At = (i : Int) := rfl
 have e2 : (RS Lf i o).L = Lf := rfl
 cases hs : Se Lf i t with
 | true => simp only [Bool.not_true, cond_false, cond_true, e, W1 T hi]; rfl
 | false =>
  simp only [Bool.not_false, cond_true, cond_false, e, e2, h4, Option.bind_some]
  rw [Jw T]
  unfold atI
  rw [h2]; rfl
theorem Ev {i : Nat} {o e w : Int} (he : e ≠ 0) (t : TN) : AD N (RB Lf i o e w) t = some (RB Lf i o e w) := by
 unfold AD
 rw [show ((RB Lf i o e w).Bad != 0) = true by show (e != 0) = true; simpa using he]; rfl
theorem FF {i : Nat} (hi : i < n) (o : Int) {t : TN} (ht : t ≠ [10]) : AG N (PS Lr i o) t = some (bif Se Lf i t then .inr (PS Lr (i + 1) o) else .inl ⟨60, atI Lf i⟩) := by
 obtain ⟨a, b, h1, h2, h3, h4, _, h6⟩ := T.hd hi
 unfold AG
 rw [Eb T hi o ht, Option.bind_some]
 cases hs : Se Lf i t with
 | true => rfl
 | false =>
  simp only [cond_false, Bool.not_false, cond_true]
  rw [show (PS Lr i o).l_ = Lr.drop i from rfl, h3, Option.bind_some]
  unfold atI
  rw [h2, h6]; rfl
theorem Pl {i : Nat} (hi : i < n) {o : Int} (h0 : 0 <= o) (h32 : o <= 32) : BV N (PS Lr i o) = some (bif Se Lf i [40] then (if o = 32 then .inl ⟨2, atI Lf i⟩ else .inr (PS Lr (i + 1) (o + 1))) else .inl ⟨60, atI Lf i⟩) := by
 obtain ⟨a, b, h1, h2, h3, h4, _, h6⟩ := T.hd hi
 unfold BV
 rw [show (PS Lr i o).l_ = Lr.drop i from rfl, h3, Option.bind_some, QB T hi o (by decide), Option.bind_some, FF T hi o (by decide)]
 have ea : a.at_ = atI Lf i := by unfold atI; rw [h2, h6]
 cases hs : Se Lf i [40] with
 | false => rfl
 | true =>
  simp only [cond_true, Option.bind_some]
  rw [show (PS Lr i o).open_ = o from rfl]
  by_cases h : o = 32
  ·rw [if_pos h, show (o == 32) = true by simpa using h, cond_true, ea]; rfl
  ·rw [if_neg h, show (o == 32) = false by simpa using h, cond_false]
   simp only [sk]
   rw [show (PS Lr (i + 1) o).open_ = o from rfl, KK (by omega) (by omega)]; rfl
theorem QC {i : Nat} (hi : i < n) {o : Int} (h0 : 0 <= o) (h32 : o <= 32) : BF N (RS Lf i o) = some (bif Se Lf i [40] then (if o = 32 then RB Lf i 33 2 (atI Lf i) else RS Lf (i + 1) (o + 1)) else RB Lf i (o + 1) 60 (atI Lf i)) := by
 obtain ⟨a, b, h1, h2, h3, h4, _, h6⟩ := T.hd hi
 unfold BF
 have ea : b.At = atI Lf i := by unfold atI; rw [h2]
 have e : (RS Lf i o).At = (i : Int) := rfl
 have e2 : (RS Lf i o).L = Lf := rfl
 have e3 : (RS Lf i o).Open = o := rfl
 rw [show ((RS Lf i o).Bad == 0) = true from rfl, cond_true, Ej T hi, Option.bind_some, e3]
 have ew : W64 (o + 1) = o + 1 := KK (by omega) (by omega)
 cases hs : Se Lf i [40] with
 | false =>
  simp only [cond_false, Option.bind_some]
  show ((AD N (RS Lf i o) [40]).bind _) = _
  rw [Gn T hi, hs]
  simp only [cond_false, Option.bind_some]
  show some (RB Lf i (W64 (o + 1)) 60 (atI Lf i)) = _
  rw [ew]
 | true =>
  simp only [cond_true, Option.bind_some]
  by_cases h : o = 32
  ·rw [if_pos h, show (o == 32) = true by simpa using h, cond_true, e, e2, h4]
   simp only [Option.bind_some]
   rw [Jw T]
   simp only [Option.bind_some]
   show ((AD N (RB Lf i o 2 b.At) [40]).bind _) = _
   rw [Ev T (by decide), Option.bind_some, ea]
   show some (RB Lf i (W64 (o + 1)) 2 (atI Lf i)) = _
   rw [ew, h]; rfl
  ·rw [if_neg h, show (o == 32) = false by simpa using h, cond_false]
   simp only [Option.bind_some]
   show ((AD N (RS Lf i o) [40]).bind _) = _
   rw [Gn T hi, hs]
   simp only [cond_true, Option.bind_some]
   show some (RB Lf (i + 1) (W64 (o + 1)) 0 0) = _
   rw [ew]
theorem Pk {i : Nat} (hi : i < n) {o : Int} (h0 : 0 <= o) (h32 : o <= 33) : BU N (PS Lr i o) = some (bif Se Lf i [41] then .inr (PS Lr (i + 1) (o - 1)) else .inl ⟨60, atI Lf i⟩) := by
 unfold BU
 rw [FF T hi o (by decide), Option.bind_some]
 cases hs : Se Lf i [41] with
 | false => rfl
 | true =>
  simp only [cond_true, sk]
  rw [show (PS Lr (i + 1) o).open_ = o from rfl, KK (by omega) (by omega)]; rfl
theorem QA {i : Nat} (hi : i < n) {o : Int} (h0 : 0 <= o) (h32 : o <= 33) : BE N (RS Lf i o) = some (bif Se Lf i [41] then RS Lf (i + 1) (o - 1) else RB Lf i (o - 1) 60 (atI Lf i)) := by
 unfold BE
 rw [Gn T hi]
 have ew : W64 (o - 1) = o - 1 := KK (by omega) (by omega)
 cases hs : Se Lf i [41] with
 | false =>
  show some (RB Lf i (W64 (o - 1)) 60 (atI Lf i)) = _
  rw [ew]; rfl
 | true =>
  show some (RB Lf (i + 1) (W64 (o - 1)) 0 0) = _
  rw [ew]; rfl
theorem NR {i : Nat} {o e w : Int} (he : e ≠ 0) : ∃ o', BE N (RB Lf i o e w) = some (RB Lf i o' e w) := by
 unfold BE
 rw [Ev T he]
 exact ⟨_, rfl⟩
theorem Qy {i : Nat} {o e w : Int} (he : e ≠ 0) : ∃ o', BF N (RB Lf i o e w) = some (RB Lf i o' e w) := by
 unfold BF
 rw [show ((RB Lf i o e w).Bad == 0) = false by show (e == 0) = false; simpa using he, cond_false]
 simp only [Option.bind_some, cond_false]
 show ∃ o', ((AD N (RB Lf i o e w) [40]).bind _) = some (RB Lf i o' e w)
 rw [Ev T he]
 exact ⟨_, rfl⟩
end
section
variable {N : Nat} {Lf : List Af} {i : Nat} {o e w : Int}
theorem P3 (he : e ≠ 0) (k : Nat) : (BL N (k + 1)).q240 (RB Lf i o e w) = some (RB Lf i o e w, zE) := by
 show BA N (BL N k).q89 (RB Lf i o e w) = _
 unfold BA
 rw [show ((RB Lf i o e w).Bad != 0) = true by show (e != 0) = true; simpa using he]; rfl
theorem GE {ρ : Type} {body : (Int × Int × List Expr × List Af × Int × Int × Int × Int) -> Option (Bv ρ (Int × Int × List Expr × List Af × Int × Int × Int × Int))} {s : Int × Int × List Expr × List Af × Int × Int × Int × Int}
  (hb : body s = some (.done s)) (hN : 0 < N) : Be body N s = some (.done s) := by
 obtain ⟨m, rfl⟩ : ∃ m, N = m + 1 := ⟨N - 1, by omega⟩
 rw [Be, hb]
theorem e0 (he : e ≠ 0) : (e == 0) = false := by simpa using he
theorem PZ (hN : 0 < N) (he : e ≠ 0) (k : Nat) : (BL N (k + 2)).q234 (RB Lf i o e w) = some (RB Lf i o e w, zE) := by
 show CY N (BL N (k + 1)).q240 (RB Lf i o e w) = _
 unfold CY
 rw [P3 he, Option.bind_some, GE (by unfold BH; simp only [RB, e0 he]; rfl) hN]; rfl
theorem QT (hN : 0 < N) (he : e ≠ 0) (k : Nat) : (BL N (k + 3)).q227 (RB Lf i o e w) = some (RB Lf i o e w, zE) := by
 show Da N (BL N (k + 2)).q234 (RB Lf i o e w) = _
 unfold Da
 rw [PZ hN he, Option.bind_some, GE (by unfold BN; simp only [RB, e0 he]; rfl) hN]; rfl
theorem PY (hN : 0 < N) (he : e ≠ 0) (k : Nat) : (BL N (k + 4)).q213 (RB Lf i o e w) = some (RB Lf i o e w, zE) := by
 show B5 N (BL N (k + 3)).q227 (RB Lf i o e w) = _
 unfold B5
 rw [QT hN he, Option.bind_some]
 show (((bif (e == 0) then _ else some false).bind _)) = _
 rw [e0 he]; rfl
theorem P4 (hN : 0 < N) (he : e ≠ 0) (k : Nat) : (BL N (k + 5)).q186 (RB Lf i o e w) = some (RB Lf i o e w, zE) := by
 show B6 N (BL N (k + 4)).q186 (BL N (k + 4)).q213 (RB Lf i o e w) = _
 unfold B6
 show (((bif (e == 0) then _ else some false).bind _)) = _
 rw [e0 he, cond_false, Option.bind_some, cond_false, PY hN he]; rfl
theorem P5 (hN : 0 < N) (he : e ≠ 0) (k : Nat) : (BL N (k + 6)).q146 (RB Lf i o e w) = some (RB Lf i o e w, zE) := by
 show C2 N (BL N (k + 5)).q186 (RB Lf i o e w) = _
 unfold C2
 rw [P4 hN he, Option.bind_some, GE (by unfold BJ; simp only [RB, e0 he]; rfl) hN]; rfl
theorem MW (hN : 0 < N) (he : e ≠ 0) (k : Nat) : (BL N (k + 7)).q89 (RB Lf i o e w) = some (RB Lf i o e w, zE) := by
 show CZ N (BL N (k + 6)).q146 (RB Lf i o e w) = _
 unfold CZ
 rw [P5 hN he, Option.bind_some, GE (by unfold BI; simp only [RB, e0 he]; rfl) hN]; rfl
end
inductive Out (n : Nat) (Lr : List An) (Lf : List Af) (i : Nat) (o : Int) : (Ak ⊕ (Ac × Expr)) -> (Aa × Expr) -> Prop
 | ok (j : Nat) (x : Expr) (h1 : i < j) (h2 : j < n) (hx : Ht 10 (j - i) x) : Out n Lr Lf i o (.inr (PS Lr j o, x)) (RS Lf j o, x)
 | err (e w : Int) (j : Nat) (o' : Int) (x : Expr) (he : e ≠ 0) (hj : j < n) : Out n Lr Lf i o (.inl ⟨e, w⟩) (RB Lf j o' e w, x)
def Agr (n : Nat) (Lr : List An) (Lf : List Af) (c K : Nat) (f : Ac -> Option (Ak ⊕ (Ac × Expr))) (g : Aa -> Option (Aa × Expr)) : Prop :=
 ∀ (i : Nat) (o : Int), i < n -> 0 <= o -> o <= 32 -> 8 * (n - i) + c <= K -> ∃ p r, f (PS Lr i o) = some p /\ g (RS Lf i o) = some r /\ Out n Lr Lf i o p r
abbrev St : Type := Int × Int × List Expr × List Af × Int × Int × Int × Int
structure Q8 (n : Nat) (Lf : List Af) (Ar : Nat -> Option Int) (g : Aa -> Option (Aa × Expr)) (B : St -> Option (Bv (Aa × Expr) St)) : Prop where
 bad : ∀ (op v : Int) (ks : List Expr) (L : List Af) (j o e w : Int), e ≠ 0 -> B (op, v, ks, L, j, o, e, w) = some (.done (op, v, ks, L, j, o, e, w))
 no : ∀ (op v : Int) (ks : List Expr) (j : Nat) (o : Int), j < n -> Ar j = none -> B (op, v, ks, Lf, (j : Int), o, 0, 0) = some (.done (op, v, ks, Lf, (j : Int), o, 0, 0))
 yes : ∀ (op v : Int) (ks : List Expr) (j : Nat) (o c : Int), j < n -> Ar j = some c -> B (op, v, ks, Lf, (j : Int), o, 0, 0) = (g (RS Lf (j + 1) o)).bind fun r => some (.next (c, 0, [⟨op, v, ks⟩, r.2], r.1.L, r.1.At, r.1.Open, r.1.Bad, r.1.Where))
section
variable {N n : Nat} {Lr : List An} {Lf : List Af} (T : IB n Lr Lf)
include T
theorem GT (hN : n + 2 <= N) {c K : Nat} {f : Ac -> Option (Ak ⊕ (Ac × Expr))} {g : Aa -> Option (Aa × Expr)} (hfg : Agr n Lr Lf c K f g)
  {ops : List (TN × Int)} {Ar : Nat -> Option Int} (hops : ∀ i a, i < n -> Lr[i]? = some a -> (K0 ops a.text_ && seeR a a.text_) = (Ar i).isSome /\ ∀ z, Ar i = some z -> GB ops a.text_ 0 = z) (hlt : ∀ i, i < n -> (Ar i).isSome = true -> i + 1 < n)
  {B : Aa × Expr -> St -> Option (Bv (Aa × Expr) St)} (hB : ∀ r, Q8 n Lf Ar g (B r)) {i : Nat} {o : Int} (hi : i < n) (h0 : 0 <= o) (h32 : o <= 32) (hK : 8 * (n - i) + c <= K) :
  ∃ p r, BB N (PS Lr i o) f ops = some p /\
   ((g (RS Lf i o)).bind fun r26 => ((Be (B r26) N (r26.2.Op, r26.2.Value, r26.2.Kids, r26.1.L, r26.1.At, r26.1.Open, r26.1.Bad, r26.1.Where)).bind fun q => q.k (fun r => some r) (fun s49 => some (({ L := s49.2.2.2.1, At := s49.2.2.2.2.1, Open := s49.2.2.2.2.2.1, Bad := s49.2.2.2.2.2.2.1, Where := s49.2.2.2.2.2.2.2 } : Aa), ({ Op := s49.1, Value := s49.2.1, Kids := s49.2.2.1 } : Expr))))) = some r /\ Out n Lr Lf i o p r := by
 obtain ⟨p0, r0, e1, e2, h⟩ := hfg i o hi h0 h32 hK
 unfold BB
 rw [e1, e2]
 simp only [Option.bind_some]
 cases h with
 | err e w j o' x he hj =>
  refine ⟨.inl ⟨e, w⟩, (RB Lf j o' e w, x), rfl, ?_, .err e w j o' x he hj⟩
  have hd := GE (N := N) ((hB (RB Lf j o' e w, x)).bad x.Op x.Value x.Kids Lf (j : Int) o' e w he) (by omega)
  rw [show Be (B (RB Lf j o' e w, x)) N (x.Op, x.Value, x.Kids, (RB Lf j o' e w).L, (RB Lf j o' e w).At, (RB Lf j o' e w).Open, (RB Lf j o' e w).Bad, (RB Lf j o' e w).Where) = _ from hd]
  cases x; rfl
 | ok j x h1 h2 hx =>
  simp only [sk]
  obtain ⟨o1, o2, r1, r2, hR⟩ := LU (b1 := Bx N (PS Lr i o) f ops (PS Lr j o, x)) (b2 := B (RS Lf j o, x))
   (fun m s t => ∃ (q : Nat) (op v : Int) (ks : List Expr), m = n - q /\ i < q /\ q < n /\ Ht 10 (q - i) ⟨op, v, ks⟩ /\ s = (op, v, ks, Lr.drop q, o) /\ t = (op, v, ks, Lf, (q : Int), o, 0, 0))
   (fun a b => ∃ p r, a = .ret p /\ b = .done (r.2.Op, r.2.Value, r.2.Kids, r.1.L, r.1.At, r.1.Open, r.1.Bad, r.1.Where) /\ Out n Lr Lf i o p r)
   (by
    rintro m s t ⟨q, op, v, ks, rfl, hq1, hq2, hh, rfl, rfl⟩
    obtain ⟨a, b, ha, hb, hc, _, _, _⟩ := T.hd hq2
    obtain ⟨ho1, ho2⟩ := hops q a hq2 ha
    have hacc := Jg T (N := N) hq2 o a.text_ ha
    cases hop : Ar q with
    | none =>
     right; left
     rw [hop] at ho1
     refine ⟨.ret (.inr (PS Lr q o, ⟨op, v, ks⟩)), _, ?_, (fun _ h => by cases h), (hB _).no op v ks q o hq2 hop, (fun _ h => by cases h), _, (RS Lf q o, ⟨op, v, ks⟩), rfl, rfl, .ok q _ hq1 hq2 hh⟩
     unfold Bx
     simp only [hc, Option.bind_some]
     cases hm : K0 ops a.text_ with
     | false => simp only [Bool.not_false, cond_true, Option.bind_some]; rfl
     | true =>
      rw [hm] at ho1
      have hs : seeR a a.text_ = false := by simpa using ho1
      rw [hs] at hacc
      simp only [Bool.not_true, cond_false]
      rw [show (⟨Lr.drop q, o⟩ : Ac) = PS Lr q o from rfl, hacc]
      rfl
    | some z =>
     rw [hop] at ho1
     simp only [Option.isSome_some, Bool.and_eq_true] at ho1
     rw [ho1.2] at hacc
     have hz := ho2 z hop
     have hq3 := hlt q hq2 (by rw [hop]; rfl)
     obtain ⟨p2, r2, e3, e4, hout⟩ := hfg (q + 1) o hq3 h0 h32 (by omega)
     have hb1 : Bx N (PS Lr i o) f ops (PS Lr j o, x) (op, v, ks, Lr.drop q, o) = sk p2 (fun b => some (.ret (.inl b))) (fun r => some (.next (z, 0, [⟨op, v, ks⟩, r.2], r.1.l_, r.1.open_))) := by
      unfold Bx
      simp only [hc, Option.bind_some, ho1.1, Bool.not_true, cond_false]
      rw [show (⟨Lr.drop q, o⟩ : Ac) = PS Lr q o from rfl, hacc]
      simp only [cond_true, Option.bind_some, Bool.not_true, cond_false]
      rw [show (⟨(PS Lr (q + 1) o).l_, (PS Lr (q + 1) o).open_⟩ : Ac) = PS Lr (q + 1) o from rfl, e3]
      cases p2 with
      | inl b => rfl
      | inr r => simp only [Option.bind_some, sk, hz]
     have hb2 := (hB (RS Lf j o, x)).yes op v ks q o z hq2 hop
     rw [e4, Option.bind_some] at hb2
     cases hout with
     | ok q2 y hy1 hy2 hy =>
      left
      refine ⟨n - q2, _, _, by omega, hb1, hb2, q2, z, 0, [⟨op, v, ks⟩, y], rfl, by omega, hy2, ?_, rfl, rfl⟩
      obtain ⟨d, hd⟩ : ∃ d, q2 - i = d + 1 := ⟨q2 - i - 1, by omega⟩
      rw [hd]
      refine ⟨by show 2 < 10; omega, by show 2 < 9223372036854775808; omega, fun u hu => ?_⟩
      have hu' : u ∈ [(⟨op, v, ks⟩ : Expr), y] := hu
      simp only [List.mem_cons, List.not_mem_nil, or_false] at hu'
      rcases hu' with rfl | rfl
      ·exact hh.le (by omega)
      ·exact hy.le (by omega)
     | err e w q2 o' y he hj =>
      right; right
      exact ⟨_, _, _, hb1, (fun _ h => by cases h), hb2, (hB _).bad z 0 [⟨op, v, ks⟩, y] Lf (q2 : Int) o' e w he, (fun _ h => by cases h), .inl ⟨e, w⟩, (RB Lf q2 o' e w, ⟨z, 0, [⟨op, v, ks⟩, y]⟩), rfl, rfl, .err e w q2 o' _ he hj⟩)
   (n - j) N N (x.Op, x.Value, x.Kids, Lr.drop j, o) (x.Op, x.Value, x.Kids, Lf, (j : Int), o, 0, 0) ⟨j, x.Op, x.Value, x.Kids, rfl, h1, h2, by cases x; exact hx, rfl, rfl⟩ (by omega) (by omega)
  obtain ⟨p, r, rfl, rfl, hO⟩ := hR
  refine ⟨p, r, ?_, ?_, hO⟩
  ·rw [show ((PS Lr j o, x) : Ac × Expr).1.l_ = Lr.drop j from rfl, show ((PS Lr j o, x) : Ac × Expr).1.open_ = o from rfl]
   rw [r1]; rfl
  ·rw [show Be (B (RS Lf j o, x)) N (x.Op, x.Value, x.Kids, (RS Lf j o).L, (RS Lf j o).At, (RS Lf j o).Open, (RS Lf j o).Bad, (RS Lf j o).Where) = _ from r2]
   obtain ⟨u1, u2⟩ := r
   cases u2; rfl
end
section
variable {N n : Nat} {Lr : List An} {Lf : List Af} (T : IB n Lr Lf)
include T
theorem R9 {k : TN} (hk : k ≠ [10]) {z : Int} : ∀ i a, i < n -> Lr[i]? = some a -> (K0 [(k, z)] a.text_ && seeR a a.text_) = (if Se Lf i k then some z else none : Option Int).isSome /\ ∀ y, (if Se Lf i k then some z else none : Option Int) = some y -> GB [(k, z)] a.text_ 0 = y := by
 intro i a hi ha
 rw [<- T.see ha hi hk]
 unfold K0 GB GS GS
 by_cases ht : a.text_ = k
 ·rw [if_pos ht, ht]
  cases hs : seeR a k <;> simp
 ·have hs : seeR a k = false := by unfold seeR; simp [ht]
  rw [hs]; simp [ht]
theorem S7 {k1 k2 : TN} (hk : k1 ≠ [10]) (hk2 : k2 ≠ [10]) (hne : k1 ≠ k2) {z1 z2 : Int} : ∀ i a, i < n -> Lr[i]? = some a ->
  (K0 [(k1, z1), (k2, z2)] a.text_ && seeR a a.text_) = (if Se Lf i k1 then some z1 else if Se Lf i k2 then some z2 else none : Option Int).isSome /\ ∀ y, (if Se Lf i k1 then some z1 else if Se Lf i k2 then some z2 else none : Option Int) = some y -> GB [(k1, z1), (k2, z2)] a.text_ 0 = y := by
 intro i a hi ha
 rw [<- T.see ha hi hk, <- T.see ha hi hk2]
 unfold K0 GB GS GS GS
 by_cases ht : a.text_ = k1
 ·rw [if_pos ht, ht]
  have h2 : seeR a k2 = false := by unfold seeR; rw [ht]; simp [hne]
  rw [h2]
  cases hs : seeR a k1 <;> simp
 ·have hs : seeR a k1 = false := by unfold seeR; simp [ht]
  rw [hs]
  by_cases ht2 : a.text_ = k2
  ·rw [ht2]
   have hne' : ¬ k2 = k1 := fun h => hne h.symm
   cases hs2 : seeR a k2 <;> simp [hne']
  ·have hs2 : seeR a k2 = false := by unfold seeR; simp [ht2]
   rw [hs2]; simp [ht, ht2]
theorem lt1 {k : TN} {z : Int} : ∀ i, i < n -> (if Se Lf i k then some z else none : Option Int).isSome = true -> i + 1 < n := by
 intro i hi h
 cases hs : Se Lf i k with
 | true => exact T.lt hi hs
 | false => rw [hs] at h; simp at h
theorem lt2 {k1 k2 : TN} {z1 z2 : Int} : ∀ i, i < n -> (if Se Lf i k1 then some z1 else if Se Lf i k2 then some z2 else none : Option Int).isSome = true -> i + 1 < n := by
 intro i hi h
 cases hs : Se Lf i k1 with
 | true => exact T.lt hi hs
 | false =>
  cases hs2 : Se Lf i k2 with
  | true => exact T.lt hi hs2
  | false => rw [hs, hs2] at h; simp at h
theorem P9 (g x0 r) : Q8 n Lf (fun j => if Se Lf j [97, 110, 100] then some 4 else none) g (BJ N g x0 r) := by
 refine ⟨fun op v ks L j o e w he => ?_, fun op v ks j o hj hop => ?_, fun op v ks j o c hj hop => ?_⟩
 ·unfold BJ; simp only [e0 he]; rfl
 ·unfold BJ
  simp only
  rw [show ((0 : Int) == 0) = true from rfl, cond_true, show (⟨Lf, (j : Int), o, 0, 0⟩ : Aa) = RB Lf j o 0 0 from rfl, Ej T hj]
  cases hs : Se Lf j [97, 110, 100] with
  | true => simp only [hs, if_true] at hop; cases hop
  | false => rfl
 ·unfold BJ
  simp only
  rw [show ((0 : Int) == 0) = true from rfl, cond_true, show (⟨Lf, (j : Int), o, 0, 0⟩ : Aa) = RB Lf j o 0 0 from rfl, Ej T hj]
  cases hs : Se Lf j [97, 110, 100] with
  | false => simp only [hs, Bool.false_eq_true, if_false] at hop; cases hop
  | true =>
   simp only [hs, if_true, Option.some.injEq] at hop
   subst hop
   simp only [Option.bind_some, cond_true, W1 T hj]
   rfl
theorem P8 (g x0 r) : Q8 n Lf (fun j => if Se Lf j [111, 114] then some 5 else none) g (BI N g x0 r) := by
 refine ⟨fun op v ks L j o e w he => ?_, fun op v ks j o hj hop => ?_, fun op v ks j o c hj hop => ?_⟩
 ·unfold BI; simp only [e0 he]; rfl
 ·unfold BI
  simp only
  rw [show ((0 : Int) == 0) = true from rfl, cond_true, show (⟨Lf, (j : Int), o, 0, 0⟩ : Aa) = RB Lf j o 0 0 from rfl, Ej T hj]
  cases hs : Se Lf j [111, 114] with
  | true => simp only [hs, if_true] at hop; cases hop
  | false => rfl
 ·unfold BI
  simp only
  rw [show ((0 : Int) == 0) = true from rfl, cond_true, show (⟨Lf, (j : Int), o, 0, 0⟩ : Aa) = RB Lf j o 0 0 from rfl, Ej T hj]
  cases hs : Se Lf j [111, 114] with
  | false => simp only [hs, Bool.false_eq_true, if_false] at hop; cases hop
  | true =>
   simp only [hs, if_true, Option.some.injEq] at hop
   subst hop
   simp only [Option.bind_some, cond_true, W1 T hj]
   rfl
theorem P7 (g x0 r) : Q8 n Lf (fun j => if Se Lf j [42] then some 10 else none) g (BH N g x0 r) := by
 refine ⟨fun op v ks L j o e w he => ?_, fun op v ks j o hj hop => ?_, fun op v ks j o c hj hop => ?_⟩
 ·unfold BH; simp only [e0 he]; rfl
 ·unfold BH
  simp only
  rw [show ((0 : Int) == 0) = true from rfl, cond_true, show (⟨Lf, (j : Int), o, 0, 0⟩ : Aa) = RB Lf j o 0 0 from rfl, Ej T hj]
  cases hs : Se Lf j [42] with
  | true => simp only [hs, if_true] at hop; cases hop
  | false => rfl
 ·unfold BH
  simp only
  rw [show ((0 : Int) == 0) = true from rfl, cond_true, show (⟨Lf, (j : Int), o, 0, 0⟩ : Aa) = RB Lf j o 0 0 from rfl, Ej T hj]
  cases hs : Se Lf j [42] with
  | false => simp only [hs, Bool.false_eq_true, if_false] at hop; cases hop
  | true =>
   simp only [hs, if_true, Option.some.injEq] at hop
   subst hop
   simp only [Option.bind_some, cond_true, W1 T hj]
   rfl
theorem QX (g x0 r) : Q8 n Lf (fun j => if Se Lf j [43] then some 8 else if Se Lf j [45] then some 9 else none) g (BN N g x0 r) := by
 refine ⟨fun op v ks L j o e w he => ?_, fun op v ks j o hj hop => ?_, fun op v ks j o c hj hop => ?_⟩
 ·unfold BN; simp only [e0 he]; rfl
 ·unfold BN
  simp only
  rw [show ((0 : Int) == 0) = true from rfl, cond_true, show (⟨Lf, (j : Int), o, 0, 0⟩ : Aa) = RB Lf j o 0 0 from rfl, Ej T hj, Ej T hj]
  cases hs : Se Lf j [43] with
  | true => simp only [hs, if_true] at hop; cases hop
  | false =>
   cases hs2 : Se Lf j [45] with
   | true => simp only [hs, hs2, Bool.false_eq_true, if_false, if_true] at hop; cases hop
   | false => rfl
 ·unfold BN
  simp only
  rw [show ((0 : Int) == 0) = true from rfl, cond_true, show (⟨Lf, (j : Int), o, 0, 0⟩ : Aa) = RB Lf j o 0 0 from rfl, Ej T hj, Ej T hj]
  cases hs : Se Lf j [43] with
  | true =>
   simp only [hs, if_true, Option.some.injEq] at hop
   subst hop
   simp only [Option.bind_some, cond_true, W1 T hj]
   rfl
  | false =>
   cases hs2 : Se Lf j [45] with
   | false => simp only [hs, hs2, Bool.false_eq_true, if_false] at hop; cases hop
   | true =>
    simp only [hs, hs2, Bool.false_eq_true, if_false, if_true, Option.some.injEq] at hop
    subst hop
    simp only [Option.bind_some, cond_true, cond_false, W1 T hj]
    rfl
end
section
variable {N n : Nat} {Lr : List An} {Lf : List Af} (T : IB n Lr Lf)
include T
theorem Ls {i : Nat} (hi : i < n) (o : Int) : (⟨(RS Lf i o).L, W64 ((RS Lf i o).At + 1), (RS Lf i o).Open, (RS Lf i o).Bad, (RS Lf i o).Where⟩ : Aa) = RS Lf (i + 1) o := by
 show (⟨Lf, W64 ((i : Int) + 1), o, 0, 0⟩ : Aa) = _
 rw [W1 T hi]; rfl
theorem QR {K : Nat} {fd ft : Ac -> Option (Ak ⊕ (Ac × Expr))} {gd gt : Aa -> Option (Aa × Expr)} (hd : Agr n Lr Lf 5 K fd gd) (ht : Agr n Lr Lf 4 K ft gt) :
  Agr n Lr Lf 5 (K + 1) (CX N fd ft) (B6 N gd gt) := by
 intro i o hi h0 h32 hK
 unfold CX B6
 rw [Eb T hi o (by decide), show ((RS Lf i o).Bad == 0) = true from rfl, cond_true, Ej T hi]
 cases hs : Se Lf i [110, 111, 116] with
 | true =>
  have hlt := T.lt hi hs
  obtain ⟨p, r, e1, e2, h⟩ := hd (i + 1) o hlt h0 h32 (by omega)
  simp only [Option.bind_some, cond_true, Ls T hi, e1, e2]
  cases h with
  | err e w j o' x he hj => exact ⟨_, _, rfl, rfl, .err e w j o' _ he hj⟩
  | ok j x h1 h2 hx =>
   refine ⟨_, _, rfl, rfl, .ok j _ (by omega) h2 ?_⟩
   obtain ⟨d, hd⟩ : ∃ d, j - i = d + 1 := ⟨j - i - 1, by omega⟩
   rw [hd]
   refine ⟨by show 1 < 10; omega, by show 1 < 9223372036854775808; omega, fun u hu => ?_⟩
   have hu' : u ∈ [x] := hu
   simp only [List.mem_cons, List.not_mem_nil, or_false] at hu'
   subst hu'
   exact hx.le (by omega)
 | false =>
  obtain ⟨p, r, e1, e2, h⟩ := ht i o hi h0 h32 (by omega)
  simp only [Option.bind_some, cond_false, e1, e2]
  cases h with
  | err e w j o' x he hj => exact ⟨_, _, rfl, rfl, .err e w j o' _ he hj⟩
  | ok j x h1 h2 hx => exact ⟨_, _, rfl, rfl, .ok j _ h1 h2 hx⟩
theorem Pr {i j q : Nat} {op : Int} {x y : Expr} (hx : Ht 10 (j - i) x) (hy : Ht 10 (q - (j + 1)) y) (h1 : i < j) (h2 : j + 1 < q) : Ht 10 (q - i) ⟨op, 0, [x, y]⟩ := by
 obtain ⟨d, hd⟩ : ∃ d, q - i = d + 1 := ⟨q - i - 1, by omega⟩
 rw [hd]
 refine ⟨by show 2 < 10; omega, by show 2 < 9223372036854775808; omega, fun u hu => ?_⟩
 have hu' : u ∈ [x, y] := hu
 simp only [List.mem_cons, List.not_mem_nil, or_false] at hu'
 rcases hu' with rfl | rfl
 ·exact hx.le (by omega)
 ·exact hy.le (by omega)
theorem Qj {K : Nat} {fs : Ac -> Option (Ak ⊕ (Ac × Expr))} {gs : Aa -> Option (Aa × Expr)} (hs : Agr n Lr Lf 3 K fs gs) :
  Agr n Lr Lf 4 (K + 1) (CW N fs) (B5 N gs) := by
 intro i o hi h0 h32 hK
 obtain ⟨p, r, e1, e2, h⟩ := hs i o hi h0 h32 (by omega)
 unfold CW B5
 rw [e1, e2]
 simp only [Option.bind_some]
 cases h with
 | err e w j o' x he hj =>
  refine ⟨.inl ⟨e, w⟩, (RB Lf j o' e w, x), rfl, ?_, .err e w j o' _ he hj⟩
  show (((bif (e == 0) then _ else some false).bind _)) = _
  rw [e0 he]; rfl
 | ok j x h1 h2 hx =>
  simp only [sk]
  rw [Eb T h2 o (by decide), show ((RS Lf j o).Bad == 0) = true from rfl, cond_true, Ej T h2, Ej T h2]
  cases hq : Se Lf j [61] with
  | true =>
   have hlt := T.lt h2 hq
   obtain ⟨p2, r2, e3, e4, h'⟩ := hs (j + 1) o hlt h0 h32 (by omega)
   simp only [Option.bind_some, cond_true, Ls T h2, e3, e4]
   cases h' with
   | err e w q o' y he hj => exact ⟨_, _, rfl, rfl, .err e w q o' _ he hj⟩
   | ok q y hy1 hy2 hy => exact ⟨_, _, rfl, rfl, .ok q _ (by omega) hy2 (Pr T hx hy h1 hy1)⟩
  | false =>
   simp only [Option.bind_some, cond_false]
   rw [Eb T h2 o (by decide)]
   cases hl : Se Lf j [60] with
   | true =>
    have hlt := T.lt h2 hl
    obtain ⟨p2, r2, e3, e4, h'⟩ := hs (j + 1) o hlt h0 h32 (by omega)
    simp only [Option.bind_some, cond_true, cond_false, Ls T h2, e3, e4]
    cases h' with
    | err e w q o' y he hj => exact ⟨_, _, rfl, rfl, .err e w q o' _ he hj⟩
    | ok q y hy1 hy2 hy => exact ⟨_, _, rfl, rfl, .ok q _ (by omega) hy2 (Pr T hx hy h1 hy1)⟩
   | false => exact ⟨_, _, rfl, rfl, .ok j _ h1 h2 hx⟩
end
section
variable {N n : Nat} {Lr : List An} {Lf : List Af} (T : IB n Lr Lf) {g : Aa -> Option (Aa × Expr)} {j : Nat} {e w : Int} (he : e ≠ 0) (hg : ∀ o, g (RB Lf j o e w) = some (RB Lf j o e w, zE))
include T he hg
end
section
variable (N : Nat) (g : Aa -> Option (Aa × Expr)) (f : Ac -> Option (Ak ⊕ (Ac × Expr)))
def F6 (c x : Expr) (r : Aa × Expr) : Option (Aa × Expr) := (BE N r.1).bind fun r312 => some (r312, ({ Op := 11, Value := 0, Kids := [c, x, r.2] } : Expr))
def F5 (c x : Expr) (r : Aa) : Option (Aa × Expr) := (g r).bind (F6 N c x)
def F4 (c : Expr) (r : Aa × Expr) : Option (Aa × Expr) := (AD N r.1 [44]).bind (F5 N g c r.2)
def F3 (c : Expr) (r : Aa) : Option (Aa × Expr) := (g r).bind (F4 N g c)
def F2 (r : Aa × Expr) : Option (Aa × Expr) := (AD N r.1 [44]).bind (F3 N g r.2)
def F1 (r : Aa) : Option (Aa × Expr) := (g r).bind (F2 N g)
def F0 (r : Aa) : Option (Aa × Expr) := (BF N r).bind (F1 N g)
def Ms : Ak -> Option (Ak ⊕ (Ac × Expr)) := fun b => some (.inl b)
def H6 (c x : Expr) (r : Ac × Expr) : Option (Ak ⊕ (Ac × Expr)) := (BU N r.1).bind fun q => sk q Ms fun r259 => some (.inr (r259, ({ Op := 11, Value := 0, Kids := [c, x, r.2] } : Expr)))
def H5 (c x : Expr) (r : Ac) : Option (Ak ⊕ (Ac × Expr)) := (f r).bind fun q => sk q Ms (H6 N c x)
def H4 (c : Expr) (r : Ac × Expr) : Option (Ak ⊕ (Ac × Expr)) := (AG N r.1 [44]).bind fun q => sk q Ms (H5 N f c r.2)
def H3 (c : Expr) (r : Ac) : Option (Ak ⊕ (Ac × Expr)) := (f r).bind fun q => sk q Ms (H4 N f c)
def H2 (r : Ac × Expr) : Option (Ak ⊕ (Ac × Expr)) := (AG N r.1 [44]).bind fun q => sk q Ms (H3 N f r.2)
def H1 (r : Ac) : Option (Ak ⊕ (Ac × Expr)) := (f r).bind fun q => sk q Ms (H2 N f)
def H0 (r : Ac) : Option (Ak ⊕ (Ac × Expr)) := (BV N r).bind fun q => sk q Ms (H1 N f)
def P2 (r : Aa × Expr) : Option (Aa × Expr) := (BE N r.1).bind fun r224 => some (r224, r.2)
def P1 (r : Aa) : Option (Aa × Expr) := (g r).bind (P2 N)
def P0 (r : Aa) : Option (Aa × Expr) := (BF N r).bind (P1 N g)
def Q2 (r : Ac × Expr) : Option (Ak ⊕ (Ac × Expr)) := (BU N r.1).bind fun q => sk q Ms fun r389 => some (.inr (r389, r.2))
def Q1 (r : Ac) : Option (Ak ⊕ (Ac × Expr)) := (f r).bind fun q => sk q Ms (Q2 N)
def Q0 (r : Ac) : Option (Ak ⊕ (Ac × Expr)) := (BV N r).bind fun q => sk q Ms (Q1 N f)
end
section
variable {N n : Nat} {Lr : List An} {Lf : List Af} (T : IB n Lr Lf) {g : Aa -> Option (Aa × Expr)} {f : Ac -> Option (Ak ⊕ (Ac × Expr))}
def Ji (Lf : List Af) (g : Aa -> Option (Aa × Expr)) : Prop := ∀ (j : Nat) (o e w : Int), e ≠ 0 -> g (RB Lf j o e w) = some (RB Lf j o e w, zE)
def IW (Lf : List Af) (j : Nat) (e w : Int) (q : Option (Aa × Expr)) : Prop := ∃ o' X, q = some (RB Lf j o' e w, X)
include T
theorem d6 {j : Nat} {o e w : Int} (he : e ≠ 0) (c x y : Expr) : IW Lf j e w (F6 N c x (RB Lf j o e w, y)) := by
 obtain ⟨o', h⟩ := NR T (N := N) (i := j) (o := o) (w := w) he
 exact ⟨o', _, by unfold F6; rw [h]; rfl⟩
theorem d5 (hg : Ji Lf g) {j : Nat} {o e w : Int} (he : e ≠ 0) (c x : Expr) : IW Lf j e w (F5 N g c x (RB Lf j o e w)) := by
 unfold F5; rw [hg j o e w he]; exact d6 T he c x zE
theorem d4 (hg : Ji Lf g) {j : Nat} {o e w : Int} (he : e ≠ 0) (c x : Expr) : IW Lf j e w (F4 N g c (RB Lf j o e w, x)) := by
 unfold F4; rw [Ev T he]; exact d5 T hg he c x
theorem d3 (hg : Ji Lf g) {j : Nat} {o e w : Int} (he : e ≠ 0) (c : Expr) : IW Lf j e w (F3 N g c (RB Lf j o e w)) := by
 unfold F3; rw [hg j o e w he]; exact d4 T hg he c zE
theorem d2 (hg : Ji Lf g) {j : Nat} {o e w : Int} (he : e ≠ 0) (c : Expr) : IW Lf j e w (F2 N g (RB Lf j o e w, c)) := by
 unfold F2; rw [Ev T he]; exact d3 T hg he c
theorem d1 (hg : Ji Lf g) {j : Nat} {o e w : Int} (he : e ≠ 0) : IW Lf j e w (F1 N g (RB Lf j o e w)) := by
 unfold F1; rw [hg j o e w he]; exact d2 T hg he zE
theorem d0 (hg : Ji Lf g) {j : Nat} {o e w : Int} (he : e ≠ 0) : IW Lf j e w (F0 N g (RB Lf j o e w)) := by
 obtain ⟨o', h⟩ := Qy T (N := N) (i := j) (o := o) (w := w) he
 unfold F0; rw [h]; exact d1 T hg he
theorem dp2 {j : Nat} {o e w : Int} (he : e ≠ 0) (x : Expr) : IW Lf j e w (P2 N (RB Lf j o e w, x)) := by
 obtain ⟨o', h⟩ := NR T (N := N) (i := j) (o := o) (w := w) he
 exact ⟨o', _, by unfold P2; rw [h]; rfl⟩
theorem dp1 (hg : Ji Lf g) {j : Nat} {o e w : Int} (he : e ≠ 0) : IW Lf j e w (P1 N g (RB Lf j o e w)) := by
 unfold P1; rw [hg j o e w he]; exact dp2 T he zE
def EB (n : Nat) (Lr : List An) (Lf : List Af) (i : Nat) (o : Int) (P : Option (Ak ⊕ (Ac × Expr))) (R : Option (Aa × Expr)) : Prop := ∃ p r, P = some p /\ R = some r /\ Out n Lr Lf i o p r
omit T in
theorem EB.fail {i j : Nat} {o e w : Int} {P : Option (Ak ⊕ (Ac × Expr))} {R : Option (Aa × Expr)} (hP : P = some (.inl ⟨e, w⟩)) (hR : IW Lf j e w R) (he : e ≠ 0) (hj : j < n) : EB n Lr Lf i o P R := by
 obtain ⟨o', X, rfl⟩ := hR
 exact ⟨_, _, hP, rfl, .err e w j o' X he hj⟩
theorem s6 {i j : Nat} {o : Int} (h0 : 0 <= o) (h32 : o < 32) (hij : i < j) (hj : j < n) {c x y : Expr} (hc : Ht 10 (j - i) c) (hx : Ht 10 (j - i) x) (hy : Ht 10 (j - i) y) : EB n Lr Lf i o (H6 N c x (PS Lr j (o + 1), y)) (F6 N c x (RS Lf j (o + 1), y)) := by
 unfold H6 F6
 rw [Pk T hj (by omega) (by omega), QA T hj (by omega) (by omega)]
 cases hs : Se Lf j [41] with
 | false => exact EB.fail rfl ⟨_, _, rfl⟩ (by decide) hj
 | true =>
  have e : o + 1 - 1 = o := by omega
  simp only [cond_true, Option.bind_some, sk, e]
  refine ⟨_, _, rfl, rfl, .ok (j + 1) _ (by omega) (T.lt hj hs) ?_⟩
  obtain ⟨d, hd⟩ : ∃ d, j - i = d := ⟨_, rfl⟩
  rw [show j + 1 - i = d + 1 by omega]
  rw [hd] at hc hx hy
  refine ⟨by show 3 < 10; omega, by show 3 < 9223372036854775808; omega, fun u hu => ?_⟩
  have hu' : u ∈ [c, x, y] := hu
  simp only [List.mem_cons, List.not_mem_nil, or_false] at hu'
  rcases hu' with rfl | rfl | rfl <;> assumption
theorem s5 {K : Nat} (hfg : Agr n Lr Lf 7 K f g) {i j : Nat} {o : Int} (h0 : 0 <= o) (h32 : o < 32) (hij : i < j) (hj : j < n) (hK : 8 * (n - j) + 7 <= K) {c x : Expr} (hc : Ht 10 (j - i) c) (hx : Ht 10 (j - i) x) : EB n Lr Lf i o (H5 N f c x (PS Lr j (o + 1))) (F5 N g c x (RS Lf j (o + 1))) := by
 obtain ⟨p, r, e1, e2, h⟩ := hfg j (o + 1) hj (by omega) (by omega) hK
 unfold H5 F5
 rw [e1, e2]
 simp only [Option.bind_some]
 cases h with
 | err e w q o' y he hq => exact EB.fail rfl (d6 T he c x y) he hq
 | ok q y h1 h2 hy => exact s6 T h0 h32 (by omega) h2 (hc.le (by omega)) (hx.le (by omega)) (hy.le (by omega))
theorem s4 {K : Nat} (hfg : Agr n Lr Lf 7 K f g) (hg : Ji Lf g) {i j : Nat} {o : Int} (h0 : 0 <= o) (h32 : o < 32) (hij : i < j) (hj : j < n) (hK : 8 * (n - j) + 7 <= K) {c x : Expr} (hc : Ht 10 (j - i) c) (hx : Ht 10 (j - i) x) : EB n Lr Lf i o (H4 N f c (PS Lr j (o + 1), x)) (F4 N g c (RS Lf j (o + 1), x)) := by
 unfold H4 F4
 rw [FF T hj _ (by decide), Gn T hj]
 cases hs : Se Lf j [44] with
 | false => exact EB.fail rfl (d5 T hg (by decide) c x) (by decide) hj
 | true =>
  have hl := T.lt hj hs
  simp only [cond_true, Option.bind_some, sk]
  exact s5 T hfg h0 h32 (by omega) hl (by omega) (hc.le (by omega)) (hx.le (by omega))
theorem s3 {K : Nat} (hfg : Agr n Lr Lf 7 K f g) (hg : Ji Lf g) {i j : Nat} {o : Int} (h0 : 0 <= o) (h32 : o < 32) (hij : i < j) (hj : j < n) (hK : 8 * (n - j) + 7 <= K) {c : Expr} (hc : Ht 10 (j - i) c) : EB n Lr Lf i o (H3 N f c (PS Lr j (o + 1))) (F3 N g c (RS Lf j (o + 1))) := by
 obtain ⟨p, r, e1, e2, h⟩ := hfg j (o + 1) hj (by omega) (by omega) hK
 unfold H3 F3
 rw [e1, e2]
 simp only [Option.bind_some]
 cases h with
 | err e w q o' y he hq => exact EB.fail rfl (d4 T hg he c y) he hq
 | ok q y h1 h2 hy => exact s4 T hfg hg h0 h32 (by omega) h2 (by omega) (hc.le (by omega)) (hy.le (by omega))
theorem s2 {K : Nat} (hfg : Agr n Lr Lf 7 K f g) (hg : Ji Lf g) {i j : Nat} {o : Int} (h0 : 0 <= o) (h32 : o < 32) (hij : i < j) (hj : j < n) (hK : 8 * (n - j) + 7 <= K) {c : Expr} (hc : Ht 10 (j - i) c) : EB n Lr Lf i o (H2 N f (PS Lr j (o + 1), c)) (F2 N g (RS Lf j (o + 1), c)) := by
 unfold H2 F2
 rw [FF T hj _ (by decide), Gn T hj]
 cases hs : Se Lf j [44] with
 | false => exact EB.fail rfl (d3 T hg (by decide) c) (by decide) hj
 | true =>
  have hl := T.lt hj hs
  simp only [cond_true, Option.bind_some, sk]
  exact s3 T hfg hg h0 h32 (by omega) hl (by omega) (hc.le (by omega))
theorem s1 {K : Nat} (hfg : Agr n Lr Lf 7 K f g) (hg : Ji Lf g) {i j : Nat} {o : Int} (h0 : 0 <= o) (h32 : o < 32) (hij : i < j) (hj : j < n) (hK : 8 * (n - j) + 7 <= K) : EB n Lr Lf i o (H1 N f (PS Lr j (o + 1))) (F1 N g (RS Lf j (o + 1))) := by
 obtain ⟨p, r, e1, e2, h⟩ := hfg j (o + 1) hj (by omega) (by omega) hK
 unfold H1 F1
 rw [e1, e2]
 simp only [Option.bind_some]
 cases h with
 | err e w q o' y he hq => exact EB.fail rfl (d2 T hg he y) he hq
 | ok q y h1 h2 hy => exact s2 T hfg hg h0 h32 (by omega) h2 (by omega) (hy.le (by omega))
theorem s0 {K : Nat} (hfg : Agr n Lr Lf 7 K f g) (hg : Ji Lf g) {i j : Nat} {o : Int} (h0 : 0 <= o) (h32 : o <= 32) (hij : i < j) (hj : j < n) (hK : 8 * (n - j) <= K) : EB n Lr Lf i o (H0 N f (PS Lr j o)) (F0 N g (RS Lf j o)) := by
 unfold H0 F0
 rw [Pl T hj h0 h32, QC T hj h0 h32]
 cases hs : Se Lf j [40] with
 | false => exact EB.fail rfl (d1 T hg (by decide)) (by decide) hj
 | true =>
  have hl := T.lt hj hs
  simp only [cond_true, Option.bind_some]
  by_cases ho : o = 32
  ·rw [if_pos ho, if_pos ho]; exact EB.fail rfl (d1 T hg (by decide)) (by decide) hj
  ·rw [if_neg ho, if_neg ho]
   exact s1 T hfg hg h0 (by omega) (by omega) hl (by omega)
theorem p2 {i j : Nat} {o : Int} (h0 : 0 <= o) (h32 : o < 32) (hij : i < j) (hj : j < n) {x : Expr} (hx : Ht 10 (j - i) x) : EB n Lr Lf i o (Q2 N (PS Lr j (o + 1), x)) (P2 N (RS Lf j (o + 1), x)) := by
 unfold Q2 P2
 rw [Pk T hj (by omega) (by omega), QA T hj (by omega) (by omega)]
 cases hs : Se Lf j [41] with
 | false => exact EB.fail rfl ⟨_, _, rfl⟩ (by decide) hj
 | true =>
  have e : o + 1 - 1 = o := by omega
  simp only [cond_true, Option.bind_some, sk, e]
  exact ⟨_, _, rfl, rfl, .ok (j + 1) _ (by omega) (T.lt hj hs) (hx.le (by omega))⟩
theorem S6 {K : Nat} (hfg : Agr n Lr Lf 7 K f g) (hg : Ji Lf g) {i : Nat} {o : Int} (h0 : 0 <= o) (h32 : o <= 32) (hi : i < n) (hK : 8 * (n - i) <= K) (hs : Se Lf i [40] = true) : EB n Lr Lf i o (Q0 N f (PS Lr i o)) (P0 N g (RS Lf i o)) := by
 unfold Q0 P0
 rw [Pl T hi h0 h32, QC T hi h0 h32, hs]
 have hl := T.lt hi hs
 simp only [cond_true, Option.bind_some]
 by_cases ho : o = 32
 ·rw [if_pos ho, if_pos ho]; exact EB.fail rfl (dp1 T hg (by decide)) (by decide) hi
 ·rw [if_neg ho, if_neg ho]
  simp only [sk]
  obtain ⟨p, r, e1, e2, h⟩ := hfg (i + 1) (o + 1) hl (by omega) (by omega) (by omega)
  unfold Q1 P1
  rw [e1, e2]
  simp only [Option.bind_some]
  cases h with
  | err e w q o' y he hq => exact EB.fail rfl (dp2 T he y) he hq
  | ok q y h1 h2 hy => exact p2 T h0 (by omega) (by omega) h2 (hy.le (by omega))
end
def B8 (N : Nat) (x0 : (List Clause)) (x1 : (Clause -> Option Bool)) : Int -> Option (Bv Int Int) := fun s24 =>
 (bif (decide (s24 < (x0.length : Int))) then ((idx x0 s24).bind fun x47 => ((x1 x47).bind fun r61 => (bif r61 then some (.ret s24) else some (.next (W64 (s24 + 1)))))) else some (.done s24))
def Cc (N : Nat) (x0 : (List Clause)) (x1 : (Clause -> Option Bool)) : Option Int :=
 ((Be (B8 N x0 x1) N 0).bind fun o => o.k (fun r => some r) (fun s33 => some (-1)))
theorem Dh : Au Tryz.prog 162 := fun _ _ => by kernel_rfl
theorem Dq (N : Nat) (w0 : World) (F0 : Mem) (hF : TP w0 F0) (x0 : (List Clause)) (a0_0 : TO) (n0_0 : Nat) (hb0_0 : LC x0.length n0_0) (hs0_0 : SlA Ay F0 a0_0 x0) (gx1 : FuncId) (fx1 kx1 : List Value) (x1 : Clause -> Option Bool) (hox1 : Au Tryz.prog gx1) (hpx1 : PB F0 gx1 fx1 kx1 x1) (r : Int) (h : Cc N x0 x1 = some r) :
  Calls Tryz.prog 162 ([(.slice a0_0 x0.length n0_0), (.func (.func gx1) fx1.toArray kx1.toArray)] : List Value).toArray w0 (Bd w0 F0 fun F' v => v = (vi r)) := by
 have hs0 := Tp hF
 refine Go 19 Tryz.func162 ?_
 refine Sq (Rg [0] ?_)
 refine Vs 1 ?_
 refine Nss ?_
 refine Sq (Rg [0, 1, 2] ?_)
 refine Vs 3 ?_
 refine Nt ?_
 obtain ⟨o21, ho22, h23⟩ := bind_some h
 refine Tu (fun f w => ∃ (s33 : Int) (F2 : Mem), o21 = .done s33 /\ HS w0 F0 w F2 [] /\ Tn F0 F2 /\ FI f [] []) ?_ ?_
 ·refine Bk ?_
  refine Tm (by kernel_rfl) (fun m f w => ∃ (s24 : Int) (F1 : Mem), Be (B8 N x0 x1) m s24 = some o21 /\ HS w0 F0 w F1 [] /\ Tn F0 F1 /\ FI f [] [(0, (.slice a0_0 x0.length n0_0)), (1, (.func (.func gx1) fx1.toArray kx1.toArray)), (7, (vi (x0.length : Int))), (8, (vi s24))]) N ⟨0, F0, ho22, hs0, (To _), fI⟩ ?_
  rintro m38 f w25 ⟨s24, F1, hit39, hs26, le27, ⟨_, rfl⟩⟩
  obtain ⟨m40, fl41, rfl, hb42, hnx43⟩ := A5 hit39
  refine Sq (Rg [0] ?_)
  refine Vs 1 ?_
  refine Nss ?_
  refine Cd hb42 (fun hb44 h45 => ?_) (fun hb44 h46 => ?_)
  ·refine Sc ?_
   refine Ad ?_
   refine Sq ?_
   refine Bk ?_
   refine Sq (Rg [0, 1] ?_)
   refine Vs 2 ?_
   refine Nss (Rg [0, 1, 2, 3, 4, 5] ?_)
   refine Vs 3 ?_
   obtain ⟨x47, hx48, h50⟩ := bind_some h45
   obtain ⟨hi49, hx48'⟩ := Az hx48
   obtain ⟨b51, o52, C53, E54, fz55, rfl, hF57, hE58⟩ := Tx (Tq hs0_0 le27) hx48'
   obtain ⟨ae59_2, ne59_2, ae59_5, ne59_5, hc60, hbe59_2, hse59_2, hbe59_5, hse59_5⟩ := hE58 _ _ hx48'
   refine Ix hi49 ?_
   refine Lx 0 (hs26.pers _ _ hF57) hc60 ?_
   obtain ⟨r61, hr62, h63⟩ := bind_some h50
   refine Cq hox1 hs26 (hpx1 w25 F1 x47 ae59_2 ne59_2 hbe59_2 hse59_2 ae59_5 ne59_5 hbe59_5 hse59_5 _ le27 hs26.pers hr62) ?_
   rintro _ F3 w65 hs66 le67 rfl
   refine Nt ?_
   refine Cd h63 (fun hb69 h70 => ?_) (fun hb69 h71 => ?_)
   ·refine Sq (Rg [0, 1] ?_)
    refine Vs 2 ?_
    refine Nt ?_
    refine Rt ?_
    refine Ao ?_
    refine Aj ?_
    refine Aj ?_
    refine Ao ?_
    have hret := B9 h70 hnx43
    subst hret
    refine .inr ?_
    refine Aj ?_
    obtain rfl := Ab h23
    exact Re [(vi s24)] hs66 rfl
   ·refine Sc ?_
    refine AA ?_
    refine Ad ?_
    refine Rg [0, 1] ?_
    refine Vs 2 ?_
    refine Tj ?_
    have hn72 := AW h71 hnx43
    exact ⟨m40, Nat.lt_succ_self _, (W64 (s24 + 1)), F3, hn72, hs66, (le27.trans le67), fI⟩
  ·refine Ex ?_
   refine AC ?_
   refine AC ?_
   refine AL rfl ?_
   have ho73 := A8 h46 hnx43
   exact .inl ⟨rfl, s24, F1, ho73, hs26, le27, fI⟩
 ·rintro f w34 ⟨s33, F2, rfl, hs35, le36, ⟨_, rfl⟩⟩
  have h74 := BT h23
  refine Ad ?_
  refine Sq (Rg [0] ?_)
  refine Vs 1 ?_
  refine Nt ?_
  refine Rt ?_
  obtain rfl := Ab h74
  exact Re [(vi (-1))] hs35 rfl



def Gl (N : Nat) (x0 : Clause) (z0 : (List Int)) : Option Bool :=
 ((FU N x0.When z0).bind fun r24 => some (r24 == 1))
theorem Ky : Au Tryz.prog 163 := fun _ _ => by kernel_rfl
theorem Li (N : Nat) (w0 : World) (F0 : Mem) (hF : TP w0 F0) (x0 : Clause) (a0_2 : TO) (n0_2 : Nat) (hb0_2 : LC x0.When.Kids.length n0_2) (hs0_2 : SlA As F0 a0_2 x0.When.Kids) (a0_5 : TO) (n0_5 : Nat) (hb0_5 : LC x0.Then.Kids.length n0_5) (hs0_5 : SlA As F0 a0_5 x0.Then.Kids) (bz0 : Nat) (z0 : (List Int)) (az0_0 : TO) (nz0_0 : Nat) (hbz0_0 : LC z0.length nz0_0) (hsz0_0 : SlA Do F0 az0_0 z0) (hz0 : F0 bz0 = some (oc #[(.slice az0_0 z0.length nz0_0)] 47)) (r : Bool) (h : Gl N x0 z0 = some r) :
  Calls Tryz.prog 163 ([(.agg (JB x0 a0_2 n0_2 a0_5 n0_5)), (pt bz0 0)] : List Value).toArray w0 (Bd w0 F0 fun F' v => v = (.bool r)) := by
 have hs0 := Tp hF
 refine Go 9 Tryz.func163 ?_
 refine Sq (Rg [0, 1] ?_)
 refine Bx' 56 (JB x0 a0_2 n0_2 a0_5 n0_5) hs0 (fun b21 w22 hs23 => ?_)
 refine Vs 1 ?_
 refine Nss (Rg [0, 1, 2, 3, 4, 5] ?_)
 refine Vs 1 ?_
 refine Ld hs23.at0 ?_
 refine Ld (hs23.pers _ _ hz0) ?_
 obtain ⟨r24, hr25, h26⟩ := bind_some h
 refine Cl' Ee hs23 (Gr N w22 F0 hs23.pers x0.When a0_2 n0_2 hb0_2 hs0_2 z0 az0_0 nz0_0 hbz0_0 hsz0_0 _ hr25) ?_
 rintro _ F1 w28 hs29 le30 rfl
 refine Vs 2 ?_
 refine Nt ?_
 refine Rt ?_
 obtain rfl := Ab h26
 exact Re [(.bool (r24 == 1))] hs29 rfl
def KO (N : Nat) (x0 : (List Clause)) (x1 : (List Int)) : Option Int :=
 ((Cc N x0 (fun y0 => Gl N y0 x1)).bind fun r27 => some r27)
theorem L1 : Au Tryz.prog 103 := fun _ _ => by kernel_rfl
theorem Mx (N : Nat) (w0 : World) (F0 : Mem) (hF : TP w0 F0) (x0 : (List Clause)) (a0_0 : TO) (n0_0 : Nat) (hb0_0 : LC x0.length n0_0) (hs0_0 : SlA Ay F0 a0_0 x0) (x1 : (List Int)) (a1_0 : TO) (n1_0 : Nat) (hb1_0 : LC x1.length n1_0) (hs1_0 : SlA Do F0 a1_0 x1) (r : Int) (h : KO N x0 x1 = some r) :
  Calls Tryz.prog 103 ([(.slice a0_0 x0.length n0_0), (.slice a1_0 x1.length n1_0)] : List Value).toArray w0 (Bd w0 F0 fun F' v => v = (vi r)) := by
 have hs0 := Tp hF
 refine Go 8 Tryz.func103 ?_
 refine Sq (Rg [0, 1] ?_)
 refine Bx' 47 #[(.slice a1_0 x1.length n1_0)] hs0 (fun b21 w22 hs23 => ?_)
 refine Vs 1 ?_
 refine Nss (Rg [0, 1, 2, 3] ?_)
 refine Vs 2 ?_
 obtain ⟨F1, hs24, le25, hF26⟩ := hs23.fc0
 obtain ⟨r27, hr28, h29⟩ := bind_some h
 refine Cl' Dh hs24 (Dq N w22 F1 hs24.pers x0 a0_0 n0_0 hb0_0 (Tq hs0_0 le25) 163 [] [(pt b21 0)] (fun y0 => Gl N y0 x1) Ky (fun w1 F1 y0 ay0_2 ny0_2 hby0_2 hsy0_2 ay0_5 ny0_5 hby0_5 hsy0_5 r le1 pe1 hr1 => Li N w1 F1 pe1  y0 ay0_2 ny0_2 hby0_2 hsy0_2 ay0_5 ny0_5 hby0_5 hsy0_5 b21 x1 a1_0 n1_0 hb1_0 (Tq (Tq hs1_0 le25) le1) (le1 _ _ hF26) r hr1) _ hr28) ?_
 rintro _ F2 w31 hs32 le33 rfl
 refine Vs 1 ?_
 refine Nt ?_
 refine Rt ?_
 obtain rfl := Ab h29
 exact Re [(vi r27)] hs32 rfl









def CG (N : Nat) (x1 : Int) : Option (List Clause) :=
 (bif (decide (x1 < 0)) then none else (bif (decide ((W64 (x1 - (W64 (0 - (([] : List Clause).length : Int))))) > 0)) then ((mk0 ({ When := ({ Op := 0, Value := 0, Kids := ([] : List Expr) } : Expr), Then := ({ Op := 0, Value := 0, Kids := ([] : List Expr) } : Expr) } : Clause) (W64 (x1 - (W64 (0 - (([] : List Clause).length : Int)))))).bind fun r7 => ((sub r7 0 (([] : List Clause).length : Int)).bind fun r17 => some r17)) else some ([] : List Clause)))
theorem DN : Au Tryz.prog 173 := fun _ _ => by kernel_rfl
theorem DV (N : Nat) (w0 : World) (F0 : Mem) (hF : TP w0 F0) (x1 : Int) (r : (List Clause)) (h : CG N x1 = some r) :
  Calls Tryz.prog 173 ([.slice none 0 0, (vi x1)] : List Value).toArray w0 (RZ w0 F0 fun F' v L' => ∃ (a : TO) (n : Nat) (e : Option Nat × Obj), v = .slice a r.length n /\ L' = [e] /\ Av Ay 56 F' a n r e) := by
 have hs0 := Tp hF
 refine FO (n := 27) (c := CT Tryz.f173) Tryz.func173 (by kernel_rfl) (by kernel_rfl) (by kernel_rfl) ?_
 refine Sq (Rg [0] ?_)
 refine Vs 1 ?_
 refine Nss ?_
 refine Sq (Rg [0, 1] ?_)
 refine Vs 1 ?_
 refine Vs 1 ?_
 refine Nt ?_
 refine Cd h (fun hb1 h2 => ?_) (fun hb1 h3 => ?_)
 ·refine Rg [0, 1] ?_
  refine V 7 20 (GM (t := 9) (x := (.const (.string ⟨([99, 97, 110, 110, 111, 116, 32, 98, 101, 32, 110, 101, 103, 97, 116, 105, 118, 101] : TN).toArray⟩))) (v := (.string ⟨(([99, 97, 110, 110, 111, 116, 32, 98, 101, 32, 110, 101, 103, 97, 116, 105, 118, 101] : TN)).toArray⟩)) rfl (by kernel_rfl)) ?_
  cases h2
 ·refine Sc ?_
  refine Ad ?_
  refine Sq ?_
  refine Sq (Rg [0, 1, 2, 3, 4, 5, 6, 7] ?_)
  refine Vs 1 ?_
  refine Vs 1 ?_
  refine V 10 3 (II (x := (.tmp 9)) (ats := #[23]) (a := none) (n := 0) (c := 0) (E := 56) (s := 6) (by_ := 80) rfl rfl (by kernel_rfl)) ?_
  refine Vs 1 ?_
  refine Vs 1 ?_
  refine Vs 1 ?_
  refine Vs 1 ?_
  refine Vs 1 ?_
  refine Nss (Rg [0, 1] ?_)
  refine Vs 1 ?_
  refine Vs 1 ?_
  refine Nt ?_
  refine Cd h3 (fun hb4 h5 => ?_) (fun hb4 h6 => ?_)
  ·refine Rg [0, 1, 2, 3, 4, 5, 6, 7, 8, 9] ?_
   refine Vs 1 ?_
   refine Vs 1 ?_
   refine V 19 3 (II (x := (.tmp 18)) (ats := #[23]) (a := none) (n := 0) (c := 0) (E := 56) (s := 6) (by_ := 80) rfl rfl (by kernel_rfl)) ?_
   refine V 20 23 (Mq (t := 23) (x := (.tmp 17)) (y := (.tmp 19)) (E := 56) (s := 6) (by_ := 80) rfl (by kernel_rfl) (by kernel_rfl) rfl) ?_
   refine Vs 1 ?_
   obtain ⟨r7, hm8, h9⟩ := bind_some h5
   refine RWP.appendNil (dst := (some 22)) (ty := 23) (g := none) (by kernel_rfl) rfl (x := (.tmp 20)) (y := (.tmp 21)) (t := 23) (t2 := 3) (by_ := 80) (z := (.agg #[(vi 0), (vi 0), (.slice none ([] : List Expr).length 0), (vi 0), (vi 0), (.slice none ([] : List Expr).length 0)])) (T := Ay) (E := 56) rfl rfl (by kernel_rfl) (by decide) (by kernel_rfl) (by kernel_rfl) (z0 := ({ When := ({ Op := 0, Value := 0, Kids := ([] : List Expr) } : Expr), Then := ({ Op := 0, Value := 0, Kids := ([] : List Expr) } : Expr) } : Clause)) (fun _ => ⟨none, 0, none, 0, rfl, Tr, (.inl rfl), Tr, (.inl rfl)⟩) (by decide) hs0 hm8 (fun a10 n11 e12 w13 (hs14 : HS w0 F0 w13 F0 [e12]) hr15 => ?_)
   refine Vs 1 ?_
   refine Vs 1 ?_
   obtain ⟨r17, hr18, h19⟩ := bind_some h9
   refine RWP.sliceRow (T := Ay) (x := (.tmp 22)) (y := (.tmp 24)) (t := 23) (E := 56) (by_ := 80) (c := n11) (a := a10) (l := r7) (r := r17) (ih := (([] : List Clause).length : Int)) (dst := (some 25)) (ty := 23) (g := none) (by kernel_rfl) rfl rfl (by kernel_rfl) (by kernel_rfl) hr15 rfl hr18 (fun hr20 => ?_)
   refine Vs 1 ?_
   refine Nss (Rg [0, 1] ?_)
   refine Vs 1 ?_
   refine Vs 1 ?_
   refine Nt ?_
   refine Rt ?_
   have hfin := Ab h19
   subst hfin
   exact ⟨rfl, (.slice a10 r17.length n11), AE (l := [.tmp 4]) (by kernel_rfl) (vs := [(.slice a10 r17.length n11)]) ⟨rfl, trivial⟩, (.slice a10 r17.length n11), F0, _, rfl, hs14, _, _, _, rfl, rfl, hr20⟩
  ·refine Sc ?_
   refine Ad ?_
   refine Sq (Rg [0, 1] ?_)
   refine Vs 1 ?_
   refine Vs 1 ?_
   refine Nt ?_
   refine Rt ?_
   have hs21 := hs0.dummy (oc #[] 0)
   have hfin := Ab h6
   subst hfin
   exact ⟨rfl, (.slice none ([] : List Clause).length 0), AE (l := [.tmp 4]) (by kernel_rfl) (vs := [(.slice none ([] : List Clause).length 0)]) ⟨rfl, trivial⟩, (.slice none ([] : List Clause).length 0), F0, _, rfl, hs21, _, _, _, rfl, rfl, (TG Ay 56 F0 _)⟩
def Cf (N : Nat) (x0 : (List (List Clause))) : (Int × Int) -> Option (Bv (List Clause) (Int × Int)) := fun s24 =>
 (bif (decide (s24.2 < (x0.length : Int))) then ((idx x0 s24.2).bind fun x50 => (bif (decide ((W64 (s24.1 + (x50.length : Int))) < 0)) then none else some (.next ((W64 (s24.1 + (x50.length : Int))), (W64 (s24.2 + 1)))))) else some (.done (s24.1, s24.2)))
def Ce (N : Nat) (x0 : (List (List Clause))) (s34 : (Int × Int)) (r70 : (List Clause)) : (List Clause × Int) -> Option (Bv (List Clause) (List Clause × Int)) := fun s87 =>
 (bif (decide (s87.2 < (x0.length : Int))) then ((idx x0 s87.2).bind fun x111 => ((CU s87.1 x111).bind fun r125 => some (.next (r125, (W64 (s87.2 + 1)))))) else some (.done (s87.1, s87.2)))
def Cx (N : Nat) (x0 : (List (List Clause))) : Option (List Clause) :=
 ((Be (Cf N x0) N (0, 0)).bind fun o => o.k (fun r => some r) (fun s34 => ((CG N s34.1).bind fun r70 => ((Be (Ce N x0 s34 r70) N (r70, 0)).bind fun o => o.k (fun r => some r) (fun s96 => some s96.1)))))
theorem DE : Au Tryz.prog 122 := fun _ _ => by kernel_rfl
theorem DL (N : Nat) (w0 : World) (F0 : Mem) (hF : TP w0 F0) (x0 : (List (List Clause))) (a0_0 : TO) (n0_0 : Nat) (hb0_0 : LC x0.length n0_0) (hs0_0 : SlA (tSl Ay) F0 a0_0 x0) (r : (List Clause)) (h : Cx N x0 = some r) :
  Calls Tryz.prog 122 ([(.slice a0_0 x0.length n0_0)] : List Value).toArray w0 (Bd w0 F0 fun F' v => ∃ (aq0_0 : TO) (nq0_0 : Nat), v = (.slice aq0_0 r.length nq0_0) /\ LC r.length nq0_0 /\ SlA Ay F' aq0_0 r) := by
 have hs0 := Tp hF
 refine Go 36 Tryz.func122 ?_
 refine Sq (Rg [0] ?_)
 refine Vs 1 ?_
 refine Nss (Rg [0] ?_)
 refine Vs 1 ?_
 refine Nss ?_
 refine Sq (Rg [0, 1, 2] ?_)
 refine Vs 3 ?_
 refine Nt ?_
 obtain ⟨o21, ho22, h23⟩ := bind_some h
 refine Tu (fun f w => ∃ (s34 : (Int × Int)) (F2 : Mem), o21 = .done s34 /\ HS w0 F0 w F2 [] /\ Tn F0 F2 /\ FI f [] [(0, (.slice a0_0 x0.length n0_0)), (3, (vi s34.1))]) ?_ ?_
 ·refine Bk ?_
  refine Tm (by kernel_rfl) (fun m f w => ∃ (s24 : (Int × Int)) (F1 : Mem), Be (Cf N x0) m s24 = some o21 /\ HS w0 F0 w F1 [] /\ Tn F0 F1 /\ FI f [] [(0, (.slice a0_0 x0.length n0_0)), (3, (vi s24.1)), (9, (.slice a0_0 x0.length n0_0)), (10, (vi (x0.length : Int))), (11, (vi s24.2))]) N ⟨(0, 0), F0, ho22, hs0, (To _), fI⟩ ?_
  rintro m41 f w25 ⟨s24, F1, hit42, hs26, le27, ⟨_, rfl⟩⟩
  obtain ⟨m43, fl44, rfl, hb45, hnx46⟩ := A5 hit42
  refine Sq (Rg [0] ?_)
  refine Vs 1 ?_
  refine Nss ?_
  refine Cd hb45 (fun hb47 h48 => ?_) (fun hb47 h49 => ?_)
  ·refine Sc ?_
   refine Ad ?_
   refine Sq ?_
   refine Bk ?_
   refine Sq (Rg [0, 1, 2] ?_)
   obtain ⟨x50, hx51, h53⟩ := bind_some h48
   obtain ⟨hi52, hx51'⟩ := Az hx51
   obtain ⟨b54, o55, C56, E57, fz58, rfl, hF60, hE61⟩ := Tx (Tq hs0_0 le27) hx51'
   obtain ⟨ae62_0, ne62_0, hc63, hbe62_0, hse62_0⟩ := hE61 _ _ hx51'
   refine Ix hi52 ?_
   refine Lx 0 (hs26.pers _ _ hF60) hc63 ?_
   refine Vs 1 ?_
   refine Nss (Rg [0, 1, 2, 3, 4] ?_)
   refine Vs 5 ?_
   refine Nss (Rg [0, 1] ?_)
   refine Vs 2 ?_
   refine Nt ?_
   refine Cd h53 (fun hb64 h65 => ?_) (fun hb64 h66 => ?_)
   ·refine Rg [0, 1] ?_
    refine V 21 20 (GM (t := 9) (x := (.const (.string ⟨([108, 101, 110, 32, 111, 117, 116, 32, 111, 102, 32, 114, 97, 110, 103, 101] : TN).toArray⟩))) (v := (.string ⟨(([108, 101, 110, 32, 111, 117, 116, 32, 111, 102, 32, 114, 97, 110, 103, 101] : TN)).toArray⟩)) rfl (by kernel_rfl)) ?_
    cases h65
   ·refine Sc ?_
    refine AA ?_
    refine Ad ?_
    refine Rg [0, 1] ?_
    refine Vs 2 ?_
    refine Tj ?_
    have hn67 := AW h66 hnx46
    exact ⟨m43, Nat.lt_succ_self _, ((W64 (s24.1 + (x50.length : Int))), (W64 (s24.2 + 1))), F1, hn67, hs26, le27, fI⟩
  ·refine Ex ?_
   refine AC ?_
   refine AC ?_
   refine AL rfl ?_
   have ho68 := A8 h49 hnx46
   exact .inl ⟨rfl, (s24.1, s24.2), F1, ho68, hs26, le27, fI⟩
 ·rintro f w35 ⟨s34, F2, rfl, hs36, le37, ⟨_, rfl⟩⟩
  have h69 := BT h23
  refine Ad ?_
  refine Sq (Rg [0, 1, 2] ?_)
  refine Vs 1 ?_
  obtain ⟨r70, hr71, h72⟩ := bind_some h69
  refine RWP.callO (dst := (some 24)) (ty := 23) (g := none) (by kernel_rfl) rfl (f0 := (.func 173)) (aos := #[(.const (.slice none 0 0)), (.tmp 23)]) (ats := #[23, 3]) (fid := 173) (first := #[]) (cap := #[]) (args := [(.slice none ([] : List Clause).length 0), (vi s34.1)]) rfl DN rfl hs36 (DV N w35 F2 hs36.pers s34.1 _ hr71) ?_
  rintro _ F3 w74 _ hs75 le76 ⟨a78, n79, e80, rfl, rfl, hr81⟩
  have hs83 : HS w0 F0 w74 F3 [e80] := hs75
  refine Vs 1 ?_
  refine Nss ?_
  refine Sq (Rg [0, 1, 2] ?_)
  refine Vs 3 ?_
  refine Nt ?_
  obtain ⟨o84, ho85, h86⟩ := bind_some h72
  refine Tu (fun f w => ∃ (s96 : (List Clause × Int)) (F5 : Mem) (as96_0 : TO) (ns96_0 : Nat) (es96_0 : Option Nat × Obj), o84 = .done s96 /\ HS w0 F0 w F5 [es96_0] /\ Tn F3 F5 /\ FI f [] [(6, (.slice as96_0 s96.1.length ns96_0))] /\ Av Ay 56 F5 as96_0 ns96_0 s96.1 es96_0) ?_ ?_
  ·refine Bk ?_
   refine Tm (by kernel_rfl) (fun m f w => ∃ (s87 : (List Clause × Int)) (F4 : Mem) (as87_0 : TO) (ns87_0 : Nat) (es87_0 : Option Nat × Obj), Be (Ce N x0 s34 r70) m s87 = some o84 /\ HS w0 F0 w F4 [es87_0] /\ Tn F3 F4 /\ FI f [] [(6, (.slice as87_0 s87.1.length ns87_0)), (25, (.slice a0_0 x0.length n0_0)), (26, (vi (x0.length : Int))), (27, (vi s87.2))] /\ Av Ay 56 F4 as87_0 ns87_0 s87.1 es87_0) N ⟨(r70, 0), F3, a78, n79, e80, ho85, hs83, (To _), fI, hr81⟩ ?_
   rintro m102 f w88 ⟨s87, F4, as87_0, ns87_0, es87_0, hit103, hs89, le90, ⟨_, rfl⟩, hrs87_0⟩
   obtain ⟨m104, fl105, rfl, hb106, hnx107⟩ := A5 hit103
   refine Sq (Rg [0] ?_)
   refine Vs 1 ?_
   refine Nss ?_
   refine Cd hb106 (fun hb108 h109 => ?_) (fun hb108 h110 => ?_)
   ·refine Sc ?_
    refine Ad ?_
    refine Sq ?_
    refine Bk ?_
    refine Sq (Rg [0, 1, 2] ?_)
    obtain ⟨x111, hx112, h114⟩ := bind_some h109
    obtain ⟨hi113, hx112'⟩ := Az hx112
    obtain ⟨b115, o116, C117, E118, fz119, rfl, hF121, hE122⟩ := Tx (Tq hs0_0 ((le37.trans le76).trans le90)) hx112'
    obtain ⟨ae123_0, ne123_0, hc124, hbe123_0, hse123_0⟩ := hE122 _ _ hx112'
    refine Ix hi113 ?_
    refine Lx 0 (hs89.pers _ _ hF121) hc124 ?_
    refine Vs 1 ?_
    refine Nt ?_
    refine Rg [0, 1, 2, 3] ?_
    refine Vs 2 ?_
    obtain ⟨r125, hap126, h127⟩ := bind_some h114
    refine Ap0 GR hs89 hrs87_0 (SlA.rd hs89 hse123_0) hap126 (fun a128 n129 e130 w131 hs132 hr133 => ?_)
    refine Vs 1 ?_
    refine Tj ?_
    refine AA ?_
    refine Ad ?_
    refine Rg [0, 1] ?_
    refine Vs 2 ?_
    refine Tj ?_
    have hn134 := AW h127 hnx107
    exact ⟨m104, Nat.lt_succ_self _, (r125, (W64 (s87.2 + 1))), F4, a128, n129, e130, hn134, hs132, le90, fI, hr133⟩
   ·refine Ex ?_
    refine AC ?_
    refine AC ?_
    refine AL rfl ?_
    have ho135 := A8 h110 hnx107
    exact .inl ⟨rfl, (s87.1, s87.2), F4, as87_0, ns87_0, es87_0, ho135, hs89, le90, fI, hrs87_0⟩
  ·rintro f w97 ⟨s96, F5, as96_0, ns96_0, es96_0, rfl, hs98, le99, ⟨_, rfl⟩, hrs96_0⟩
   have h136 := BT h86
   refine Ad ?_
   refine Sq (Rg [0, 1] ?_)
   refine Vs 2 ?_
   refine Nt ?_
   refine Rt ?_
   have hb140 := TF hrs96_0
   obtain ⟨F6, hs137, le138, hs139⟩ := hs98.fr0 hrs96_0
   obtain rfl := Ab h136
   exact Re [(.slice as96_0 s96.1.length ns96_0)] hs137 ⟨as96_0, ns96_0, rfl, hb140, hs139⟩
def Hn (N : Nat) (x0 : BC) (r36 : (List Clause)) : (Int × Int) -> Option (Bv (Int × Int) (Int × Int)) := fun s47 =>
 (bif (decide (s47.2 < (r36.length : Int))) then ((idx r36 s47.2).bind fun x73 => ((FV N x73).bind fun r92 => (bif (!r92) then some (.ret (62, (W64 (s47.1 + 1)))) else some (.next ((W64 (s47.1 + 1)), (W64 (s47.2 + 1))))))) else some (.done (s47.1, s47.2)))
def Hm (N : Nat) (x0 : BC) (r36 : (List Clause)) (s57 : (Int × Int)) : (Int × Int) -> Option (Bv (Int × Int) (Int × Int)) := fun s109 =>
 (bif (decide (s109.2 < (x0.Repeats.length : Int))) then ((idx x0.Repeats s109.2).bind fun x132 => ((Jr N x132 1).bind fun r151 => (bif (!r151) then some (.ret (62, (W64 (s109.1 + 1)))) else some (.next ((W64 (s109.1 + 1)), (W64 (s109.2 + 1))))))) else some (.done (s109.1, s109.2)))
def KQ (N : Nat) (x0 : BC) : Option (Int × Int) :=
 (bif (decide ((max (max (max (x0.Points.length : Int) (x0.Multipliers.length : Int)) (x0.Penalties.length : Int)) (x0.Repeats.length : Int)) > 64)) then some (2, 0) else ((Cx N ([x0.Points, x0.Multipliers, x0.Penalties])).bind fun r36 => ((Be (Hn N x0 r36) N (0, 0)).bind fun o => o.k (fun r => some r) (fun s57 => ((Be (Hm N x0 r36 s57) N (s57.1, 0)).bind fun o => o.k (fun r => some r) (fun s118 => some (0, 0)))))))
theorem L3 : Au Tryz.prog 70 := fun _ _ => by kernel_rfl
theorem Mz (N : Nat) (w0 : World) (F0 : Mem) (hF : TP w0 F0) (x0 : BC) (a0_0 : TO) (n0_0 : Nat) (hb0_0 : LC x0.Points.length n0_0) (hs0_0 : SlA Ay F0 a0_0 x0.Points) (a0_1 : TO) (n0_1 : Nat) (hb0_1 : LC x0.Multipliers.length n0_1) (hs0_1 : SlA Ay F0 a0_1 x0.Multipliers) (a0_2 : TO) (n0_2 : Nat) (hb0_2 : LC x0.Penalties.length n0_2) (hs0_2 : SlA Ay F0 a0_2 x0.Penalties) (a0_3 : TO) (n0_3 : Nat) (hb0_3 : LC x0.Repeats.length n0_3) (hs0_3 : SlA As F0 a0_3 x0.Repeats) (r : (Int × Int)) (h : KQ N x0 = some r) :
  Calls Tryz.prog 70 ([(.agg (AU x0 a0_0 n0_0 a0_1 n0_1 a0_2 n0_2 a0_3 n0_3))] : List Value).toArray w0 (Bd w0 F0 fun F' v => v = (.tuple #[(vi r.1), (vi r.2)])) := by
 have hs0 := Tp hF
 refine Go 57 Tryz.func70 ?_
 refine Sq (Rg [0, 1, 2] ?_)
 refine Bx' 26 (AU x0 a0_0 n0_0 a0_1 n0_1 a0_2 n0_2 a0_3 n0_3) hs0 (fun b21 w22 hs23 => ?_)
 refine Vs 2 ?_
 refine Nss ?_
 refine Sq (Rg [0, 1, 2, 3, 4, 5, 6, 7, 8, 9, 10, 11, 12, 13] ?_)
 refine Vs 1 ?_
 refine Ld hs23.at0 ?_
 refine Vs 2 ?_
 refine Ld hs23.at0 ?_
 refine Vs 2 ?_
 refine Ld hs23.at0 ?_
 refine Vs 2 ?_
 refine Ld hs23.at0 ?_
 refine Vs 1 ?_
 refine V 21 3 (Qo (x := (.tmp 11)) (y := (.tmp 14)) (z := (.tmp 17)) (u := (.tmp 20)) (ats := #[3, 3, 3, 3]) (a := (x0.Points.length : Int)) (b := (x0.Multipliers.length : Int)) (c := (x0.Penalties.length : Int)) (d := (x0.Repeats.length : Int)) rfl rfl rfl rfl) ?_
 refine Vs 1 ?_
 refine Nt ?_
 refine Cd h (fun hb24 h25 => ?_) (fun hb24 h26 => ?_)
 ·refine Sq (Rg [0, 1] ?_)
  refine Vs 2 ?_
  refine Nt ?_
  refine Rt ?_
  refine Aj ?_
  obtain rfl := Ab h25
  exact Re [(vi 2), (vi 0)] hs23 rfl
 ·refine Sc ?_
  refine Ad ?_
  refine Sq (Rg [0] ?_)
  refine Vs 1 ?_
  refine Nss ?_
  refine Sq (Rg [0, 1, 2, 3, 4, 5, 6, 7, 8, 9] ?_)
  refine Vs 1 ?_
  refine Ld hs23.at0 ?_
  refine Vs 1 ?_
  refine Ld hs23.at0 ?_
  refine Vs 1 ?_
  refine Ld hs23.at0 ?_
  refine Bs 23 [(.slice a0_0 x0.Points.length n0_0), (.slice a0_1 x0.Multipliers.length n0_1), (.slice a0_2 x0.Penalties.length n0_2)] hs23 (fun b27 w28 hs29 => ?_)
  have hr31 : Av (tSl Ay) 23 F0 (some ⟨b27, 0, none⟩) 3 [x0.Points, x0.Multipliers, x0.Penalties] (some b27, .cells ([(.slice a0_0 x0.Points.length n0_0), (.slice a0_1 x0.Multipliers.length n0_1), (.slice a0_2 x0.Penalties.length n0_2)] : List Value).toArray 23 (0, 0)) := TH ⟨⟨a0_0, n0_0, rfl, hb0_0, hs0_0⟩, ⟨⟨a0_1, n0_1, rfl, hb0_1, hs0_1⟩, ⟨⟨a0_2, n0_2, rfl, hb0_2, hs0_2⟩, rfl⟩⟩⟩ (by simp)
  have hb35 := TF hr31
  obtain ⟨F1, hs32, le33, hs34⟩ := hs29.fr0 hr31
  obtain ⟨r36, hr37, h38⟩ := bind_some h26
  refine Cl' DE hs32 (DL N w28 F1 hs32.pers ([x0.Points, x0.Multipliers, x0.Penalties]) (some ⟨b27, 0, none⟩) 3 hb35 hs34 _ hr37) ?_
  rintro _ F2 w40 hs41 le42 ⟨ar36_0_0, nr36_0_0, rfl, hbr36_0_0, hsr36_0_0⟩
  refine Vs 2 ?_
  refine Nt ?_
  obtain ⟨o44, ho45, h46⟩ := bind_some h38
  refine Tu (fun f w => ∃ (s57 : (Int × Int)) (F4 : Mem), o44 = .done s57 /\ HS w0 F0 w F4 [(sb b21 (AU x0 a0_0 n0_0 a0_1 n0_1 a0_2 n0_2 a0_3 n0_3) 26)] /\ Tn F2 F4 /\ FI f [] [(1, (pt b21 0)), (4, (vi s57.1))]) ?_ ?_
  ·refine Bk ?_
   refine Tm (by kernel_rfl) (fun m f w => ∃ (s47 : (Int × Int)) (F3 : Mem), Be (Hn N x0 r36) m s47 = some o44 /\ HS w0 F0 w F3 [(sb b21 (AU x0 a0_0 n0_0 a0_1 n0_1 a0_2 n0_2 a0_3 n0_3) 26)] /\ Tn F2 F3 /\ FI f [] [(1, (pt b21 0)), (4, (vi s47.1)), (30, (.slice ar36_0_0 r36.length nr36_0_0)), (31, (vi (r36.length : Int))), (32, (vi s47.2))]) N ⟨(0, 0), F2, ho45, hs41, (To _), fI⟩ ?_
   rintro m64 f w48 ⟨s47, F3, hit65, hs49, le50, ⟨_, rfl⟩⟩
   obtain ⟨m66, fl67, rfl, hb68, hnx69⟩ := A5 hit65
   refine Sq (Rg [0] ?_)
   refine Vs 1 ?_
   refine Nss ?_
   refine Cd hb68 (fun hb70 h71 => ?_) (fun hb70 h72 => ?_)
   ·refine Sc ?_
    refine Ad ?_
    refine Sq ?_
    refine Bk ?_
    refine Sq (Rg [0, 1, 2, 3] ?_)
    obtain ⟨x73, hx74, h76⟩ := bind_some h71
    obtain ⟨hi75, hx74'⟩ := Az hx74
    obtain ⟨b77, o78, C79, E80, fz81, rfl, hF83, hE84⟩ := Tx (Tq hsr36_0_0 le50) hx74'
    obtain ⟨ae85_2, ne85_2, ae85_5, ne85_5, hc86, hbe85_2, hse85_2, hbe85_5, hse85_5⟩ := hE84 _ _ hx74'
    refine Ix hi75 ?_
    refine Lx 0 (hs49.pers _ _ hF83) hc86 ?_
    refine Al' 56 #[(vi 0), (vi 0), (.slice none ([] : List Expr).length 0), (vi 0), (vi 0), (.slice none ([] : List Expr).length 0)] hs49 (fun b87 w88 hs89 => ?_)
    refine St0 (JB x73 ae85_2 ne85_2 ae85_5 ne85_5) hs89 (fun w90 hs91 => ?_)
    refine Nss (Rg [0, 1, 2] ?_)
    refine Vs 3 ?_
    refine Nss (Rg [0, 1, 2] ?_)
    refine Ld hs91.at0 ?_
    obtain ⟨r92, hr93, h94⟩ := bind_some h76
    refine Cl' Hy hs91 (Iq N w90 F3 hs91.pers x73 ae85_2 ne85_2 hbe85_2 hse85_2 ae85_5 ne85_5 hbe85_5 hse85_5 _ hr93) ?_
    rintro _ F5 w96 hs97 le98 rfl
    refine Vs 1 ?_
    refine Nt ?_
    refine Cd h94 (fun hb100 h101 => ?_) (fun hb100 h102 => ?_)
    ·refine Sq (Rg [0, 1, 2] ?_)
     refine Vs 3 ?_
     refine Nt ?_
     refine Rt ?_
     refine Ao ?_
     refine Aj ?_
     refine Aj ?_
     refine Ao ?_
     have hret := B9 h101 hnx69
     subst hret
     refine .inr ?_
     refine Aj ?_
     obtain rfl := Ab h46
     exact Re [(vi 62), (vi (W64 (s47.1 + 1)))] hs97 rfl
    ·refine Sc ?_
     refine AA ?_
     refine Ad ?_
     refine Rg [0, 1] ?_
     refine Vs 2 ?_
     refine Tj ?_
     have hn103 := AW h102 hnx69
     exact ⟨m66, Nat.lt_succ_self _, ((W64 (s47.1 + 1)), (W64 (s47.2 + 1))), F5, hn103, hs97.dr0, (le50.trans le98), fI⟩
   ·refine Ex ?_
    refine AC ?_
    refine AC ?_
    refine AL rfl ?_
    have ho104 := A8 h72 hnx69
    exact .inl ⟨rfl, (s47.1, s47.2), F3, ho104, hs49, le50, fI⟩
  ·rintro f w58 ⟨s57, F4, rfl, hs59, le60, ⟨_, rfl⟩⟩
   have h105 := BT h46
   refine Ad ?_
   refine Sq ?_
   refine Sq (Rg [0, 1, 2, 3] ?_)
   refine Vs 1 ?_
   refine Ld hs59.at0 ?_
   refine Vs 2 ?_
   refine Nt ?_
   obtain ⟨o106, ho107, h108⟩ := bind_some h105
   refine Tu (fun f w => ∃ (s118 : (Int × Int)) (F7 : Mem), o106 = .done s118 /\ HS w0 F0 w F7 [] /\ Tn F4 F7 /\ FI f [] []) ?_ ?_
   ·refine Bk ?_
    refine Tm (by kernel_rfl) (fun m f w => ∃ (s109 : (Int × Int)) (F6 : Mem), Be (Hm N x0 r36 s57) m s109 = some o106 /\ HS w0 F0 w F6 [] /\ Tn F4 F6 /\ FI f [] [(4, (vi s109.1)), (44, (.slice a0_3 x0.Repeats.length n0_3)), (45, (vi (x0.Repeats.length : Int))), (46, (vi s109.2))]) N ⟨(s57.1, 0), F4, ho107, hs59.dr0, (To _), fI⟩ ?_
    rintro m123 f w110 ⟨s109, F6, hit124, hs111, le112, ⟨_, rfl⟩⟩
    obtain ⟨m125, fl126, rfl, hb127, hnx128⟩ := A5 hit124
    refine Sq (Rg [0] ?_)
    refine Vs 1 ?_
    refine Nss ?_
    refine Cd hb127 (fun hb129 h130 => ?_) (fun hb129 h131 => ?_)
    ·refine Sc ?_
     refine Ad ?_
     refine Sq ?_
     refine Bk ?_
     refine Sq (Rg [0, 1, 2, 3] ?_)
     obtain ⟨x132, hx133, h135⟩ := bind_some h130
     obtain ⟨hi134, hx133'⟩ := Az hx133
     obtain ⟨b136, o137, C138, E139, fz140, rfl, hF142, hE143⟩ := Tx (Tq hs0_3 (((le33.trans le42).trans le60).trans le112)) hx133'
     obtain ⟨ae144_2, ne144_2, hc145, hbe144_2, hse144_2⟩ := (A1 (hE143 _ _ hx133'))
     refine Ix hi134 ?_
     refine Lx 0 (hs111.pers _ _ hF142) hc145 ?_
     refine Al' 33 #[(vi 0), (vi 0), (.slice none ([] : List Expr).length 0)] hs111 (fun b146 w147 hs148 => ?_)
     refine St0 (Ai x132 ae144_2 ne144_2) hs148 (fun w149 hs150 => ?_)
     refine Nss (Rg [0, 1, 2] ?_)
     refine Vs 3 ?_
     refine Nss (Rg [0, 1, 2] ?_)
     refine Ld hs150.at0 ?_
     obtain ⟨r151, hr152, h153⟩ := bind_some h135
     refine Cl' HF hs150 (Jf N w149 F6 hs150.pers x132 ae144_2 ne144_2 hbe144_2 hse144_2 1 _ hr152) ?_
     rintro _ F8 w155 hs156 le157 rfl
     refine Vs 1 ?_
     refine Nt ?_
     refine Cd h153 (fun hb159 h160 => ?_) (fun hb159 h161 => ?_)
     ·refine Sq (Rg [0, 1, 2] ?_)
      refine Vs 3 ?_
      refine Nt ?_
      refine Rt ?_
      refine Ao ?_
      refine Aj ?_
      refine Aj ?_
      refine Ao ?_
      have hret := B9 h160 hnx128
      subst hret
      refine .inr ?_
      refine Aj ?_
      obtain rfl := Ab h108
      exact Re [(vi 62), (vi (W64 (s109.1 + 1)))] hs156 rfl
     ·refine Sc ?_
      refine AA ?_
      refine Ad ?_
      refine Rg [0, 1] ?_
      refine Vs 2 ?_
      refine Tj ?_
      have hn162 := AW h161 hnx128
      exact ⟨m125, Nat.lt_succ_self _, ((W64 (s109.1 + 1)), (W64 (s109.2 + 1))), F8, hn162, hs156.dr0, (le112.trans le157), fI⟩
    ·refine Ex ?_
     refine AC ?_
     refine AC ?_
     refine AL rfl ?_
     have ho163 := A8 h131 hnx128
     exact .inl ⟨rfl, (s109.1, s109.2), F6, ho163, hs111, le112, fI⟩
   ·rintro f w119 ⟨s118, F7, rfl, hs120, le121, ⟨_, rfl⟩⟩
    have h164 := BT h108
    refine Ad ?_
    refine Sq (Rg [0, 1] ?_)
    refine Vs 2 ?_
    refine Nt ?_
    refine Rt ?_
    obtain rfl := Ab h164
    exact Re [(vi 0), (vi 0)] hs120 rfl
def KP (N : Nat) (x0 : BC) : Option Bool :=
 ((KQ N x0).bind fun r24 => some (r24.1 == 0))
theorem L2 : Au Tryz.prog 54 := fun _ _ => by kernel_rfl
theorem My (N : Nat) (w0 : World) (F0 : Mem) (hF : TP w0 F0) (x0 : BC) (a0_0 : TO) (n0_0 : Nat) (hb0_0 : LC x0.Points.length n0_0) (hs0_0 : SlA Ay F0 a0_0 x0.Points) (a0_1 : TO) (n0_1 : Nat) (hb0_1 : LC x0.Multipliers.length n0_1) (hs0_1 : SlA Ay F0 a0_1 x0.Multipliers) (a0_2 : TO) (n0_2 : Nat) (hb0_2 : LC x0.Penalties.length n0_2) (hs0_2 : SlA Ay F0 a0_2 x0.Penalties) (a0_3 : TO) (n0_3 : Nat) (hb0_3 : LC x0.Repeats.length n0_3) (hs0_3 : SlA As F0 a0_3 x0.Repeats) (r : Bool) (h : KP N x0 = some r) :
  Calls Tryz.prog 54 ([(.agg (AU x0 a0_0 n0_0 a0_1 n0_1 a0_2 n0_2 a0_3 n0_3))] : List Value).toArray w0 (Bd w0 F0 fun F' v => v = (.bool r)) := by
 have hs0 := Tp hF
 refine Go 12 Tryz.func54 ?_
 refine Sq (Rg [0, 1] ?_)
 refine Bx' 26 (AU x0 a0_0 n0_0 a0_1 n0_1 a0_2 n0_2 a0_3 n0_3) hs0 (fun b21 w22 hs23 => ?_)
 refine Vs 1 ?_
 refine Nss (Rg [0, 1, 2, 3, 4, 5, 6] ?_)
 refine Ld hs23.at0 ?_
 obtain ⟨r24, hr25, h26⟩ := bind_some h
 refine Cl' L3 hs23 (Mz N w22 F0 hs23.pers x0 a0_0 n0_0 hb0_0 hs0_0 a0_1 n0_1 hb0_1 hs0_1 a0_2 n0_2 hb0_2 hs0_2 a0_3 n0_3 hb0_3 hs0_3 _ hr25) ?_
 rintro _ F1 w28 hs29 le30 rfl
 refine Vs 5 ?_
 refine Nss (Rg [0, 1, 2] ?_)
 refine Vs 3 ?_
 refine Nt ?_
 refine Rt ?_
 obtain rfl := Ab h26
 exact Re [(.bool (r24.1 == 0))] hs29 rfl
def KN (N : Nat) (x0 : BC) (x1 : (List Int)) : Option Int :=
 ((KP N x0).bind fun r24 => (bif (!r24) then some 62 else ((Gz N x1).bind fun r35 => (bif (!r35) then some 63 else some 0))))
theorem L0 : Au Tryz.prog 106 := fun _ _ => by kernel_rfl
theorem Mw (N : Nat) (w0 : World) (F0 : Mem) (hF : TP w0 F0) (x0 : BC) (a0_0 : TO) (n0_0 : Nat) (hb0_0 : LC x0.Points.length n0_0) (hs0_0 : SlA Ay F0 a0_0 x0.Points) (a0_1 : TO) (n0_1 : Nat) (hb0_1 : LC x0.Multipliers.length n0_1) (hs0_1 : SlA Ay F0 a0_1 x0.Multipliers) (a0_2 : TO) (n0_2 : Nat) (hb0_2 : LC x0.Penalties.length n0_2) (hs0_2 : SlA Ay F0 a0_2 x0.Penalties) (a0_3 : TO) (n0_3 : Nat) (hb0_3 : LC x0.Repeats.length n0_3) (hs0_3 : SlA As F0 a0_3 x0.Repeats) (x1 : (List Int)) (a1_0 : TO) (n1_0 : Nat) (hb1_0 : LC x1.length n1_0) (hs1_0 : SlA Do F0 a1_0 x1) (r : Int) (h : KN N x0 x1 = some r) :
  Calls Tryz.prog 106 ([(.agg (AU x0 a0_0 n0_0 a0_1 n0_1 a0_2 n0_2 a0_3 n0_3)), (.slice a1_0 x1.length n1_0)] : List Value).toArray w0 (Bd w0 F0 fun F' v => v = (vi r)) := by
 have hs0 := Tp hF
 refine Go 13 Tryz.func106 ?_
 refine Sq (Rg [0, 1] ?_)
 refine Bx' 26 (AU x0 a0_0 n0_0 a0_1 n0_1 a0_2 n0_2 a0_3 n0_3) hs0 (fun b21 w22 hs23 => ?_)
 refine Vs 1 ?_
 refine Nss ?_
 refine Bk ?_
 refine Sq (Rg [0, 1, 2, 3] ?_)
 refine Ld hs23.at0 ?_
 obtain ⟨r24, hr25, h26⟩ := bind_some h
 refine Cl' L2 hs23 (My N w22 F0 hs23.pers x0 a0_0 n0_0 hb0_0 hs0_0 a0_1 n0_1 hb0_1 hs0_1 a0_2 n0_2 hb0_2 hs0_2 a0_3 n0_3 hb0_3 hs0_3 _ hr25) ?_
 rintro _ F1 w28 hs29 le30 rfl
 refine Vs 2 ?_
 refine Nt ?_
 refine Cd h26 (fun hb32 h33 => ?_) (fun hb32 h34 => ?_)
 ·refine Sq (Rg [0] ?_)
  refine Vs 1 ?_
  refine Nt ?_
  refine Rt ?_
  refine Ao ?_
  refine Aj ?_
  obtain rfl := Ab h33
  exact Re [(vi 62)] hs29 rfl
 ·refine Sq (Rg [0, 1, 2, 3] ?_)
  refine Vs 1 ?_
  obtain ⟨r35, hr36, h37⟩ := bind_some h34
  refine Cl' Im hs29 (Jd N w28 F1 hs29.pers x1 a1_0 n1_0 hb1_0 (Tq hs1_0 le30) _ hr36) ?_
  rintro _ F2 w39 hs40 le41 rfl
  refine Vs 2 ?_
  refine Nt ?_
  refine Cd h37 (fun hb43 h44 => ?_) (fun hb43 h45 => ?_)
  ·refine Sq (Rg [0] ?_)
   refine Vs 1 ?_
   refine Nt ?_
   refine Rt ?_
   refine Ao ?_
   refine Aj ?_
   obtain rfl := Ab h44
   exact Re [(vi 63)] hs40 rfl
  ·refine Sc ?_
   refine AA ?_
   refine Ad ?_
   refine Sq (Rg [0] ?_)
   refine Vs 1 ?_
   refine Nt ?_
   refine Rt ?_
   obtain rfl := Ab h45
   exact Re [(vi 0)] hs40 rfl



def fi {α : Type} (p : α -> Bool) (l : List α) : Int := if l.any p then (l.findIdx p : Int) else -1
theorem Sm {α : Type} {p : α -> Bool} {l : List α} : fi p l < 0 ↔ l.any p = false := by
 unfold fi; cases l.any p <;> simp
section
variable {N : Nat} {f : List Int}
end
section
variable {N : Nat} {f : List Int}
end
def NM : List TN := [[98, 97, 110, 100], [109, 111, 100, 101], [104, 111, 117, 114], [109, 121, 99, 111, 117, 110, 116, 114, 121], [109, 121, 122, 111, 110, 101], [109, 121, 99, 111, 110, 116, 105, 110, 101, 110, 116], [99, 111, 117, 110, 116, 114, 121], [122, 111, 110, 101], [99, 111, 110, 116, 105, 110, 101, 110, 116], [99, 97, 108, 108], [103, 111, 116, 122, 111, 110, 101], [99, 97, 116, 101, 103, 111, 114, 121], [112, 111, 119, 101, 114], [115, 116, 97, 116, 117, 115]]
section
variable {N n : Nat} {Lr : List An} {Lf : List Af} (T : IB n Lr Lf) {g : Aa -> Option (Aa × Expr)} {f : Ac -> Option (Ak ⊕ (Ac × Expr))}
theorem RF : FY N = some NM := rfl
theorem QF : GQ N = some NM := rfl
theorem RG (hN : 100 < N) (t : TN) : B1 N NM t = some (fi (fun x => t == x) NM) := by
 unfold B1 fi
 rw [Ew NM (fun x => t == x) (fun i => (i : Int)) (fun i hi => by
  unfold BQ
  rw [I7 hi, cond_true, Ed hi]; rfl) (by unfold BQ; rw [Jx, cond_false]) (show 14 < N by omega) (by decide)]
 cases NM.any fun x => t == x <;> rfl
include T
theorem Qr (hN : 100 < N) {K : Nat} (hfg : Agr n Lr Lf 7 K f g) (hg : Ji Lf g) {i : Nat} {o : Int} (hi : i < n) (h0 : 0 <= o) (h32 : o <= 32) (hK : 8 * (n - i) <= K) :
  EB n Lr Lf i o ((Aw N (PS Lr i o) [105, 102]).bind fun r157 => bif r157.2 then H0 N f r157.1 else ((AO N r157.1 [40]).bind fun r348 => bif r348 then Q0 N f r157.1 else some (.inl ⟨60, atI Lf i⟩)))
   ((AH N (RS Lf i o) [40]).bind fun r193 => bif r193 then P0 N g (RS Lf i o) else ((AD N (RS Lf i o) [105, 102]).bind (F0 N g))) := by
 rw [Eb T hi o (by decide), Ej T hi, Gn T hi]
 cases hs : Se Lf i [105, 102] with
 | true =>
  have hp : Se Lf i [40] = false := by
   cases hp : Se Lf i [40] with
   | false => rfl
   | true =>
    exfalso
    unfold Se at hs hp
    cases hb : Lf[i]? with
    | none => rw [hb] at hs; cases hs
    | some b =>
     rw [hb] at hs hp
     simp only at hs hp
     unfold seeF at hs hp
     simp only [Bool.and_eq_true, beq_iff_eq] at hs hp
     rw [hs.2] at hp
     exact absurd hp.2 (by decide)
  rw [hp]
  simp only [Option.bind_some, cond_true, cond_false]
  exact s0 T hfg hg h0 h32 (by omega) (T.lt hi hs) (by omega)
 | false =>
  simp only [Option.bind_some, cond_false]
  rw [QB T hi o (by decide)]
  cases hp : Se Lf i [40] with
  | true =>
   simp only [Option.bind_some, cond_true]
   exact S6 T hfg hg h0 h32 hi hK hp
  | false =>
   simp only [Option.bind_some, cond_false]
   exact EB.fail rfl (d0 T hg (by decide)) (by decide) hi
theorem QG (hN : 100 < N) {K : Nat} (hfg : Agr n Lr Lf 7 K f g) (hg : 8 <= K -> Ji Lf g) : Agr n Lr Lf 1 (K + 1) (B4 N f) (BA N g) := by
 intro i o hi h0 h32 hK
 have hg := hg (by omega)
 have hK' : 8 * (n - i) <= K := by omega
 obtain ⟨a, b, ha, hb, hc, hd, he, hat⟩ := T.hd hi
 have hat' : a.at_ = atI Lf i := by unfold atI; rw [hb, hat]
 have rest := Qr T hN hfg hg hi h0 h32 hK'
 show EB n Lr Lf i o (B4 N f (PS Lr i o)) (BA N g (RS Lf i o))
 have hR : ∀ v : Int, fi (fun x => a.text_ == x) NM = v -> B4 N f (PS Lr i o) =
   bif (a.kind_ == 1) then ((C9 N a.text_).bind fun r74 => (bif (r74.2 || ((decide ((a.text_.length : Int) > 7)) || (decide (r74.1 > 1000000)))) then some (.inl ⟨60, a.at_⟩) else some (.inr (PS Lr (i + 1) o, ⟨1, r74.1, []⟩))))
   else bif ((a.kind_ == 2) && decide (v >= 0)) then some (.inr (PS Lr (i + 1) o, ⟨2, v, []⟩))
   else ((Aw N (PS Lr i o) [105, 102]).bind fun r157 => bif r157.2 then H0 N f r157.1 else ((AO N r157.1 [40]).bind fun r348 => bif r348 then Q0 N f r157.1 else some (.inl ⟨60, a.at_⟩))) := by
  intro v hv
  unfold B4
  rw [show (PS Lr i o).l_ = Lr.drop i from rfl, hc, Option.bind_some, RF, Option.bind_some, RG hN, Option.bind_some, Option.bind_some, hv, NP T hi]
  rfl
 have hF : BA N g (RS Lf i o) =
   ((bif (b.Kind == 1) then ((Cv N b.Text).bind fun r75 => some (decide (r75 >= 0))) else some false).bind fun j65 => (bif j65 then ((Cv N b.Text).bind fun r88 => some (RS Lf (i + 1) o, (⟨1, r88, []⟩ : Expr))) else
    ((Be (Bp N g (RS Lf i o) (b.Kind, b.At, b.Text) j65 NM) N 0).bind fun q => q.k (fun r => some r) (fun _ => ((AH N (RS Lf i o) [40]).bind fun r193 => bif r193 then P0 N g (RS Lf i o) else ((AD N (RS Lf i o) [105, 102]).bind (F0 N g))))))) := by
  unfold BA
  rw [show ((RS Lf i o).Bad != 0) = false from rfl, cond_false, show (RS Lf i o).L = Lf from rfl, show (RS Lf i o).At = (i : Int) from rfl, hd]
  simp only [Option.bind_some, QF, W1 T hi]
  rfl
 have hit : ∀ j65, Be (Bp N g (RS Lf i o) (b.Kind, b.At, b.Text) j65 NM) N 0 = some (bif NM.any (fun x => (b.Kind == 2) && (b.Text == x)) then .ret (RS Lf (i + 1) o, ⟨2, (NM.findIdx (fun x => (b.Kind == 2) && (b.Text == x)) : Int), []⟩) else .done (NM.length : Int)) := fun j65 =>
  Ew NM (fun x => (b.Kind == 2) && (b.Text == x)) (fun k => ((RS Lf (i + 1) o, (⟨2, (k : Int), []⟩ : Expr)) : Aa × Expr)) (body := Bp N g (RS Lf i o) (b.Kind, b.At, b.Text) j65 NM) (fun k hk => by
   unfold Bp
   rw [I7 hk, cond_true]
   simp only [Ed hk]
   rw [show (⟨(RS Lf i o).L, W64 ((RS Lf i o).At + 1), (RS Lf i o).Open, (RS Lf i o).Bad, (RS Lf i o).Where⟩ : Aa) = RS Lf (i + 1) o from Ls T hi o]
   cases b.Kind == 2 <;> rfl) (by unfold Bp; rw [Jx, cond_false]) (show 14 < N by omega) (by decide)
 rw [hR _ rfl, hF, hat']
 have notwo : ¬ b.Kind = 2 -> NM.any (fun x => (b.Kind == 2) && (b.Text == x)) = false := fun h => by
  rw [List.any_eq_false]; intro x _; simp [h]
 have other : ¬ a.kind_ = 1 -> ¬ b.Kind = 1 -> ¬ a.kind_ = 2 -> ¬ b.Kind = 2 -> EB n Lr Lf i o
   (bif (a.kind_ == 1) then ((C9 N a.text_).bind fun r74 => (bif (r74.2 || ((decide ((a.text_.length : Int) > 7)) || (decide (r74.1 > 1000000)))) then some (.inl ⟨60, atI Lf i⟩) else some (.inr (PS Lr (i + 1) o, ⟨1, r74.1, []⟩))))
   else bif ((a.kind_ == 2) && decide (fi (fun x => a.text_ == x) NM >= 0)) then some (.inr (PS Lr (i + 1) o, ⟨2, fi (fun x => a.text_ == x) NM, []⟩))
   else ((Aw N (PS Lr i o) [105, 102]).bind fun r157 => bif r157.2 then H0 N f r157.1 else ((AO N r157.1 [40]).bind fun r348 => bif r348 then Q0 N f r157.1 else some (.inl ⟨60, atI Lf i⟩))))
   ((bif (b.Kind == 1) then ((Cv N b.Text).bind fun r75 => some (decide (r75 >= 0))) else some false).bind fun j65 => (bif j65 then ((Cv N b.Text).bind fun r88 => some (RS Lf (i + 1) o, (⟨1, r88, []⟩ : Expr))) else
    ((Be (Bp N g (RS Lf i o) (b.Kind, b.At, b.Text) j65 NM) N 0).bind fun q => q.k (fun r => some r) (fun _ => ((AH N (RS Lf i o) [40]).bind fun r193 => bif r193 then P0 N g (RS Lf i o) else ((AD N (RS Lf i o) [105, 102]).bind (F0 N g))))))) := by
  intro k1 k1' k2 k2'
  rw [show (a.kind_ == 1) = false by simpa using k1, show (a.kind_ == 2) = false by simpa using k2, show (b.Kind == 1) = false by simpa using k1']
  simp only [cond_false, Bool.false_and, Option.bind_some]
  rw [hit, notwo k2']
  simp only [cond_false, Option.bind_some, Bv.k]
  exact rest
 have ht1 : ∀ (op v : Int), Ht 10 (i + 1 - i) ⟨op, v, []⟩ := fun op v => by
  rw [show i + 1 - i = 0 + 1 by omega]
  exact ⟨by show 0 < 10; omega, by show 0 < 9223372036854775808; omega, fun u hu => by cases hu⟩
 rcases he with ⟨hcc, hlt⟩ | ⟨hee, _⟩
 ·rcases hcc.k with ⟨k1, k2, k3, k4, k5, k6⟩ | ⟨k1, k2, k3, _⟩ | ⟨k1, k2, _⟩ | ⟨k1, k2, _⟩ | ⟨k1, k2⟩
  ·-- a number
   obtain ⟨r, hr, hbad, hgood⟩ := Sf (N := N) k6 k4 k5
   rw [k1, k2, k3, hr, QE k6 hN]
   rw [show ((1 : Int) == 1) = true from rfl]
   simp only [cond_true, Option.bind_some, hbad]
   by_cases hf : fig b.Text < 0
   ·rw [decide_eq_true hf, decide_eq_false (by omega)]
    simp only [cond_true, cond_false]
    have hno : Se Lf i [40] = false := by unfold Se; rw [hb]; show seeF b [40] = false; unfold seeF; rw [k2]; rfl
    have hno2 : Se Lf i [105, 102] = false := by unfold Se; rw [hb]; show seeF b [105, 102] = false; unfold seeF; rw [k2]; rfl
    have hit' := hit false
    rw [k2] at hit'
    rw [hit', show (NM.any fun x => ((1 : Int) == 2) && (b.Text == x)) = false by rw [List.any_eq_false]; intro x _; simp]
    simp only [cond_false, Option.bind_some, Bv.k]
    rw [Ej T hi, hno]
    simp only [Option.bind_some, cond_false]
    rw [Gn T hi, hno2]
    simp only [Option.bind_some, cond_false]
    exact EB.fail rfl (d0 T hg (by decide)) (by decide) hi
   ·rw [decide_eq_false hf, decide_eq_true (by omega)]
    simp only [cond_true, cond_false]
    refine ⟨_, _, rfl, rfl, ?_⟩
    rw [hgood (by omega)]
    exact .ok (i + 1) _ (by omega) hlt (ht1 _ _)
  ·-- a word
   rw [k1, k2, k3]
   rw [show ((2 : Int) == 1) = false from rfl, show ((2 : Int) == 2) = true from rfl]
   simp only [cond_false, Bool.true_and, Option.bind_some]
   have hit' := hit false
   rw [k2, show ((2 : Int) == 2) = true from rfl] at hit'
   simp only [Bool.true_and] at hit'
   rw [hit']
   by_cases hf : NM.any (fun x => b.Text == x) = true
   ·have hv : fi (fun x => b.Text == x) NM = (NM.findIdx (fun x => b.Text == x) : Int) := by unfold fi; rw [if_pos hf]
    rw [hf, hv, decide_eq_true (by omega)]
    simp only [cond_true, Option.bind_some, Bv.k]
    exact ⟨_, _, rfl, rfl, .ok (i + 1) _ (by omega) hlt (ht1 _ _)⟩
   ·rw [Bool.not_eq_true] at hf
    have hv : fi (fun x => b.Text == x) NM < 0 := Sm.2 hf
    rw [hf, decide_eq_false (by omega)]
    simp only [cond_false, Option.bind_some, Bv.k]
    exact rest
  ·exact other (by omega) (by omega) (by omega) (by omega)
  ·exact other (by omega) (by omega) (by omega) (by omega)
  ·exact other (by omega) (by omega) (by omega) (by omega)
 ·have := hee.a0
  have := hee.b5
  exact other (by omega) (by omega) (by omega) (by omega)
theorem Pw (hN : n + 200 <= N) : ∀ k, Agr n Lr Lf 7 k (BW N k).q145 (BL N k).q89 /\ Agr n Lr Lf 6 k (BW N k).q185 (BL N k).q146 /\ Agr n Lr Lf 5 k (BW N k).q212 (BL N k).q186 /\
  Agr n Lr Lf 4 k (BW N k).q226 (BL N k).q213 /\ Agr n Lr Lf 3 k (BW N k).q233 (BL N k).q227 /\ Agr n Lr Lf 2 k (BW N k).q239 (BL N k).q234 /\ Agr n Lr Lf 1 k (BW N k).q243 (BL N k).q240
 | 0 => by
  have no : ∀ {c : Nat} {f g}, 0 < c -> Agr n Lr Lf c 0 f g := fun hc i o hi _ _ h => absurd h (by omega)
  exact ⟨no (by omega), no (by omega), no (by omega), no (by omega), no (by omega), no (by omega), no (by omega)⟩
 | k + 1 => by
  obtain ⟨a7, a6, a5, a4, a3, a2, a1⟩ := Pw hN k
  have wrap : ∀ {P : Option (Ak ⊕ (Ac × Expr))} {p}, P = some p -> (P.bind fun r39 => sk r39 (fun b52 => some (.inl b52)) (fun r42 => some (.inr (r42.1, r42.2)))) = some p := by
   rintro _ p rfl
   cases p <;> rfl
  refine ⟨?_, ?_, QR T a5 a4, Qj T a3, ?_, ?_, QG T (by omega) a7 ?_⟩
  ·intro i o hi h0 h32 hK
   obtain ⟨p, r, e1, e2, h⟩ := GT T (N := N) (by omega) a6 (R9 T (k := [111, 114]) (by decide) (z := 5)) (lt1 T) (fun r => P8 T _ (RS Lf i o) r) hi h0 h32 (by omega)
   exact ⟨p, r, wrap e1, e2, h⟩
  ·intro i o hi h0 h32 hK
   obtain ⟨p, r, e1, e2, h⟩ := GT T (N := N) (by omega) a5 (R9 T (k := [97, 110, 100]) (by decide) (z := 4)) (lt1 T) (fun r => P9 T _ (RS Lf i o) r) hi h0 h32 (by omega)
   exact ⟨p, r, wrap e1, e2, h⟩
  ·intro i o hi h0 h32 hK
   obtain ⟨p, r, e1, e2, h⟩ := GT T (N := N) (by omega) a2 (S7 T (k1 := [43]) (k2 := [45]) (by decide) (by decide) (by decide) (z1 := 8) (z2 := 9)) (lt2 T) (fun r => QX T _ (RS Lf i o) r) hi h0 h32 (by omega)
   exact ⟨p, r, wrap e1, e2, h⟩
  ·intro i o hi h0 h32 hK
   obtain ⟨p, r, e1, e2, h⟩ := GT T (N := N) (by omega) a1 (R9 T (k := [42]) (by decide) (z := 10)) (lt1 T) (fun r => P7 T _ (RS Lf i o) r) hi h0 h32 (by omega)
   exact ⟨p, r, wrap e1, e2, h⟩
  ·intro h8 j o e w he
   obtain ⟨q, rfl⟩ : ∃ q, k = q + 7 := ⟨k - 7, by omega⟩
   exact MW (by omega) he q
end
def AX (N : Nat) (x0 : Aa) (x1 : Expr) (x2 : Int) (x3 : Int) : Option Aa :=
 (bif (x0.Bad != 0) then some x0 else ((Hp N x1).bind fun r27 => (bif (decide (r27 > 32)) then ((A2 N x0 2 x2).bind fun r38 => some r38) else ((I2 N x1).bind fun r45 => ((bif ((r45 == 0) || ((x3 != 0) && (r45 != x3))) then ((A2 N x0 61 x2).bind fun r72 => some (r72.L, r72.At, r72.Open, r72.Bad, r72.Where)) else some (x0.L, x0.At, x0.Open, x0.Bad, x0.Where)).bind fun j65 => some ({ L := j65.1, At := j65.2.1, Open := j65.2.2.1, Bad := j65.2.2.2.1, Where := j65.2.2.2.2 } : Aa))))))
theorem Dp : Au Tryz.prog 91 := fun _ _ => by kernel_rfl
theorem DH (N : Nat) {wb w0 : World} {Fb F0 : Mem} {Lf : Own} (bp0 : Nat) (x0 : Aa) (a0_0 : TO) (n0_0 : Nat) (hb0_0 : LC x0.L.length n0_0) (hs0_0 : SlA Ag F0 a0_0 x0.L) (x1 : Expr) (a1_2 : TO) (n1_2 : Nat) (hb1_2 : LC x1.Kids.length n1_2) (hs1_2 : SlA As F0 a1_2 x1.Kids) (x2 : Int) (x3 : Int) (hs0 : HS wb Fb w0 F0 ((sb bp0 (Ae x0 a0_0 n0_0) 108) :: Lf)) (r : Aa) (h : AX N x0 x1 x2 x3 = some r) :
  Calls Tryz.prog 91 ([(pt bp0 0), (.agg (Ai x1 a1_2 n1_2)), (vi x2), (vi x3)] : List Value).toArray w0 (D4 wb Fb F0 fun F' v L' => ∃ (aq0_0 : TO) (nq0_0 : Nat), v = (.tuple #[]) /\ L' = (sb bp0 (Ae r aq0_0 nq0_0) 108) :: Lf /\ LC r.L.length nq0_0 /\ SlA Ag F' aq0_0 r.L) := by
 refine Go 36 Tryz.func91 ?_
 refine Sq (Rg [0] ?_)
 refine Bx' 33 (Ai x1 a1_2 n1_2) hs0 (fun b21 w22 hs23 => ?_)
 refine Nss ?_
 refine Sq (Rg [0, 1, 2, 3, 4] ?_)
 refine Vs 3 ?_
 refine Ld hs23.at1 ?_
 refine Vs 1 ?_
 refine Nt ?_
 refine Cd h (fun hb24 h25 => ?_) (fun hb24 h26 => ?_)
 ·refine Rt ?_
  refine Aj ?_
  obtain rfl := Ab h25
  exact ReB [] hs23.dr0 (To _) ⟨a0_0, n0_0, rfl, rfl, hb0_0, hs0_0⟩
 ·refine Sc ?_
  refine Ad ?_
  refine Sq ?_
  refine Sq (Rg [0, 1, 2] ?_)
  refine Ld hs23.at0 ?_
  obtain ⟨r27, hr28, h29⟩ := bind_some h26
  refine Cl' HL hs23 (MB N w22 F0 hs23.pers x1 a1_2 n1_2 hb1_2 hs1_2 _ hr28) ?_
  rintro _ F1 w31 hs32 le33 rfl
  refine Vs 1 ?_
  refine Nt ?_
  refine Cd h29 (fun hb35 h36 => ?_) (fun hb35 h37 => ?_)
  ·refine Sq (Rg [0, 1, 2] ?_)
   refine Vs 2 ?_
   obtain ⟨r38, hr39, h40⟩ := bind_some h36
   refine CB A6 (Bc N bp0 x0 a0_0 n0_0 hb0_0 (Tq hs0_0 le33) 2 x2 hs32.pk1 _ hr39) ?_
   rintro _ F2 w41 _ hs42 le43 ⟨ar38_0_0, nr38_0_0, rfl, rfl, hbr38_0_0, hsr38_0_0⟩
   refine Nt ?_
   refine Rt ?_
   refine Aj ?_
   obtain rfl := Ab h40
   exact ReB [] hs42.dr1 (le33.trans le43) ⟨ar38_0_0, nr38_0_0, rfl, rfl, hbr38_0_0, hsr38_0_0⟩
  ·refine Sc ?_
   refine Ad ?_
   refine Sq (Rg [0, 1, 2] ?_)
   refine Ld hs32.at0 ?_
   obtain ⟨r45, hr46, h47⟩ := bind_some h37
   refine Cl' Dn hs32 (Nl N w31 F1 hs32.pers x1 a1_2 n1_2 hb1_2 (Tq hs1_2 le33) _ hr46) ?_
   rintro _ F3 w49 hs50 le51 rfl
   refine Vs 1 ?_
   refine Nss (Rg [0, 1, 2, 3, 4, 5, 6, 7, 8, 9, 10] ?_)
   refine Tt (fun f w => ∃ (F4 : Mem), HS wb Fb w F4 ((sb bp0 (Ae x0 a0_0 n0_0) 108) :: Lf) /\ Tn F3 F4 /\ FI f [] [(0, (pt bp0 0)), (2, (vi x2)), (32, (.bool ((r45 == 0) || ((x3 != 0) && (r45 != x3)))))]) ?_ ?_
   ·refine Vs 3 ?_
    refine Ts (r45 == 0) (fun hb60 => ?_) (fun hb60 => ?_)
    ·refine Ss hb60 3 ?_
     refine Su' 3 ?_
     refine Ss hb60 1 ?_
     refine Pk1 hb60 ?_
     exact Tj ⟨rfl, F3, hs50.dr0, (To _), (fJ ⟨rfl, rfl, (congrArg Value.bool (Fk hb60 rfl)), trivial⟩)⟩
    ·refine Vgs hb60 3 ?_
     refine Ts (x3 != 0) (fun hb61 => ?_) (fun hb61 => ?_)
     ·refine Vgs hb61 3 ?_
      refine Pg1 hb60 hb61 ?_
      refine Pk0 hb60 ?_
      exact Tj ⟨rfl, F3, hs50.dr0, (To _), (fJ ⟨rfl, rfl, (congrArg Value.bool (B7 hb60 (Cz hb61 rfl))), trivial⟩)⟩
     ·refine Ss hb61 3 ?_
      refine Pg0 hb60 hb61 ?_
      refine Pk0 hb60 ?_
      exact Tj ⟨rfl, F3, hs50.dr0, (To _), (fJ ⟨rfl, rfl, (congrArg Value.bool (B7 hb60 (Dw hb61 rfl))), trivial⟩)⟩
   ·rintro f w53 ⟨F4, hs54, le55, ⟨_, rfl⟩⟩
    refine Ad ?_
    obtain ⟨j65, hj67, h68⟩ := bind_some h47
    refine Tu (fun f w => ∃ (F5 : Mem) (aj65_0 : TO) (nj65_0 : Nat), HS wb Fb w F5 ((sb bp0 #[(.slice aj65_0 j65.1.length nj65_0), (vi j65.2.1), (vi j65.2.2.1), (vi j65.2.2.2.1), (vi j65.2.2.2.2)] 108) :: Lf) /\ Tn F4 F5 /\ FI f [] [] /\ LC j65.1.length nj65_0 /\ SlA Ag F5 aj65_0 j65.1) ?_ ?_
    ·refine Cd hj67 (fun hb69 h70 => ?_) (fun hb69 h71 => ?_)
     ·refine Rg [0, 1, 2] ?_
      refine Vs 2 ?_
      obtain ⟨r72, hr73, h74⟩ := bind_some h70
      refine CB A6 (Bc N bp0 x0 a0_0 n0_0 hb0_0 (Tq hs0_0 ((le33.trans le51).trans le55)) 61 x2 hs54 _ hr73) ?_
      rintro _ F6 w75 _ hs76 le77 ⟨ar72_0_0, nr72_0_0, rfl, rfl, hbr72_0_0, hsr72_0_0⟩
      refine Tj ?_
      obtain rfl := Ab h74
      exact .inl ⟨rfl, F6, ar72_0_0, nr72_0_0, hs76, le77, fI, hbr72_0_0, hsr72_0_0⟩
     ·refine Sc ?_
      obtain rfl := Ab h71
      exact .inl ⟨rfl, F4, a0_0, n0_0, hs54, (To _), fI, hb0_0, (Tq hs0_0 ((le33.trans le51).trans le55))⟩
    ·rintro f w62 ⟨F5, aj65_0, nj65_0, hs63, le64, ⟨_, rfl⟩, hbj65_0, hsj65_0⟩
     obtain rfl := Ab h68
     exact ReB [] hs63 (((le33.trans le51).trans le55).trans le64) ⟨aj65_0, nj65_0, rfl, rfl, hbj65_0, hsj65_0⟩

def D9 (N : Nat) (x0 : Int) : Option Expr :=
 some ({ Op := 1, Value := x0, Kids := ([] : List Expr) } : Expr)
theorem Ef : Au Tryz.prog 191 := fun _ _ => by kernel_rfl
theorem EA (N : Nat) (w0 : World) (F0 : Mem) (hF : TP w0 F0) (x0 : Int) (r : Expr) (h : D9 N x0 = some r) :
  Calls Tryz.prog 191 ([(vi x0)] : List Value).toArray w0 (Bd w0 F0 fun F' v => ∃ (aq0_2 : TO) (nq0_2 : Nat), v = (.agg (Ai r aq0_2 nq0_2)) /\ LC r.Kids.length nq0_2 /\ SlA As F' aq0_2 r.Kids) := by
 have hs0 := Tp hF
 refine Go 5 Tryz.func191 ?_
 refine Sq (Rg [0] ?_)
 refine Al' 33 #[(vi 0), (vi 0), (.slice none ([] : List Expr).length 0)] hs0 (fun b21 w22 hs23 => ?_)
 refine Nss (Rg [0, 1, 2] ?_)
 refine Vs 2 ?_
 refine St0 #[(vi 1), (vi x0), (.slice none ([] : List Expr).length 0)] hs23 (fun w24 hs25 => ?_)
 refine Nt ?_
 refine Rt ?_
 obtain rfl := Ab h
 exact ⟨rfl, (.agg #[(vi 1), (vi x0), (.slice none ([] : List Expr).length 0)]), AE (l := [.cell 2 33]) (by kernel_rfl) (vs := [(.agg #[(vi 1), (vi x0), (.slice none ([] : List Expr).length 0)])]) ⟨b21, 0, rfl, Am (t := 33) (g := true) (s := 3) (by kernel_rfl) hs25.at0 rfl (by decide), trivial⟩, (.agg #[(vi 1), (vi x0), (.slice none ([] : List Expr).length 0)]), F0, rfl, hs25.clear, ⟨none, 0, rfl, Tr, (.inl rfl)⟩⟩
def Gj (N : Nat) (x0 : Bool) : Option Expr :=
 ((D9 N 0).bind fun r31 => ((D9 N 0).bind fun r39 => some ({ Op := (bif x0 then 6 else 7), Value := 0, Kids := [r31, r39] } : Expr)))
theorem GF : Au Tryz.prog 188 := fun _ _ => by kernel_rfl
theorem G8 (N : Nat) (w0 : World) (F0 : Mem) (hF : TP w0 F0) (x0 : Bool) (r : Expr) (h : Gj N x0 = some r) :
  Calls Tryz.prog 188 ([(.bool x0)] : List Value).toArray w0 (Bd w0 F0 fun F' v => ∃ (aq0_2 : TO) (nq0_2 : Nat), v = (.agg (Ai r aq0_2 nq0_2)) /\ LC r.Kids.length nq0_2 /\ SlA As F' aq0_2 r.Kids) := by
 have hs0 := Tp hF
 refine Go 10 Tryz.func188 ?_
 refine Sq (Rg [0] ?_)
 refine Al' 33 #[(vi 0), (vi 0), (.slice none ([] : List Expr).length 0)] hs0 (fun b21 w22 hs23 => ?_)
 refine Nss (Rg [0] ?_)
 refine Vs 1 ?_
 refine Nss ?_
 refine Sq (Rg [0] ?_)
 refine Vs 1 ?_
 refine Nt ?_
 refine Tu (fun f w => ∃ (F1 : Mem), HS w0 F0 w F1 [(sb b21 #[(vi 0), (vi 0), (.slice none ([] : List Expr).length 0)] 33)] /\ Tn F0 F1 /\ FI f [] [(2, (pt b21 0)), (3, (vi (bif x0 then 6 else 7)))]) ?_ ?_
 ·refine Cp x0 (fun hb30 => ?_) (fun hb30 => ?_)
  ·refine Rg [0] ?_
   refine Vs 1 ?_
   refine Tj ?_
   exact .inl ⟨rfl, F0, hs23, (To _), (fJ ⟨rfl, (congrArg (Value.int .i64) (CH hb30 rfl)), trivial⟩)⟩
  ·refine Sc ?_
   exact .inl ⟨rfl, F0, hs23, (To _), (fJ ⟨rfl, (congrArg (Value.int .i64) (C7 hb30 rfl)), trivial⟩)⟩
 ·rintro f w24 ⟨F1, hs25, le26, ⟨_, rfl⟩⟩
  refine Ad ?_
  refine Sq (Rg [0, 1, 2, 3, 4, 5] ?_)
  refine Vs 1 ?_
  obtain ⟨r31, hr32, h33⟩ := bind_some h
  refine Cl' Ef hs25 (EA N w24 F1 hs25.pers 0 _ hr32) ?_
  rintro _ F2 w35 hs36 le37 ⟨ar31_0_2, nr31_0_2, rfl, hbr31_0_2, hsr31_0_2⟩
  obtain ⟨r39, hr40, h41⟩ := bind_some h33
  refine Cl' Ef hs36 (EA N w35 F2 hs36.pers 0 _ hr40) ?_
  rintro _ F3 w43 hs44 le45 ⟨ar39_0_2, nr39_0_2, rfl, hbr39_0_2, hsr39_0_2⟩
  refine Bs 33 [(vi r31.Op), (vi r31.Value), (.slice ar31_0_2 r31.Kids.length nr31_0_2), (vi r39.Op), (vi r39.Value), (.slice ar39_0_2 r39.Kids.length nr39_0_2)] hs44 (fun b47 w48 hs49 => ?_)
  have hr51 : Av As 33 F3 (some ⟨b47, 0, none⟩) 2 [r31, r39] (some b47, .cells ([(vi r31.Op), (vi r31.Value), (.slice ar31_0_2 r31.Kids.length nr31_0_2), (vi r39.Op), (vi r39.Value), (.slice ar39_0_2 r39.Kids.length nr39_0_2)] : List Value).toArray 33 (0, 0)) := TH ⟨(Ba ⟨ar31_0_2, nr31_0_2, rfl, hbr31_0_2, (Tq hsr31_0_2 le45)⟩), ⟨(Ba ⟨ar39_0_2, nr39_0_2, rfl, hbr39_0_2, hsr39_0_2⟩), rfl⟩⟩ (by simp)
  refine Vs 1 ?_
  refine St1 #[(vi (bif x0 then 6 else 7)), (vi 0), (.slice (some ⟨b47, 0, none⟩) [r31, r39].length 2)] hs49 (fun w52 hs53 => ?_)
  refine Nt ?_
  refine Rt ?_
  have hb57 := TF hr51
  obtain ⟨F4, hs54, le55, hs56⟩ := hs53.fr0 hr51
  obtain rfl := Ab h41
  exact ⟨rfl, (.agg #[(vi (bif x0 then 6 else 7)), (vi 0), (.slice (some ⟨b47, 0, none⟩) [r31, r39].length 2)]), AE (l := [.cell 2 33]) (by kernel_rfl) (vs := [(.agg #[(vi (bif x0 then 6 else 7)), (vi 0), (.slice (some ⟨b47, 0, none⟩) [r31, r39].length 2)])]) ⟨b21, 0, rfl, Am (t := 33) (g := true) (s := 3) (by kernel_rfl) hs54.at0 rfl (by decide), trivial⟩, (.agg #[(vi (bif x0 then 6 else 7)), (vi 0), (.slice (some ⟨b47, 0, none⟩) [r31, r39].length 2)]), F4, rfl, hs54.clear, ⟨(some ⟨b47, 0, none⟩), 2, rfl, hb57, hs56⟩⟩
def Gk (N : Nat) (x0 : Expr) (x1 : Bool) : Option Bool :=
 (((Gj N x1).bind fun r34 => ((FC N x0 r34).bind fun r42 => some r42)).bind fun j29 => some j29)
theorem GG : Au Tryz.prog 187 := fun _ _ => by kernel_rfl
theorem G9 (N : Nat) (w0 : World) (F0 : Mem) (hF : TP w0 F0) (x0 : Expr) (a0_2 : TO) (n0_2 : Nat) (hb0_2 : LC x0.Kids.length n0_2) (hs0_2 : SlA As F0 a0_2 x0.Kids) (x1 : Bool) (r : Bool) (h : Gk N x0 x1 = some r) :
  Calls Tryz.prog 187 ([(.agg (Ai x0 a0_2 n0_2)), (.bool x1)] : List Value).toArray w0 (Bd w0 F0 fun F' v => v = (.bool r)) := by
 have hs0 := Tp hF
 refine Go 9 Tryz.func187 ?_
 refine Sq (Rg [0, 1] ?_)
 refine Bx' 33 (Ai x0 a0_2 n0_2) hs0 (fun b21 w22 hs23 => ?_)
 refine Vs 1 ?_
 refine Nss ?_
 obtain ⟨j29, hj32, h33⟩ := bind_some h
 refine RD 5 5 [(sb b21 (Ai x0 a0_2 n0_2) 33)] [] hs23 (fun f w => ∃ (F1 : Mem), HS w0 F0 w F1 [] /\ Tn F0 F1 /\ FI f [] [(4, (.bool j29))]) (fun wd24 hw25 => ?_) ?_
 ·refine Dl 0 (fun _ hq => (hq.1.2 0 _ _ rfl)) ?_
  refine Dv [1] ?_
  refine D1 2 ?_
  obtain ⟨r34, hr35, h36⟩ := bind_some hj32
  refine DCl GF hw25 (G8 N wd24 F0 hw25.pers x1 _ hr35) ?_
  rintro _ F2 w38 hs39 le40 ⟨ar34_0_2, nr34_0_2, rfl, hbr34_0_2, hsr34_0_2⟩
  refine D1 3 ?_
  obtain ⟨r42, hr43, h44⟩ := bind_some h36
  refine DCl DT hs39 (Fm N w38 F2 hs39.pers x0 a0_2 n0_2 hb0_2 (Tq hs0_2 le40) r34 ar34_0_2 nr34_0_2 hbr34_0_2 hsr34_0_2 _ hr43) ?_
  rintro _ F3 w46 hs47 le48 rfl
  refine Dv [4] ?_
  obtain rfl := Ab h44
  exact TE (by kernel_rfl) ⟨F3, hs47.dr0, (le40.trans le48), fI⟩
 ·rintro f w26 ⟨F1, hs27, le28, ⟨_, rfl⟩⟩
  refine Ad ?_
  refine Rt ?_
  obtain rfl := Ab h33
  exact Re [(.bool j29)] hs27 rfl

def Es (N : Nat) (x0 : Expr) (x1 : Int) : Option Bool :=
 some ((x0.Op == 1) && (x0.Value == x1))
theorem E8 : Au Tryz.prog 215 := fun _ _ => by kernel_rfl
theorem FR (N : Nat) (w0 : World) (F0 : Mem) (hF : TP w0 F0) (x0 : Expr) (a0_2 : TO) (n0_2 : Nat) (hb0_2 : LC x0.Kids.length n0_2) (hs0_2 : SlA As F0 a0_2 x0.Kids) (x1 : Int) (r : Bool) (h : Es N x0 x1 = some r) :
  Calls Tryz.prog 215 ([(.agg (Ai x0 a0_2 n0_2)), (vi x1)] : List Value).toArray w0 (Bd w0 F0 fun F' v => v = (.bool r)) := by
 have hs0 := Tp hF
 refine Go 14 Tryz.func215 ?_
 refine Sq (Rg [0, 1] ?_)
 refine Bx' 33 (Ai x0 a0_2 n0_2) hs0 (fun b21 w22 hs23 => ?_)
 refine Vs 1 ?_
 refine Nss (Rg [0, 1, 2, 3, 4, 5, 6, 7, 8, 9] ?_)
 refine Tt (fun f w => ∃ (F1 : Mem), HS w0 F0 w F1 [] /\ Tn F0 F1 /\ FI f [] [(4, (.bool ((x0.Op == 1) && (x0.Value == x1))))]) ?_ ?_
 ·refine Vs 1 ?_
  refine Ld hs23.at0 ?_
  refine Vs 2 ?_
  refine Ts (x0.Op == 1) (fun hb29 => ?_) (fun hb29 => ?_)
  ·refine Vgs hb29 1 ?_
   refine Lg hb29 hs23.at0 ?_
   refine Vgs hb29 2 ?_
   refine Pk1 hb29 ?_
   refine Vs 1 ?_
   exact Tj ⟨rfl, F0, hs23.dr0, (To _), (fJ ⟨(congrArg Value.bool (Cz hb29 rfl)), trivial⟩)⟩
  ·refine Ss hb29 4 ?_
   refine Pk0 hb29 ?_
   refine Vs 1 ?_
   exact Tj ⟨rfl, F0, hs23.dr0, (To _), (fJ ⟨(congrArg Value.bool (Dw hb29 rfl)), trivial⟩)⟩
 ·rintro f w24 ⟨F1, hs25, le26, ⟨_, rfl⟩⟩
  refine Ad ?_
  refine Rt ?_
  obtain rfl := Ab h
  exact Re [(.bool ((x0.Op == 1) && (x0.Value == x1)))] hs25 rfl
def Hj (N : Nat) (x0 : Expr) (x1 : Expr) (x2 : Expr) : Option Expr :=
 (bif (x0.Op == 8) then ((Es N x1 0).bind fun r36 => (bif r36 then some x2 else ((Es N x2 0).bind fun r49 => (bif r49 then some x1 else some x0)))) else none)
theorem J5 : Au Tryz.prog 192 := fun _ _ => by kernel_rfl
theorem KD (N : Nat) (w0 : World) (F0 : Mem) (hF : TP w0 F0) (x0 : Expr) (a0_2 : TO) (n0_2 : Nat) (hb0_2 : LC x0.Kids.length n0_2) (hs0_2 : SlA As F0 a0_2 x0.Kids) (x1 : Expr) (a1_2 : TO) (n1_2 : Nat) (hb1_2 : LC x1.Kids.length n1_2) (hs1_2 : SlA As F0 a1_2 x1.Kids) (x2 : Expr) (a2_2 : TO) (n2_2 : Nat) (hb2_2 : LC x2.Kids.length n2_2) (hs2_2 : SlA As F0 a2_2 x2.Kids) (r : Expr) (h : Hj N x0 x1 x2 = some r) :
  Calls Tryz.prog 192 ([(.agg (Ai x0 a0_2 n0_2)), (.agg (Ai x1 a1_2 n1_2)), (.agg (Ai x2 a2_2 n2_2))] : List Value).toArray w0 (Bd w0 F0 fun F' v => ∃ (aq0_2 : TO) (nq0_2 : Nat), v = (.agg (Ai r aq0_2 nq0_2)) /\ LC r.Kids.length nq0_2 /\ SlA As F' aq0_2 r.Kids) := by
 have hs0 := Tp hF
 refine Go 49 Tryz.func192 ?_
 refine Sq (Rg [0, 1, 2, 3] ?_)
 refine Bx' 33 (Ai x0 a0_2 n0_2) hs0 (fun b21 w22 hs23 => ?_)
 refine Bx' 33 (Ai x1 a1_2 n1_2) hs23 (fun b24 w25 hs26 => ?_)
 refine Bx' 33 (Ai x2 a2_2 n2_2) hs26 (fun b27 w28 hs29 => ?_)
 refine Al' 33 #[(vi 0), (vi 0), (.slice none ([] : List Expr).length 0)] hs29 (fun b30 w31 hs32 => ?_)
 refine Nss ?_
 refine Sq (Rg [0, 1] ?_)
 refine Vs 1 ?_
 refine Ld hs32.at3 ?_
 refine Nt ?_
 refine Bk ?_
 refine Sq (Rg [0, 1] ?_)
 refine Vs 2 ?_
 refine Nt ?_
 refine Cd h (fun hb33 h34 => ?_) (fun hb33 h35 => ?_)
 ·refine Bk ?_
  refine Sq (Rg [0, 1, 2] ?_)
  refine Ld hs32.at2 ?_
  obtain ⟨r36, hr37, h38⟩ := bind_some h34
  refine Cl' E8 hs32 (FR N w31 F0 hs32.pers x1 a1_2 n1_2 hb1_2 hs1_2 0 _ hr37) ?_
  rintro _ F1 w40 hs41 le42 rfl
  refine Vs 1 ?_
  refine Nt ?_
  refine Cd h38 (fun hb44 h45 => ?_) (fun hb44 h46 => ?_)
  ·refine Sq (Rg [0, 1] ?_)
   refine Ld hs41.at1 ?_
   refine St0 (Ai x2 a2_2 n2_2) hs41 (fun w47 hs48 => ?_)
   refine Nt ?_
   refine Rt ?_
   refine Ao ?_
   refine Ao ?_
   refine Aj ?_
   obtain rfl := Ab h45
   exact ⟨rfl, (.agg (Ai x2 a2_2 n2_2)), AE (l := [.cell 6 33]) (by kernel_rfl) (vs := [(.agg (Ai x2 a2_2 n2_2))]) ⟨b30, 0, rfl, Am (t := 33) (g := true) (s := 3) (by kernel_rfl) hs48.at0 rfl (by decide), trivial⟩, (.agg (Ai x2 a2_2 n2_2)), F1, rfl, hs48.clear, ⟨a2_2, n2_2, rfl, hb2_2, (Tq hs2_2 le42)⟩⟩
  ·refine Sq (Rg [0, 1, 2] ?_)
   refine Ld hs41.at1 ?_
   obtain ⟨r49, hr50, h51⟩ := bind_some h46
   refine Cl' E8 hs41 (FR N w40 F1 hs41.pers x2 a2_2 n2_2 hb2_2 (Tq hs2_2 le42) 0 _ hr50) ?_
   rintro _ F2 w53 hs54 le55 rfl
   refine Vs 1 ?_
   refine Nt ?_
   refine Cd h51 (fun hb57 h58 => ?_) (fun hb57 h59 => ?_)
   ·refine Sq (Rg [0, 1] ?_)
    refine Ld hs54.at2 ?_
    refine St0 (Ai x1 a1_2 n1_2) hs54 (fun w60 hs61 => ?_)
    refine Nt ?_
    refine Rt ?_
    refine Ao ?_
    refine Ao ?_
    refine Aj ?_
    obtain rfl := Ab h58
    exact ⟨rfl, (.agg (Ai x1 a1_2 n1_2)), AE (l := [.cell 6 33]) (by kernel_rfl) (vs := [(.agg (Ai x1 a1_2 n1_2))]) ⟨b30, 0, rfl, Am (t := 33) (g := true) (s := 3) (by kernel_rfl) hs61.at0 rfl (by decide), trivial⟩, (.agg (Ai x1 a1_2 n1_2)), F2, rfl, hs61.clear, ⟨a1_2, n1_2, rfl, hb1_2, (Tq hs1_2 (le42.trans le55))⟩⟩
   ·refine Sc ?_
    refine AA ?_
    refine AA ?_
    refine Ad ?_
    refine Sq (Rg [0, 1] ?_)
    refine Ld hs54.at3 ?_
    refine St0 (Ai x0 a0_2 n0_2) hs54 (fun w62 hs63 => ?_)
    refine Nt ?_
    refine Rt ?_
    obtain rfl := Ab h59
    exact ⟨rfl, (.agg (Ai x0 a0_2 n0_2)), AE (l := [.cell 6 33]) (by kernel_rfl) (vs := [(.agg (Ai x0 a0_2 n0_2))]) ⟨b30, 0, rfl, Am (t := 33) (g := true) (s := 3) (by kernel_rfl) hs63.at0 rfl (by decide), trivial⟩, (.agg (Ai x0 a0_2 n0_2)), F2, rfl, hs63.clear, ⟨a0_2, n0_2, rfl, hb0_2, (Tq hs0_2 (le42.trans le55))⟩⟩
 ·cases h35
def IK (N : Nat) (x0 : Expr) : Option Expr :=
 (bif ((x0.Kids.length : Int) == 0) then some x0 else ((idx x0.Kids 0).bind fun x32 => (bif (x0.Op == 3) then none else ((idx x0.Kids 1).bind fun x54 => (bif (bif (x0.Op == 6) then (x0.Op == 6) else (x0.Op == 7)) then ((bif ((x32.Op == 1) && (x54.Op == 1)) then some true else ((FC N x32 x54).bind fun r106 => some r106)).bind fun j93 => (bif j93 then (bif (x0.Op == 6) then ((FC N x32 x54).bind fun r120 => (bif r120 then ((Gj N true).bind fun r131 => some r131) else (bif (x0.Op == 7) then none else none))) else (bif (x0.Op == 7) then none else none)) else some x0)) else (bif (bif (x0.Op == 4) then (x0.Op == 4) else (x0.Op == 5)) then none else (bif (bif (x0.Op == 8) then (x0.Op == 8) else (bif (x0.Op == 9) then (x0.Op == 9) else (x0.Op == 10))) then (((mk0 0 14).bind fun r206 => ((FU N x0 r206).bind fun r220 => some r220)).bind fun j196 => (bif (((x32.Op == 1) && (x54.Op == 1)) && (decide (j196 >= 0))) then ((D9 N j196).bind fun r242 => some r242) else ((Hj N x0 x32 x54).bind fun r252 => some r252))) else (bif (x0.Op == 11) then ((Gk N x32 true).bind fun r265 => (bif r265 then some x54 else ((Gk N x32 false).bind fun r278 => (bif r278 then ((idx x0.Kids 2).bind fun x289 => some x289) else (((idx x0.Kids 2).bind fun x310 => ((FC N x54 x310).bind fun r316 => some r316)).bind fun j302 => (bif j302 then some x54 else some x0)))))) else none))))))))
theorem Kx : Au Tryz.prog 148 := fun _ _ => by kernel_rfl
theorem Le (N : Nat) (w0 : World) (F0 : Mem) (hF : TP w0 F0) (x0 : Expr) (a0_2 : TO) (n0_2 : Nat) (hb0_2 : LC x0.Kids.length n0_2) (hs0_2 : SlA As F0 a0_2 x0.Kids) (r : Expr) (h : IK N x0 = some r) :
  Calls Tryz.prog 148 ([(.agg (Ai x0 a0_2 n0_2))] : List Value).toArray w0 (Bd w0 F0 fun F' v => ∃ (aq0_2 : TO) (nq0_2 : Nat), v = (.agg (Ai r aq0_2 nq0_2)) /\ LC r.Kids.length nq0_2 /\ SlA As F' aq0_2 r.Kids) := by
 have hs0 := Tp hF
 refine Go 130 Tryz.func148 ?_
 refine Sq (Rg [0, 1] ?_)
 refine Bx' 33 (Ai x0 a0_2 n0_2) hs0 (fun b21 w22 hs23 => ?_)
 refine Al' 33 #[(vi 0), (vi 0), (.slice none ([] : List Expr).length 0)] hs23 (fun b24 w25 hs26 => ?_)
 refine Nss ?_
 refine Sq (Rg [0, 1, 2, 3] ?_)
 refine Vs 1 ?_
 refine Ld hs26.at1 ?_
 refine Vs 2 ?_
 refine Nt ?_
 refine Cd h (fun hb27 h28 => ?_) (fun hb27 h29 => ?_)
 ·refine Sq (Rg [0, 1] ?_)
  refine Ld hs26.at1 ?_
  refine St0 (Ai x0 a0_2 n0_2) hs26 (fun w30 hs31 => ?_)
  refine Nt ?_
  refine Rt ?_
  refine Aj ?_
  obtain rfl := Ab h28
  exact ⟨rfl, (.agg (Ai x0 a0_2 n0_2)), AE (l := [.cell 2 33]) (by kernel_rfl) (vs := [(.agg (Ai x0 a0_2 n0_2))]) ⟨b24, 0, rfl, Am (t := 33) (g := true) (s := 3) (by kernel_rfl) hs31.at0 rfl (by decide), trivial⟩, (.agg (Ai x0 a0_2 n0_2)), F0, rfl, hs31.clear, ⟨a0_2, n0_2, rfl, hb0_2, hs0_2⟩⟩
 ·refine Sc ?_
  refine Ad ?_
  refine Sq (Rg [0, 1, 2, 3, 4, 5] ?_)
  refine Vs 1 ?_
  refine Ld hs26.at1 ?_
  obtain ⟨x32, hx33, h35⟩ := bind_some h29
  obtain ⟨hi34, hx33'⟩ := Az hx33
  obtain ⟨b36, o37, C38, E39, fz40, rfl, hF42, hE43⟩ := Tx hs0_2 hx33'
  obtain ⟨ae44_2, ne44_2, hc45, hbe44_2, hse44_2⟩ := (A1 (hE43 _ _ hx33'))
  refine Ix hi34 ?_
  refine Lx 0 (hs26.pers _ _ hF42) hc45 ?_
  refine Al' 33 #[(vi 0), (vi 0), (.slice none ([] : List Expr).length 0)] hs26 (fun b46 w47 hs48 => ?_)
  refine St0 (Ai x32 ae44_2 ne44_2) hs48 (fun w49 hs50 => ?_)
  refine Nss ?_
  refine Sq (Rg [0, 1, 2] ?_)
  refine Vs 1 ?_
  refine Ld hs50.at2 ?_
  refine Vs 1 ?_
  refine Nt ?_
  refine Cd h35 (fun hb51 h52 => ?_) (fun hb51 h53 => ?_)
  ·cases h52
  ·refine Sc ?_
   refine Ad ?_
   refine Sq (Rg [0, 1, 2, 3, 4, 5] ?_)
   refine Vs 1 ?_
   refine Ld hs50.at2 ?_
   obtain ⟨x54, hx55, h57⟩ := bind_some h53
   obtain ⟨hi56, hx55'⟩ := Az hx55
   obtain ⟨ae58_2, ne58_2, hc59, hbe58_2, hse58_2⟩ := (A1 (hE43 _ _ hx55'))
   refine Ix hi56 ?_
   refine Lx 0 (hs50.pers _ _ hF42) hc59 ?_
   refine Al' 33 #[(vi 0), (vi 0), (.slice none ([] : List Expr).length 0)] hs50 (fun b60 w61 hs62 => ?_)
   refine St0 (Ai x54 ae58_2 ne58_2) hs62 (fun w63 hs64 => ?_)
   refine Nss (Rg [0, 1, 2, 3, 4, 5, 6, 7, 8] ?_)
   refine Tt (fun f w => ∃ (F1 : Mem), HS w0 F0 w F1 [(sb b60 (Ai x54 ae58_2 ne58_2) 33), (sb b46 (Ai x32 ae44_2 ne44_2) 33), (sb b24 #[(vi 0), (vi 0), (.slice none ([] : List Expr).length 0)] 33), (sb b21 (Ai x0 (some ⟨b36, o37, none⟩) n0_2) 33)] /\ Tn F0 F1 /\ FI f [] [(1, (pt b21 0)), (2, (pt b24 0)), (3, (pt b46 0)), (4, (pt b60 0)), (5, (.bool ((x32.Op == 1) && (x54.Op == 1))))]) ?_ ?_
   ·refine Vs 1 ?_
    refine Ld hs64.at1 ?_
    refine Vs 2 ?_
    refine Ts (x32.Op == 1) (fun hb74 => ?_) (fun hb74 => ?_)
    ·refine Vgs hb74 1 ?_
     refine Lg hb74 hs64.at0 ?_
     refine Vgs hb74 1 ?_
     refine Pk1 hb74 ?_
     refine Vs 1 ?_
     exact Tj ⟨rfl, F0, hs64, (To _), (fJ ⟨rfl, rfl, rfl, rfl, (congrArg Value.bool (Cz hb74 rfl)), trivial⟩)⟩
    ·refine Ss hb74 3 ?_
     refine Pk0 hb74 ?_
     refine Vs 1 ?_
     exact Tj ⟨rfl, F0, hs64, (To _), (fJ ⟨rfl, rfl, rfl, rfl, (congrArg Value.bool (Dw hb74 rfl)), trivial⟩)⟩
   ·rintro f w65 ⟨F1, hs66, le67, ⟨_, rfl⟩⟩
    refine Ad ?_
    refine Sq ?_
    refine Sq (Rg [0, 1] ?_)
    refine Vs 1 ?_
    refine Ld hs66.at3 ?_
    refine Nt ?_
    refine Bk ?_
    refine Sq ?_
    refine Sq (Rg [0, 1] ?_)
    refine Vs 2 ?_
    refine Nt ?_
    refine Tu (fun f w => ∃ (F2 : Mem), HS w0 F0 w F2 [(sb b60 (Ai x54 ae58_2 ne58_2) 33), (sb b46 (Ai x32 ae44_2 ne44_2) 33), (sb b24 #[(vi 0), (vi 0), (.slice none ([] : List Expr).length 0)] 33), (sb b21 (Ai x0 (some ⟨b36, o37, none⟩) n0_2) 33)] /\ Tn F1 F2 /\ FI f [] [(1, (pt b21 0)), (2, (pt b24 0)), (3, (pt b46 0)), (4, (pt b60 0)), (5, (.bool ((x32.Op == 1) && (x54.Op == 1)))), (49, (vi x0.Op)), (50, (.bool (bif (x0.Op == 6) then (x0.Op == 6) else (x0.Op == 7))))]) ?_ ?_
    ·refine Cp (x0.Op == 6) (fun hb86 => ?_) (fun hb86 => ?_)
     ·refine Sc ?_
      exact .inl ⟨rfl, F1, hs66, (To _), (fJ ⟨rfl, rfl, rfl, rfl, rfl, rfl, (congrArg Value.bool (CH hb86 rfl)), trivial⟩)⟩
     ·refine Rg [0, 1] ?_
      refine Vs 2 ?_
      refine Tj ?_
      exact .inl ⟨rfl, F1, hs66, (To _), (fJ ⟨rfl, rfl, rfl, rfl, rfl, rfl, (congrArg Value.bool (C7 hb86 rfl)), trivial⟩)⟩
    ·rintro f w75 ⟨F2, hs76, le77, ⟨_, rfl⟩⟩
     refine Ad ?_
     refine Cd h57 (fun hb87 h88 => ?_) (fun hb87 h89 => ?_)
     ·refine Sq (Rg [0, 1, 2, 3, 4, 5] ?_)
      obtain ⟨j93, hj101, h102⟩ := bind_some h88
      refine Tt (fun f w => ∃ (F3 : Mem), HS w0 F0 w F3 [(sb b60 (Ai x54 ae58_2 ne58_2) 33), (sb b46 (Ai x32 ae44_2 ne44_2) 33), (sb b24 #[(vi 0), (vi 0), (.slice none ([] : List Expr).length 0)] 33), (sb b21 (Ai x0 (some ⟨b36, o37, none⟩) n0_2) 33)] /\ Tn F2 F3 /\ FI f [] [(1, (pt b21 0)), (2, (pt b24 0)), (3, (pt b46 0)), (4, (pt b60 0)), (5, (.bool ((x32.Op == 1) && (x54.Op == 1)))), (58, (.bool j93))]) ?_ ?_
      ·refine Vs 2 ?_
       refine Sp hj101 (fun hb103 h104 => ?_) (fun hb103 h105 => ?_)
       ·refine Ss hb103 3 ?_
        refine Pk1 hb103 ?_
        obtain rfl := Ab h104
        exact Tj ⟨rfl, F2, hs76, (To _), fI⟩
       ·refine Lg hb103 hs76.at1 ?_
        refine Lg hb103 hs76.at0 ?_
        obtain ⟨r106, hr107, h108⟩ := bind_some h105
        refine Cg hb103 DT hs76 (Fm N w75 F2 hs76.pers x32 ae44_2 ne44_2 hbe44_2 (Tq hse44_2 (le67.trans le77)) x54 ae58_2 ne58_2 hbe58_2 (Tq hse58_2 (le67.trans le77)) _ hr107) ?_
        rintro _ F4 w110 hs111 le112 rfl
        refine Pk0 hb103 ?_
        obtain rfl := Ab h108
        exact Tj ⟨rfl, F4, hs111, le112, fI⟩
      ·rintro f w90 ⟨F3, hs91, le92, ⟨_, rfl⟩⟩
       refine Ad ?_
       refine Cd h102 (fun hb114 h115 => ?_) (fun hb114 h116 => ?_)
       ·refine Sq (Rg [0, 1, 2, 3, 4, 5, 6, 7, 8, 9, 10, 11, 12, 13, 14, 15, 16, 17, 18, 19, 20, 21, 22, 23, 24] ?_)
        refine Vs 1 ?_
        refine Ld hs91.at3 ?_
        refine Vs 2 ?_
        refine Sp h115 (fun hb117 h118 => ?_) (fun hb117 h119 => ?_)
        ·refine Lg hb117 hs91.at1 ?_
         refine Lg hb117 hs91.at0 ?_
         obtain ⟨r120, hr121, h122⟩ := bind_some h118
         refine Cg hb117 DT hs91 (Fm N w90 F3 hs91.pers x32 ae44_2 ne44_2 hbe44_2 (Tq hse44_2 ((le67.trans le77).trans le92)) x54 ae58_2 ne58_2 hbe58_2 (Tq hse58_2 ((le67.trans le77).trans le92)) _ hr121) ?_
         rintro _ F5 w124 hs125 le126 rfl
         refine Pk1 hb117 ?_
         refine Vs 1 ?_
         refine Sp h122 (fun hb128 h129 => ?_) (fun hb128 h130 => ?_)
         ·refine Ss hb128 4 ?_
          refine Su' 1 ?_
          refine Ss hb128 2 ?_
          refine Su' 5 ?_
          refine Ss hb128 1 ?_
          refine Pk1 hb128 ?_
          obtain ⟨r131, hr132, h133⟩ := bind_some h129
          refine Cl' GF hs125 (G8 N w124 F5 hs125.pers true _ hr132) ?_
          rintro _ F6 w135 hs136 le137 ⟨ar131_0_2, nr131_0_2, rfl, hbr131_0_2, hsr131_0_2⟩
          refine St2 (Ai r131 ar131_0_2 nr131_0_2) hs136 (fun w139 hs140 => ?_)
          refine Nt ?_
          refine Rt ?_
          refine Ao ?_
          refine Aj ?_
          obtain rfl := Ab h133
          exact ⟨rfl, (.agg (Ai r131 ar131_0_2 nr131_0_2)), AE (l := [.cell 2 33]) (by kernel_rfl) (vs := [(.agg (Ai r131 ar131_0_2 nr131_0_2))]) ⟨b24, 0, rfl, Am (t := 33) (g := true) (s := 3) (by kernel_rfl) hs140.at2 rfl (by decide), trivial⟩, (.agg (Ai r131 ar131_0_2 nr131_0_2)), F6, rfl, hs140.clear, ⟨ar131_0_2, nr131_0_2, rfl, hbr131_0_2, hsr131_0_2⟩⟩
         ·refine Vgs hb128 1 ?_
          refine Lg hb128 hs125.at3 ?_
          refine Vgs hb128 2 ?_
          refine Sp h130 (fun hb141 h142 => ?_) (fun hb141 h143 => ?_)
          ·cases h142
          ·cases h143
        ·refine Ss hb117 3 ?_
         refine Pk0 hb117 ?_
         refine Vs 1 ?_
         refine Vg 68 0 8 false 67 rfl (fa 33 1 0 0 1 b21 0 0) ?_
         refine Vg 69 3 8 false 67 rfl (ld 3 68 b21 0 false 1 (vi x0.Op) hs91.at3) ?_
         refine Vg 70 4 8 false 67 rfl (Pe (t := 3) (t' := 3) (x := (.tmp 69)) (y := (.const (vi 7))) (k := .i64) (a := x0.Op) (b := 7) rfl rfl) ?_
         refine Vg 71 4 8 false 67 rfl (mv 70 (.bool (x0.Op == 7))) ?_
         refine Sp h119 (fun hb144 h145 => ?_) (fun hb144 h146 => ?_)
         ·cases h145
         ·cases h146
       ·refine Sc ?_
        refine AA ?_
        refine Ad ?_
        refine Sq (Rg [0, 1] ?_)
        refine Ld hs91.at3 ?_
        refine St2 (Ai x0 (some ⟨b36, o37, none⟩) n0_2) hs91 (fun w147 hs148 => ?_)
        refine Nt ?_
        refine Rt ?_
        obtain rfl := Ab h116
        exact ⟨rfl, (.agg (Ai x0 (some ⟨b36, o37, none⟩) n0_2)), AE (l := [.cell 2 33]) (by kernel_rfl) (vs := [(.agg (Ai x0 (some ⟨b36, o37, none⟩) n0_2))]) ⟨b24, 0, rfl, Am (t := 33) (g := true) (s := 3) (by kernel_rfl) hs148.at2 rfl (by decide), trivial⟩, (.agg (Ai x0 (some ⟨b36, o37, none⟩) n0_2)), F3, rfl, hs148.clear, ⟨(some ⟨b36, o37, none⟩), n0_2, rfl, hb0_2, (Tq hs0_2 ((le67.trans le77).trans le92))⟩⟩
     ·refine Sq ?_
      refine Sq (Rg [0, 1] ?_)
      refine Vs 2 ?_
      refine Nt ?_
      refine Tu (fun f w => ∃ (F7 : Mem), HS w0 F0 w F7 [(sb b60 (Ai x54 ae58_2 ne58_2) 33), (sb b46 (Ai x32 ae44_2 ne44_2) 33), (sb b24 #[(vi 0), (vi 0), (.slice none ([] : List Expr).length 0)] 33), (sb b21 (Ai x0 (some ⟨b36, o37, none⟩) n0_2) 33)] /\ Tn F2 F7 /\ FI f [] [(1, (pt b21 0)), (2, (pt b24 0)), (3, (pt b46 0)), (4, (pt b60 0)), (5, (.bool ((x32.Op == 1) && (x54.Op == 1)))), (49, (vi x0.Op)), (83, (.bool (bif (x0.Op == 4) then (x0.Op == 4) else (x0.Op == 5))))]) ?_ ?_
      ·refine Cp (x0.Op == 4) (fun hb160 => ?_) (fun hb160 => ?_)
       ·refine Sc ?_
        exact .inl ⟨rfl, F2, hs76, (To _), (fJ ⟨rfl, rfl, rfl, rfl, rfl, rfl, (congrArg Value.bool (CH hb160 rfl)), trivial⟩)⟩
       ·refine Rg [0, 1] ?_
        refine Vs 2 ?_
        refine Tj ?_
        exact .inl ⟨rfl, F2, hs76, (To _), (fJ ⟨rfl, rfl, rfl, rfl, rfl, rfl, (congrArg Value.bool (C7 hb160 rfl)), trivial⟩)⟩
      ·rintro f w149 ⟨F7, hs150, le151, ⟨_, rfl⟩⟩
       refine Ad ?_
       refine Cd h89 (fun hb161 h162 => ?_) (fun hb161 h163 => ?_)
       ·cases h162
       ·refine Sq ?_
        refine Sq (Rg [0, 1] ?_)
        refine Vs 2 ?_
        refine Nt ?_
        refine Tu (fun f w => ∃ (F8 : Mem), HS w0 F0 w F8 [(sb b60 (Ai x54 ae58_2 ne58_2) 33), (sb b46 (Ai x32 ae44_2 ne44_2) 33), (sb b24 #[(vi 0), (vi 0), (.slice none ([] : List Expr).length 0)] 33), (sb b21 (Ai x0 (some ⟨b36, o37, none⟩) n0_2) 33)] /\ Tn F7 F8 /\ FI f [] [(1, (pt b21 0)), (2, (pt b24 0)), (3, (pt b46 0)), (4, (pt b60 0)), (5, (.bool ((x32.Op == 1) && (x54.Op == 1)))), (49, (vi x0.Op)), (90, (.bool (bif (x0.Op == 8) then (x0.Op == 8) else (bif (x0.Op == 9) then (x0.Op == 9) else (x0.Op == 10)))))]) ?_ ?_
        ·refine Cp (x0.Op == 8) (fun hb175 => ?_) (fun hb175 => ?_)
         ·refine Sc ?_
          exact .inl ⟨rfl, F7, hs150, (To _), (fJ ⟨rfl, rfl, rfl, rfl, rfl, rfl, (congrArg Value.bool (CH hb175 rfl)), trivial⟩)⟩
         ·refine Sq (Rg [0, 1] ?_)
          refine Vs 2 ?_
          refine Nt ?_
          refine Tu (fun f w => ∃ (F9 : Mem), HS w0 F0 w F9 [(sb b60 (Ai x54 ae58_2 ne58_2) 33), (sb b46 (Ai x32 ae44_2 ne44_2) 33), (sb b24 #[(vi 0), (vi 0), (.slice none ([] : List Expr).length 0)] 33), (sb b21 (Ai x0 (some ⟨b36, o37, none⟩) n0_2) 33)] /\ Tn F7 F9 /\ FI f [] [(1, (pt b21 0)), (2, (pt b24 0)), (3, (pt b46 0)), (4, (pt b60 0)), (5, (.bool ((x32.Op == 1) && (x54.Op == 1)))), (49, (vi x0.Op)), (90, (.bool (bif (x0.Op == 9) then (x0.Op == 9) else (x0.Op == 10))))]) ?_ ?_
          ·refine Cp (x0.Op == 9) (fun hb187 => ?_) (fun hb187 => ?_)
           ·refine Sc ?_
            exact .inl ⟨rfl, F7, hs150, (To _), (fJ ⟨rfl, rfl, rfl, rfl, rfl, rfl, (congrArg Value.bool (CH hb187 rfl)), trivial⟩)⟩
           ·refine Rg [0, 1] ?_
            refine Vs 2 ?_
            refine Tj ?_
            exact .inl ⟨rfl, F7, hs150, (To _), (fJ ⟨rfl, rfl, rfl, rfl, rfl, rfl, (congrArg Value.bool (C7 hb187 rfl)), trivial⟩)⟩
          ·rintro f w176 ⟨F9, hs177, le178, ⟨_, rfl⟩⟩
           exact .inl ⟨rfl, F9, hs177, le178, (fJ ⟨rfl, rfl, rfl, rfl, rfl, rfl, (congrArg Value.bool (C7 hb175 rfl)), trivial⟩)⟩
        ·rintro f w164 ⟨F8, hs165, le166, ⟨_, rfl⟩⟩
         refine Ad ?_
         refine Cd h163 (fun hb188 h189 => ?_) (fun hb188 h190 => ?_)
         ·refine Sq ?_
          refine Sq ?_
          obtain ⟨j196, hj204, h205⟩ := bind_some h189
          refine RD 4 4 [(sb b60 (Ai x54 ae58_2 ne58_2) 33), (sb b46 (Ai x32 ae44_2 ne44_2) 33), (sb b24 #[(vi 0), (vi 0), (.slice none ([] : List Expr).length 0)] 33), (sb b21 (Ai x0 (some ⟨b36, o37, none⟩) n0_2) 33)] [] hs165 (fun f w => ∃ (F10 : Mem), HS w0 F0 w F10 [(sb b60 (Ai x54 ae58_2 ne58_2) 33), (sb b46 (Ai x32 ae44_2 ne44_2) 33), (sb b24 #[(vi 0), (vi 0), (.slice none ([] : List Expr).length 0)] 33), (sb b21 (Ai x0 (some ⟨b36, o37, none⟩) n0_2) 33)] /\ Tn F8 F10 /\ FI f [] [(1, (pt b21 0)), (2, (pt b24 0)), (3, (pt b46 0)), (4, (pt b60 0)), (5, (.bool ((x32.Op == 1) && (x54.Op == 1)))), (6, (vi j196))]) (fun wd191 hw192 => ?_) ?_
          ·refine Dl 0 (fun _ hq => (hq.1.2 3 _ _ rfl)) ?_
           refine D1 1 ?_
           obtain ⟨r206, hm207, h208⟩ := bind_some hj204
           refine AB.makeSlice (l' := [true, true, false, false]) (zd := true) (by kernel_rfl) (by kernel_rfl) (dst := (some 95)) (ty := 47) (g := none) (by kernel_rfl) rfl (x := (.const (vi 14))) (y := (.const (vi 14))) (t := 47) (by_ := 8) (z := (vi 0)) (T := Do) (E := 3) rfl rfl (by kernel_rfl) (by decide) (by kernel_rfl) (z0 := 0) (fun _ => rfl) (by decide) hw192 hm207 (To _) (by simp) (fun e => by cases e) (fun b209 n210 C211 w212 (hs213 : HS w0 F0 w212 F8 [(some b209, .cells C211 3 (0, 0)), (sb b60 (Ai x54 ae58_2 ne58_2) 33), (sb b46 (Ai x32 ae44_2 ne44_2) 33), (sb b24 #[(vi 0), (vi 0), (.slice none ([] : List Expr).length 0)] 33), (sb b21 (Ai x0 (some ⟨b36, o37, none⟩) n0_2) 33)]) hr214 => ?_)
           refine D1 2 ?_
           have hb219 := TF hr214
           obtain ⟨F11, hs216, le217, hs218⟩ := hs213.fr0 hr214
           obtain ⟨r220, hr221, h222⟩ := bind_some h208
           refine DCl Ee hs216 (Gr N w212 F11 hs216.pers x0 (some ⟨b36, o37, none⟩) n0_2 hb0_2 (Tq hs0_2 ((((le67.trans le77).trans le151).trans le166).trans le217)) r206 (some ⟨b209, 0, none⟩) n210 hb219 hs218 _ hr221) ?_
           rintro _ F12 w224 hs225 le226 rfl
           refine Dv [3] ?_
           obtain rfl := Ab h222
           exact TE (by kernel_rfl) ⟨F12, hs225, (le217.trans le226), fI⟩
          ·rintro f w193 ⟨F10, hs194, le195, ⟨_, rfl⟩⟩
           refine Ad ?_
           refine Sq (Rg [0, 1, 2, 3, 4] ?_)
           refine Tt (fun f w => ∃ (F13 : Mem), HS w0 F0 w F13 [(sb b60 (Ai x54 ae58_2 ne58_2) 33), (sb b46 (Ai x32 ae44_2 ne44_2) 33), (sb b24 #[(vi 0), (vi 0), (.slice none ([] : List Expr).length 0)] 33), (sb b21 (Ai x0 (some ⟨b36, o37, none⟩) n0_2) 33)] /\ Tn F10 F13 /\ FI f [] [(1, (pt b21 0)), (2, (pt b24 0)), (3, (pt b46 0)), (4, (pt b60 0)), (6, (vi j196)), (101, (.bool (((x32.Op == 1) && (x54.Op == 1)) && (decide (j196 >= 0)))))]) ?_ ?_
           ·refine Vs 2 ?_
            refine Ts ((x32.Op == 1) && (x54.Op == 1)) (fun hb238 => ?_) (fun hb238 => ?_)
            ·refine Vgs hb238 2 ?_
             refine Pk1 hb238 ?_
             exact Tj ⟨rfl, F10, hs194, (To _), (fJ ⟨rfl, rfl, rfl, rfl, rfl, (congrArg Value.bool (Cz hb238 rfl)), trivial⟩)⟩
            ·refine Ss hb238 2 ?_
             refine Pk0 hb238 ?_
             exact Tj ⟨rfl, F10, hs194, (To _), (fJ ⟨rfl, rfl, rfl, rfl, rfl, (congrArg Value.bool (Dw hb238 rfl)), trivial⟩)⟩
           ·rintro f w228 ⟨F13, hs229, le230, ⟨_, rfl⟩⟩
            refine Ad ?_
            refine Cd h205 (fun hb239 h240 => ?_) (fun hb239 h241 => ?_)
            ·refine Sq (Rg [0, 1, 2] ?_)
             refine Vs 1 ?_
             obtain ⟨r242, hr243, h244⟩ := bind_some h240
             refine Cl' Ef hs229 (EA N w228 F13 hs229.pers j196 _ hr243) ?_
             rintro _ F14 w246 hs247 le248 ⟨ar242_0_2, nr242_0_2, rfl, hbr242_0_2, hsr242_0_2⟩
             refine St2 (Ai r242 ar242_0_2 nr242_0_2) hs247 (fun w250 hs251 => ?_)
             refine Nt ?_
             refine Rt ?_
             refine Aj ?_
             refine Ao ?_
             refine Aj ?_
             obtain rfl := Ab h244
             exact ⟨rfl, (.agg (Ai r242 ar242_0_2 nr242_0_2)), AE (l := [.cell 2 33]) (by kernel_rfl) (vs := [(.agg (Ai r242 ar242_0_2 nr242_0_2))]) ⟨b24, 0, rfl, Am (t := 33) (g := true) (s := 3) (by kernel_rfl) hs251.at2 rfl (by decide), trivial⟩, (.agg (Ai r242 ar242_0_2 nr242_0_2)), F14, rfl, hs251.clear, ⟨ar242_0_2, nr242_0_2, rfl, hbr242_0_2, hsr242_0_2⟩⟩
            ·refine Sc ?_
             refine Ad ?_
             refine Sq (Rg [0, 1, 2, 3, 4] ?_)
             refine Ld hs229.at3 ?_
             refine Ld hs229.at1 ?_
             refine Ld hs229.at0 ?_
             obtain ⟨r252, hr253, h254⟩ := bind_some h241
             refine Cl' J5 hs229 (KD N w228 F13 hs229.pers x0 (some ⟨b36, o37, none⟩) n0_2 hb0_2 (Tq hs0_2 (((((le67.trans le77).trans le151).trans le166).trans le195).trans le230)) x32 ae44_2 ne44_2 hbe44_2 (Tq hse44_2 (((((le67.trans le77).trans le151).trans le166).trans le195).trans le230)) x54 ae58_2 ne58_2 hbe58_2 (Tq hse58_2 (((((le67.trans le77).trans le151).trans le166).trans le195).trans le230)) _ hr253) ?_
             rintro _ F15 w256 hs257 le258 ⟨ar252_0_2, nr252_0_2, rfl, hbr252_0_2, hsr252_0_2⟩
             refine St2 (Ai r252 ar252_0_2 nr252_0_2) hs257 (fun w260 hs261 => ?_)
             refine Nt ?_
             refine Rt ?_
             refine Ao ?_
             refine Aj ?_
             obtain rfl := Ab h254
             exact ⟨rfl, (.agg (Ai r252 ar252_0_2 nr252_0_2)), AE (l := [.cell 2 33]) (by kernel_rfl) (vs := [(.agg (Ai r252 ar252_0_2 nr252_0_2))]) ⟨b24, 0, rfl, Am (t := 33) (g := true) (s := 3) (by kernel_rfl) hs261.at2 rfl (by decide), trivial⟩, (.agg (Ai r252 ar252_0_2 nr252_0_2)), F15, rfl, hs261.clear, ⟨ar252_0_2, nr252_0_2, rfl, hbr252_0_2, hsr252_0_2⟩⟩
         ·refine Sq (Rg [0, 1] ?_)
          refine Vs 2 ?_
          refine Nt ?_
          refine Cd h190 (fun hb262 h263 => ?_) (fun hb262 h264 => ?_)
          ·refine Bk ?_
           refine Sq (Rg [0, 1, 2] ?_)
           refine Ld hs165.at1 ?_
           obtain ⟨r265, hr266, h267⟩ := bind_some h263
           refine Cl' GG hs165 (G9 N w164 F8 hs165.pers x32 ae44_2 ne44_2 hbe44_2 (Tq hse44_2 (((le67.trans le77).trans le151).trans le166)) true _ hr266) ?_
           rintro _ F16 w269 hs270 le271 rfl
           refine Vs 1 ?_
           refine Nt ?_
           refine Cd h267 (fun hb273 h274 => ?_) (fun hb273 h275 => ?_)
           ·refine Sq (Rg [0, 1] ?_)
            refine Ld hs270.at0 ?_
            refine St2 (Ai x54 ae58_2 ne58_2) hs270 (fun w276 hs277 => ?_)
            refine Nt ?_
            refine Rt ?_
            refine Ao ?_
            refine Ao ?_
            refine Aj ?_
            obtain rfl := Ab h274
            exact ⟨rfl, (.agg (Ai x54 ae58_2 ne58_2)), AE (l := [.cell 2 33]) (by kernel_rfl) (vs := [(.agg (Ai x54 ae58_2 ne58_2))]) ⟨b24, 0, rfl, Am (t := 33) (g := true) (s := 3) (by kernel_rfl) hs277.at2 rfl (by decide), trivial⟩, (.agg (Ai x54 ae58_2 ne58_2)), F16, rfl, hs277.clear, ⟨ae58_2, ne58_2, rfl, hbe58_2, (Tq hse58_2 ((((le67.trans le77).trans le151).trans le166).trans le271))⟩⟩
           ·refine Sq (Rg [0, 1, 2] ?_)
            refine Ld hs270.at1 ?_
            obtain ⟨r278, hr279, h280⟩ := bind_some h275
            refine Cl' GG hs270 (G9 N w269 F16 hs270.pers x32 ae44_2 ne44_2 hbe44_2 (Tq hse44_2 ((((le67.trans le77).trans le151).trans le166).trans le271)) false _ hr279) ?_
            rintro _ F17 w282 hs283 le284 rfl
            refine Vs 1 ?_
            refine Nt ?_
            refine Cd h280 (fun hb286 h287 => ?_) (fun hb286 h288 => ?_)
            ·refine Sq (Rg [0, 1, 2, 3, 4] ?_)
             refine Vs 1 ?_
             refine Ld hs283.at3 ?_
             obtain ⟨x289, hx290, h292⟩ := bind_some h287
             obtain ⟨hi291, hx290'⟩ := Az hx290
             obtain ⟨ae293_2, ne293_2, hc294, hbe293_2, hse293_2⟩ := (A1 (hE43 _ _ hx290'))
             refine Ix hi291 ?_
             refine Lx 0 (hs283.pers _ _ ((((((le67.trans le77).trans le151).trans le166).trans le271).trans le284) _ _ hF42)) hc294 ?_
             refine St2 (Ai x289 ae293_2 ne293_2) hs283 (fun w295 hs296 => ?_)
             refine Nt ?_
             refine Rt ?_
             refine Ao ?_
             refine Ao ?_
             refine Aj ?_
             obtain rfl := Ab h292
             exact ⟨rfl, (.agg (Ai x289 ae293_2 ne293_2)), AE (l := [.cell 2 33]) (by kernel_rfl) (vs := [(.agg (Ai x289 ae293_2 ne293_2))]) ⟨b24, 0, rfl, Am (t := 33) (g := true) (s := 3) (by kernel_rfl) hs296.at2 rfl (by decide), trivial⟩, (.agg (Ai x289 ae293_2 ne293_2)), F17, rfl, hs296.clear, ⟨ae293_2, ne293_2, rfl, hbe293_2, (Tq hse293_2 (((((le67.trans le77).trans le151).trans le166).trans le271).trans le284))⟩⟩
            ·refine Sq ?_
             obtain ⟨j302, hj308, h309⟩ := bind_some h288
             refine RD 7 7 [(sb b60 (Ai x54 ae58_2 ne58_2) 33), (sb b46 (Ai x32 ae44_2 ne44_2) 33), (sb b24 #[(vi 0), (vi 0), (.slice none ([] : List Expr).length 0)] 33), (sb b21 (Ai x0 (some ⟨b36, o37, none⟩) n0_2) 33)] [] hs283 (fun f w => ∃ (F18 : Mem), HS w0 F0 w F18 [(sb b60 (Ai x54 ae58_2 ne58_2) 33), (sb b24 #[(vi 0), (vi 0), (.slice none ([] : List Expr).length 0)] 33), (sb b21 (Ai x0 (some ⟨b36, o37, none⟩) n0_2) 33)] /\ Tn F17 F18 /\ FI f [] [(1, (pt b21 0)), (2, (pt b24 0)), (4, (pt b60 0)), (121, (.bool j302))]) (fun wd297 hw298 => ?_) ?_
             ·refine Dl 0 (fun _ hq => (hq.1.2 0 _ _ rfl)) ?_
              refine Dv [1] ?_
              refine Dl 2 (fun _ hq => (hq.1.2 3 _ _ rfl)) ?_
              obtain ⟨x310, hx311, h313⟩ := bind_some hj308
              obtain ⟨hi312, hx311'⟩ := Az hx311
              obtain ⟨ae314_2, ne314_2, hc315, hbe314_2, hse314_2⟩ := (A1 (hE43 _ _ hx311'))
              refine Di 3 hi312 ?_
              refine Dx 4 0 (fun _ hq => hq.1.1 _ _ ((((((le67.trans le77).trans le151).trans le166).trans le271).trans le284) _ _ hF42)) hc315 ?_
              refine D1 5 ?_
              obtain ⟨r316, hr317, h318⟩ := bind_some h313
              refine DCl DT hw298 (Fm N wd297 F17 hw298.pers x54 ae58_2 ne58_2 hbe58_2 (Tq hse58_2 (((((le67.trans le77).trans le151).trans le166).trans le271).trans le284)) x310 ae314_2 ne314_2 hbe314_2 (Tq hse314_2 (((((le67.trans le77).trans le151).trans le166).trans le271).trans le284)) _ hr317) ?_
              rintro _ F19 w320 hs321 le322 rfl
              refine Dv [6] ?_
              obtain rfl := Ab h318
              exact TE (by kernel_rfl) ⟨F19, hs321.dr1, le322, fI⟩
             ·rintro f w299 ⟨F18, hs300, le301, ⟨_, rfl⟩⟩
              refine Ad ?_
              refine Cd h309 (fun hb324 h325 => ?_) (fun hb324 h326 => ?_)
              ·refine Sq (Rg [0, 1] ?_)
               refine Ld hs300.at0 ?_
               refine St1 (Ai x54 ae58_2 ne58_2) hs300 (fun w327 hs328 => ?_)
               refine Nt ?_
               refine Rt ?_
               refine Ao ?_
               refine Ao ?_
               refine Aj ?_
               obtain rfl := Ab h325
               exact ⟨rfl, (.agg (Ai x54 ae58_2 ne58_2)), AE (l := [.cell 2 33]) (by kernel_rfl) (vs := [(.agg (Ai x54 ae58_2 ne58_2))]) ⟨b24, 0, rfl, Am (t := 33) (g := true) (s := 3) (by kernel_rfl) hs328.at1 rfl (by decide), trivial⟩, (.agg (Ai x54 ae58_2 ne58_2)), F18, rfl, hs328.clear, ⟨ae58_2, ne58_2, rfl, hbe58_2, (Tq hse58_2 ((((((le67.trans le77).trans le151).trans le166).trans le271).trans le284).trans le301))⟩⟩
              ·refine Sc ?_
               refine AA ?_
               refine AA ?_
               refine Ad ?_
               refine Sq (Rg [0, 1] ?_)
               refine Ld hs300.at2 ?_
               refine St1 (Ai x0 (some ⟨b36, o37, none⟩) n0_2) hs300 (fun w329 hs330 => ?_)
               refine Nt ?_
               refine Rt ?_
               obtain rfl := Ab h326
               exact ⟨rfl, (.agg (Ai x0 (some ⟨b36, o37, none⟩) n0_2)), AE (l := [.cell 2 33]) (by kernel_rfl) (vs := [(.agg (Ai x0 (some ⟨b36, o37, none⟩) n0_2))]) ⟨b24, 0, rfl, Am (t := 33) (g := true) (s := 3) (by kernel_rfl) hs330.at1 rfl (by decide), trivial⟩, (.agg (Ai x0 (some ⟨b36, o37, none⟩) n0_2)), F18, rfl, hs330.clear, ⟨(some ⟨b36, o37, none⟩), n0_2, rfl, hb0_2, (Tq hs0_2 ((((((le67.trans le77).trans le151).trans le166).trans le271).trans le284).trans le301))⟩⟩
          ·cases h264
def O5 (sR94 : Expr -> Option Expr) : Prop := ∀ (w0 : World) (F0 : Mem) (hF : TP w0 F0) (x0 : Expr) (a0_2 : TO) (n0_2 : Nat) (hb0_2 : LC x0.Kids.length n0_2) (hs0_2 : SlA As F0 a0_2 x0.Kids) (r : Expr), sR94 x0 = some r -> Calls Tryz.prog 94 ([(.agg #[(.int .i64 x0.Op), (.int .i64 x0.Value), (.slice a0_2 x0.Kids.length n0_2)])] : List Value).toArray w0 (Bd w0 F0 fun F' v => ∃ (aq0_2 : TO) (nq0_2 : Nat), v = (.agg #[(.int .i64 r.Op), (.int .i64 r.Value), (.slice aq0_2 r.Kids.length nq0_2)]) /\ LC r.Kids.length nq0_2 /\ SlA As F' aq0_2 r.Kids)
theorem E7 : Au Tryz.prog 94 := fun _ _ => by kernel_rfl
def E3 (N : Nat) (sR94 : Expr -> Option Expr) (x0 : Expr) : (Int × List Expr) -> Option (Bv Expr (Int × List Expr)) := fun s37 =>
 (bif (decide (s37.1 < (x0.Kids.length : Int))) then ((idx x0.Kids s37.1).bind fun x63 => (((sR94 x63).bind fun r96 => ((CU s37.2 [r96]).bind fun r109 => some r109)).bind fun j87 => some (.next ((W64 (s37.1 + 1)), j87)))) else some (.done (s37.1, s37.2)))
def FB (N : Nat) (sR94 : Expr -> Option Expr) (x0 : Expr) : Option Expr :=
 ((Be (E3 N sR94 x0) N (0, ([] : List Expr))).bind fun o => o.k (fun r => some r) (fun s47 => ((IK N ({ Op := x0.Op, Value := x0.Value, Kids := s47.2 } : Expr)).bind fun r127 => some r127)))
theorem Iw (N : Nat) (sR94 : Expr -> Option Expr) (hsR94 : O5 sR94) (w0 : World) (F0 : Mem) (hF : TP w0 F0) (x0 : Expr) (a0_2 : TO) (n0_2 : Nat) (hb0_2 : LC x0.Kids.length n0_2) (hs0_2 : SlA As F0 a0_2 x0.Kids) (r : Expr) (h : FB N sR94 x0 = some r) :
  Calls Tryz.prog 94 ([(.agg (Ai x0 a0_2 n0_2))] : List Value).toArray w0 (Bd w0 F0 fun F' v => ∃ (aq0_2 : TO) (nq0_2 : Nat), v = (.agg (Ai r aq0_2 nq0_2)) /\ LC r.Kids.length nq0_2 /\ SlA As F' aq0_2 r.Kids) := by
 have hs0 := Tp hF
 refine Go 28 Tryz.func94 ?_
 refine Sq (Rg [0, 1] ?_)
 refine Bx' 33 (Ai x0 a0_2 n0_2) hs0 (fun b21 w22 hs23 => ?_)
 refine Al' 33 #[(vi 0), (vi 0), (.slice none ([] : List Expr).length 0)] hs23 (fun b24 w25 hs26 => ?_)
 refine Nss (Rg [0, 1, 2, 3, 4, 5, 6] ?_)
 refine Vs 1 ?_
 refine Ld hs26.at1 ?_
 refine Vs 1 ?_
 refine Ld hs26.at1 ?_
 refine Vs 1 ?_
 refine Al' 33 #[(vi 0), (vi 0), (.slice none ([] : List Expr).length 0)] hs26 (fun b27 w28 hs29 => ?_)
 refine St0 #[(vi x0.Op), (vi x0.Value), (.slice none ([] : List Expr).length 0)] hs29 (fun w30 hs31 => ?_)
 refine Nss ?_
 refine Sq (Rg [0, 1, 2, 3] ?_)
 refine Vs 1 ?_
 refine Ld hs31.at2 ?_
 refine Vs 2 ?_
 refine Nt ?_
 have hs32 := hs31.dr2.dummy (oc #[] 0)
 obtain ⟨o34, ho35, h36⟩ := bind_some h
 refine Tu (fun f w => ∃ (s47 : (Int × List Expr)) (F2 : Mem) (as47_1 : TO) (ns47_1 : Nat) (es47_1 : Option Nat × Obj), o34 = .done s47 /\ HS w0 F0 w F2 [es47_1, (sb b27 #[(vi x0.Op), (vi x0.Value), (.slice as47_1 s47.2.length ns47_1)] 33), (sb b24 #[(vi 0), (vi 0), (.slice none ([] : List Expr).length 0)] 33)] /\ Tn F0 F2 /\ FI f [] [(2, (pt b24 0)), (3, (pt b27 0))] /\ Av As 33 F2 as47_1 ns47_1 s47.2 es47_1) ?_ ?_
 ·refine Bk ?_
  refine Tm (by kernel_rfl) (fun m f w => ∃ (s37 : (Int × List Expr)) (F1 : Mem) (as37_1 : TO) (ns37_1 : Nat) (es37_1 : Option Nat × Obj), Be (E3 N sR94 x0) m s37 = some o34 /\ HS w0 F0 w F1 [es37_1, (sb b27 #[(vi x0.Op), (vi x0.Value), (.slice as37_1 s37.2.length ns37_1)] 33), (sb b24 #[(vi 0), (vi 0), (.slice none ([] : List Expr).length 0)] 33)] /\ Tn F0 F1 /\ FI f [] [(2, (pt b24 0)), (3, (pt b27 0)), (12, (.slice a0_2 x0.Kids.length n0_2)), (13, (vi (x0.Kids.length : Int))), (14, (vi s37.1))] /\ Av As 33 F1 as37_1 ns37_1 s37.2 es37_1) N ⟨(0, ([] : List Expr)), F0, none, 0, (none, .cells #[] 0 (0, 0)), ho35, hs32, (To _), fI, (TG As 33 F0 _)⟩ ?_
  rintro m54 f w38 ⟨s37, F1, as37_1, ns37_1, es37_1, hit55, hs39, le40, ⟨_, rfl⟩, hrs37_1⟩
  obtain ⟨m56, fl57, rfl, hb58, hnx59⟩ := A5 hit55
  refine Sq (Rg [0] ?_)
  refine Vs 1 ?_
  refine Nss ?_
  refine Cd hb58 (fun hb60 h61 => ?_) (fun hb60 h62 => ?_)
  ·refine Sc ?_
   refine Ad ?_
   refine Sq ?_
   refine Bk ?_
   refine Sq (Rg [0, 1, 2, 3] ?_)
   obtain ⟨x63, hx64, h66⟩ := bind_some h61
   obtain ⟨hi65, hx64'⟩ := Az hx64
   obtain ⟨b67, o68, C69, E70, fz71, rfl, hF73, hE74⟩ := Tx (Tq hs0_2 le40) hx64'
   obtain ⟨ae75_2, ne75_2, hc76, hbe75_2, hse75_2⟩ := (A1 (hE74 _ _ hx64'))
   refine Ix hi65 ?_
   refine Lx 0 (hs39.pers _ _ hF73) hc76 ?_
   refine Al' 33 #[(vi 0), (vi 0), (.slice none ([] : List Expr).length 0)] hs39 (fun b77 w78 hs79 => ?_)
   refine St0 (Ai x63 ae75_2 ne75_2) hs79 (fun w80 hs81 => ?_)
   refine Nt ?_
   obtain ⟨j87, hj94, h95⟩ := bind_some h66
   refine RD 7 8 [(sb b77 (Ai x63 ae75_2 ne75_2) 33), (sb b24 #[(vi 0), (vi 0), (.slice none ([] : List Expr).length 0)] 33)] [(sb b27 #[(vi x0.Op), (vi x0.Value), (.slice as37_1 s37.2.length ns37_1)] 33)] hs81 (fun f w => ∃ (F3 : Mem) (aj87_0 : TO) (nj87_0 : Nat) (ej87_0 : Option Nat × Obj), HS w0 F0 w F3 [ej87_0, (sb b27 #[(vi x0.Op), (vi x0.Value), (.slice aj87_0 j87.length nj87_0)] 33), (sb b24 #[(vi 0), (vi 0), (.slice none ([] : List Expr).length 0)] 33)] /\ Tn F1 F3 /\ FI f [] [(2, (pt b24 0)), (3, (pt b27 0)), (12, (.slice (some ⟨b67, o68, none⟩) x0.Kids.length n0_2)), (13, (vi (x0.Kids.length : Int))), (14, (vi s37.1))] /\ Av As 33 F3 aj87_0 nj87_0 j87 ej87_0) (fun wd82 hw83 => ?_) ?_
   ·refine Dv [0] ?_
    refine Dl 1 (fun _ hq => ((hq.2 rfl).2 0 _ _ rfl)) ?_
    refine Dl 2 (fun _ hq => (hq.1.2 0 _ _ rfl)) ?_
    refine D1 3 ?_
    obtain ⟨r96, hr97, h98⟩ := bind_some hj94
    refine DCl E7 hw83 (hsR94 wd82 F1 hw83.pers x63 ae75_2 ne75_2 hbe75_2 hse75_2 _ hr97) ?_
    rintro _ F4 w100 hs101 le102 ⟨ar96_0_2, nr96_0_2, rfl, hbr96_0_2, hsr96_0_2⟩
    refine D1 4 ?_
    refine DBs 33 [(vi r96.Op), (vi r96.Value), (.slice ar96_0_2 r96.Kids.length nr96_0_2)] hs101 le102 (fun b104 w105 hs106 => ?_)
    have hr108 : Av As 33 F4 (some ⟨b104, 0, none⟩) 1 [r96] (some b104, .cells ([(vi r96.Op), (vi r96.Value), (.slice ar96_0_2 r96.Kids.length nr96_0_2)] : List Value).toArray 33 (0, 0)) := TH ⟨(Ba ⟨ar96_0_2, nr96_0_2, rfl, hbr96_0_2, hsr96_0_2⟩), rfl⟩ (by simp)
    refine D1 5 ?_
    obtain ⟨r109, hap110, h111⟩ := bind_some h98
    refine Th N9 hs106 (hrs37_1.mono le102) (hs106.rd0 hr108) hap110 le102 (fun a112 n113 e114 w115 hs116 hr117 => ?_)
    refine Dv [6] ?_
    refine D1 7 ?_
    refine Q7 #[(vi x0.Op), (vi x0.Value), (.slice a112 r109.length n113)] hs116 le102 (fun w118 hs119 => ?_)
    obtain rfl := Ab h111
    exact TE (by kernel_rfl) ⟨F4, a112, n113, e114, hs119.dr0.dr0, le102, fI, hr117⟩
   ·rintro f w84 ⟨F3, aj87_0, nj87_0, ej87_0, hs85, le86, ⟨_, rfl⟩, hrj87_0⟩
    refine AA ?_
    refine Ad ?_
    refine Rg [0, 1] ?_
    refine Vs 2 ?_
    refine Tj ?_
    have hn120 := AW h95 hnx59
    exact ⟨m56, Nat.lt_succ_self _, ((W64 (s37.1 + 1)), j87), F3, aj87_0, nj87_0, ej87_0, hn120, hs85, (le40.trans le86), fI, hrj87_0⟩
  ·refine Ex ?_
   refine AC ?_
   refine AC ?_
   refine AL rfl ?_
   have ho121 := A8 h62 hnx59
   exact .inl ⟨rfl, (s37.1, s37.2), F1, as37_1, ns37_1, es37_1, ho121, hs39, le40, fI, hrs37_1⟩
 ·rintro f w48 ⟨s47, F2, as47_1, ns47_1, es47_1, rfl, hs49, le50, ⟨_, rfl⟩, hrs47_1⟩
  have h122 := BT h36
  refine Ad ?_
  refine Sq (Rg [0, 1, 2] ?_)
  refine Ld hs49.at1 ?_
  have hb126 := TF hrs47_1
  obtain ⟨F5, hs123, le124, hs125⟩ := hs49.fr0 hrs47_1
  obtain ⟨r127, hr128, h129⟩ := bind_some h122
  refine Cl' Kx hs123 (Le N w48 F5 hs123.pers (({ Op := x0.Op, Value := x0.Value, Kids := s47.2 } : Expr)) as47_1 ns47_1 hb126 hs125 _ hr128) ?_
  rintro _ F6 w131 hs132 le133 ⟨ar127_0_2, nr127_0_2, rfl, hbr127_0_2, hsr127_0_2⟩
  refine St1 (Ai r127 ar127_0_2 nr127_0_2) hs132 (fun w135 hs136 => ?_)
  refine Nt ?_
  refine Rt ?_
  obtain rfl := Ab h129
  exact ⟨rfl, (.agg (Ai r127 ar127_0_2 nr127_0_2)), AE (l := [.cell 2 33]) (by kernel_rfl) (vs := [(.agg (Ai r127 ar127_0_2 nr127_0_2))]) ⟨b24, 0, rfl, Am (t := 33) (g := true) (s := 3) (by kernel_rfl) hs136.at1 rfl (by decide), trivial⟩, (.agg (Ai r127 ar127_0_2 nr127_0_2)), F6, rfl, hs136.clear, ⟨ar127_0_2, nr127_0_2, rfl, hbr127_0_2, hsr127_0_2⟩⟩
structure SX where
 q94 : Expr -> Option Expr
def Pg (N : Nat) : Nat -> SX
 | 0 => ⟨fun _ => none⟩
 | k + 1 => ⟨FB N (Pg N k).q94⟩
theorem NZ (N : Nat) : ∀ k, O5 (Pg N k).q94
 | 0 => (by unfold O5; intros; rename_i h; cases h)
 | k + 1 => by
  have ih := NZ N k
  exact @Iw N (Pg N k).q94 ih
def GA (N : Nat) (x0 : Expr) : Option Expr := (Pg N N).q94 x0
theorem Je (N : Nat) (w0 : World) (F0 : Mem) (hF : TP w0 F0) (x0 : Expr) (a0_2 : TO) (n0_2 : Nat) (hb0_2 : LC x0.Kids.length n0_2) (hs0_2 : SlA As F0 a0_2 x0.Kids) (r : Expr) (h : GA N x0 = some r) :
  Calls Tryz.prog 94 ([(.agg #[(.int .i64 x0.Op), (.int .i64 x0.Value), (.slice a0_2 x0.Kids.length n0_2)])] : List Value).toArray w0 (Bd w0 F0 fun F' v => ∃ (aq0_2 : TO) (nq0_2 : Nat), v = (.agg #[(.int .i64 r.Op), (.int .i64 r.Value), (.slice aq0_2 r.Kids.length nq0_2)]) /\ LC r.Kids.length nq0_2 /\ SlA As F' aq0_2 r.Kids) := (NZ N N) w0 F0 hF x0 a0_2 n0_2 hb0_2 hs0_2 r h
def Hk (N : Nat) (x0 : Expr) : Option (Expr × Int) :=
 ((FX N x0).bind fun r27 => (bif (!r27) then some (({ Op := 0, Value := 0, Kids := ([] : List Expr) } : Expr), 61) else ((GA N x0).bind fun r40 => some (r40, 0))))
theorem J7 : Au Tryz.prog 30 := fun _ _ => by kernel_rfl
theorem KE (N : Nat) (w0 : World) (F0 : Mem) (hF : TP w0 F0) (x0 : Expr) (a0_2 : TO) (n0_2 : Nat) (hb0_2 : LC x0.Kids.length n0_2) (hs0_2 : SlA As F0 a0_2 x0.Kids) (r : (Expr × Int)) (h : Hk N x0 = some r) :
  Calls Tryz.prog 30 ([(.agg (Ai x0 a0_2 n0_2))] : List Value).toArray w0 (Bd w0 F0 fun F' v => ∃ (aq0_2 : TO) (nq0_2 : Nat), v = (.tuple #[(.agg (Ai r.1 aq0_2 nq0_2)), (vi r.2)]) /\ LC r.1.Kids.length nq0_2 /\ SlA As F' aq0_2 r.1.Kids) := by
 have hs0 := Tp hF
 refine Go 10 Tryz.func30 ?_
 refine Sq (Rg [0, 1, 2] ?_)
 refine Bx' 33 (Ai x0 a0_2 n0_2) hs0 (fun b21 w22 hs23 => ?_)
 refine Al' 33 #[(vi 0), (vi 0), (.slice none ([] : List Expr).length 0)] hs23 (fun b24 w25 hs26 => ?_)
 refine Vs 1 ?_
 refine Nss ?_
 refine Sq (Rg [0, 1, 2] ?_)
 refine Ld hs26.at1 ?_
 obtain ⟨r27, hr28, h29⟩ := bind_some h
 refine Cl' FJ hs26 (Gs N w25 F0 hs26.pers x0 a0_2 n0_2 hb0_2 hs0_2 _ hr28) ?_
 rintro _ F1 w31 hs32 le33 rfl
 refine Vs 1 ?_
 refine Nt ?_
 refine Cd h29 (fun hb35 h36 => ?_) (fun hb35 h37 => ?_)
 ·refine Sq (Rg [0, 1, 2] ?_)
  refine Vs 1 ?_
  refine St0 #[(vi 0), (vi 0), (.slice none ([] : List Expr).length 0)] hs32 (fun w38 hs39 => ?_)
  refine Vs 1 ?_
  refine Nt ?_
  refine Rt ?_
  refine Aj ?_
  obtain rfl := Ab h36
  exact ⟨rfl, (.tuple #[(.agg #[(vi 0), (vi 0), (.slice none ([] : List Expr).length 0)]), (vi 61)]), AE (l := [.cell 2 33, .tmp 3]) (by kernel_rfl) (vs := [(.agg #[(vi 0), (vi 0), (.slice none ([] : List Expr).length 0)]), (vi 61)]) ⟨b24, 0, rfl, Am (t := 33) (g := true) (s := 3) (by kernel_rfl) hs39.at0 rfl (by decide), ⟨rfl, trivial⟩⟩, (.tuple #[(.agg #[(vi 0), (vi 0), (.slice none ([] : List Expr).length 0)]), (vi 61)]), F1, rfl, hs39.clear, ⟨none, 0, rfl, Tr, (.inl rfl)⟩⟩
 ·refine Sc ?_
  refine Ad ?_
  refine Sq (Rg [0, 1, 2, 3] ?_)
  refine Ld hs32.at1 ?_
  obtain ⟨r40, hr41, h42⟩ := bind_some h37
  refine Cl' E7 hs32 (Je N w31 F1 hs32.pers x0 a0_2 n0_2 hb0_2 (Tq hs0_2 le33) _ hr41) ?_
  rintro _ F2 w44 hs45 le46 ⟨ar40_0_2, nr40_0_2, rfl, hbr40_0_2, hsr40_0_2⟩
  refine St0 (Ai r40 ar40_0_2 nr40_0_2) hs45 (fun w48 hs49 => ?_)
  refine Vs 1 ?_
  refine Nt ?_
  refine Rt ?_
  obtain rfl := Ab h42
  exact ⟨rfl, (.tuple #[(.agg (Ai r40 ar40_0_2 nr40_0_2)), (vi 0)]), AE (l := [.cell 2 33, .tmp 3]) (by kernel_rfl) (vs := [(.agg (Ai r40 ar40_0_2 nr40_0_2)), (vi 0)]) ⟨b24, 0, rfl, Am (t := 33) (g := true) (s := 3) (by kernel_rfl) hs49.at0 rfl (by decide), ⟨rfl, trivial⟩⟩, (.tuple #[(.agg (Ai r40 ar40_0_2 nr40_0_2)), (vi 0)]), F2, rfl, hs49.clear, ⟨ar40_0_2, nr40_0_2, rfl, hbr40_0_2, hsr40_0_2⟩⟩
def Jp (N : Nat) (x0 : Int) : Option (CE × Bool) :=
 (bif (x0 == 5) then some (({ text_ := ([111, 114] : TN), rank_ := 1, left_ := 1, right_ := 2 } : CE), true) else (bif (x0 == 4) then some (({ text_ := ([97, 110, 100] : TN), rank_ := 2, left_ := 2, right_ := 3 } : CE), true) else (bif (x0 == 6) then some (({ text_ := ([61] : TN), rank_ := 4, left_ := 5, right_ := 5 } : CE), true) else (bif (x0 == 7) then some (({ text_ := ([60] : TN), rank_ := 4, left_ := 5, right_ := 5 } : CE), true) else (bif (x0 == 8) then some (({ text_ := ([43] : TN), rank_ := 5, left_ := 5, right_ := 6 } : CE), true) else (bif (x0 == 9) then some (({ text_ := ([45] : TN), rank_ := 5, left_ := 5, right_ := 6 } : CE), true) else (bif (x0 == 10) then some (({ text_ := ([42] : TN), rank_ := 6, left_ := 6, right_ := 7 } : CE), true) else some (({ text_ := ([] : TN), rank_ := 0, left_ := 0, right_ := 0 } : CE), false))))))))
theorem K4 : Au Tryz.prog 150 := fun _ _ => by kernel_rfl
theorem Ma (N : Nat) (w0 : World) (F0 : Mem) (hF : TP w0 F0) (x0 : Int) (r : (CE × Bool)) (h : Jp N x0 = some r) :
  Calls Tryz.prog 150 ([(vi x0)] : List Value).toArray w0 (Bd w0 F0 fun F' v => v = (.tuple #[(.agg (Gc r.1)), (.bool r.2)])) := by
 have hs0 := Tp hF
 refine Go 27 Tryz.func150 ?_
 refine Sq (Rg [0, 1] ?_)
 refine Al' 173 #[(.string ⟨(([] : TN)).toArray⟩), (vi 0), (vi 0), (vi 0)] hs0 (fun b21 w22 hs23 => ?_)
 refine Vs 1 ?_
 refine Nss ?_
 refine Sq (Rg [0] ?_)
 refine Vs 1 ?_
 refine Nt ?_
 refine Bk ?_
 refine Sq (Rg [0, 1] ?_)
 refine Vs 2 ?_
 refine Nt ?_
 refine Cd h (fun hb24 h25 => ?_) (fun hb24 h26 => ?_)
 ·refine Sq (Rg [0, 1, 2] ?_)
  refine Vs 1 ?_
  refine St0 #[(.string ⟨(([111, 114] : TN)).toArray⟩), (vi 1), (vi 1), (vi 2)] hs23 (fun w27 hs28 => ?_)
  refine Vs 1 ?_
  refine Nt ?_
  refine Rt ?_
  refine Ao ?_
  refine Aj ?_
  obtain rfl := Ab h25
  exact ⟨rfl, (.tuple #[(.agg #[(.string ⟨(([111, 114] : TN)).toArray⟩), (vi 1), (vi 1), (vi 2)]), (.bool true)]), AE (l := [.cell 2 173, .tmp 3]) (by kernel_rfl) (vs := [(.agg #[(.string ⟨(([111, 114] : TN)).toArray⟩), (vi 1), (vi 1), (vi 2)]), (.bool true)]) ⟨b21, 0, rfl, Am (t := 173) (g := true) (s := 4) (by kernel_rfl) hs28.at0 rfl (by decide), ⟨rfl, trivial⟩⟩, (.tuple #[(.agg #[(.string ⟨(([111, 114] : TN)).toArray⟩), (vi 1), (vi 1), (vi 2)]), (.bool true)]), F0, rfl, hs28.clear, rfl⟩
 ·refine Sq (Rg [0, 1] ?_)
  refine Vs 2 ?_
  refine Nt ?_
  refine Cd h26 (fun hb29 h30 => ?_) (fun hb29 h31 => ?_)
  ·refine Sq (Rg [0, 1, 2] ?_)
   refine Vs 1 ?_
   refine St0 #[(.string ⟨(([97, 110, 100] : TN)).toArray⟩), (vi 2), (vi 2), (vi 3)] hs23 (fun w32 hs33 => ?_)
   refine Vs 1 ?_
   refine Nt ?_
   refine Rt ?_
   refine Ao ?_
   refine Aj ?_
   obtain rfl := Ab h30
   exact ⟨rfl, (.tuple #[(.agg #[(.string ⟨(([97, 110, 100] : TN)).toArray⟩), (vi 2), (vi 2), (vi 3)]), (.bool true)]), AE (l := [.cell 2 173, .tmp 3]) (by kernel_rfl) (vs := [(.agg #[(.string ⟨(([97, 110, 100] : TN)).toArray⟩), (vi 2), (vi 2), (vi 3)]), (.bool true)]) ⟨b21, 0, rfl, Am (t := 173) (g := true) (s := 4) (by kernel_rfl) hs33.at0 rfl (by decide), ⟨rfl, trivial⟩⟩, (.tuple #[(.agg #[(.string ⟨(([97, 110, 100] : TN)).toArray⟩), (vi 2), (vi 2), (vi 3)]), (.bool true)]), F0, rfl, hs33.clear, rfl⟩
  ·refine Sq (Rg [0, 1] ?_)
   refine Vs 2 ?_
   refine Nt ?_
   refine Cd h31 (fun hb34 h35 => ?_) (fun hb34 h36 => ?_)
   ·refine Sq (Rg [0, 1, 2] ?_)
    refine Vs 1 ?_
    refine St0 #[(.string ⟨(([61] : TN)).toArray⟩), (vi 4), (vi 5), (vi 5)] hs23 (fun w37 hs38 => ?_)
    refine Vs 1 ?_
    refine Nt ?_
    refine Rt ?_
    refine Ao ?_
    refine Aj ?_
    obtain rfl := Ab h35
    exact ⟨rfl, (.tuple #[(.agg #[(.string ⟨(([61] : TN)).toArray⟩), (vi 4), (vi 5), (vi 5)]), (.bool true)]), AE (l := [.cell 2 173, .tmp 3]) (by kernel_rfl) (vs := [(.agg #[(.string ⟨(([61] : TN)).toArray⟩), (vi 4), (vi 5), (vi 5)]), (.bool true)]) ⟨b21, 0, rfl, Am (t := 173) (g := true) (s := 4) (by kernel_rfl) hs38.at0 rfl (by decide), ⟨rfl, trivial⟩⟩, (.tuple #[(.agg #[(.string ⟨(([61] : TN)).toArray⟩), (vi 4), (vi 5), (vi 5)]), (.bool true)]), F0, rfl, hs38.clear, rfl⟩
   ·refine Sq (Rg [0, 1] ?_)
    refine Vs 2 ?_
    refine Nt ?_
    refine Cd h36 (fun hb39 h40 => ?_) (fun hb39 h41 => ?_)
    ·refine Sq (Rg [0, 1, 2] ?_)
     refine Vs 1 ?_
     refine St0 #[(.string ⟨(([60] : TN)).toArray⟩), (vi 4), (vi 5), (vi 5)] hs23 (fun w42 hs43 => ?_)
     refine Vs 1 ?_
     refine Nt ?_
     refine Rt ?_
     refine Ao ?_
     refine Aj ?_
     obtain rfl := Ab h40
     exact ⟨rfl, (.tuple #[(.agg #[(.string ⟨(([60] : TN)).toArray⟩), (vi 4), (vi 5), (vi 5)]), (.bool true)]), AE (l := [.cell 2 173, .tmp 3]) (by kernel_rfl) (vs := [(.agg #[(.string ⟨(([60] : TN)).toArray⟩), (vi 4), (vi 5), (vi 5)]), (.bool true)]) ⟨b21, 0, rfl, Am (t := 173) (g := true) (s := 4) (by kernel_rfl) hs43.at0 rfl (by decide), ⟨rfl, trivial⟩⟩, (.tuple #[(.agg #[(.string ⟨(([60] : TN)).toArray⟩), (vi 4), (vi 5), (vi 5)]), (.bool true)]), F0, rfl, hs43.clear, rfl⟩
    ·refine Sq (Rg [0, 1] ?_)
     refine Vs 2 ?_
     refine Nt ?_
     refine Cd h41 (fun hb44 h45 => ?_) (fun hb44 h46 => ?_)
     ·refine Sq (Rg [0, 1, 2] ?_)
      refine Vs 1 ?_
      refine St0 #[(.string ⟨(([43] : TN)).toArray⟩), (vi 5), (vi 5), (vi 6)] hs23 (fun w47 hs48 => ?_)
      refine Vs 1 ?_
      refine Nt ?_
      refine Rt ?_
      refine Ao ?_
      refine Aj ?_
      obtain rfl := Ab h45
      exact ⟨rfl, (.tuple #[(.agg #[(.string ⟨(([43] : TN)).toArray⟩), (vi 5), (vi 5), (vi 6)]), (.bool true)]), AE (l := [.cell 2 173, .tmp 3]) (by kernel_rfl) (vs := [(.agg #[(.string ⟨(([43] : TN)).toArray⟩), (vi 5), (vi 5), (vi 6)]), (.bool true)]) ⟨b21, 0, rfl, Am (t := 173) (g := true) (s := 4) (by kernel_rfl) hs48.at0 rfl (by decide), ⟨rfl, trivial⟩⟩, (.tuple #[(.agg #[(.string ⟨(([43] : TN)).toArray⟩), (vi 5), (vi 5), (vi 6)]), (.bool true)]), F0, rfl, hs48.clear, rfl⟩
     ·refine Sq (Rg [0, 1] ?_)
      refine Vs 2 ?_
      refine Nt ?_
      refine Cd h46 (fun hb49 h50 => ?_) (fun hb49 h51 => ?_)
      ·refine Sq (Rg [0, 1, 2] ?_)
       refine Vs 1 ?_
       refine St0 #[(.string ⟨(([45] : TN)).toArray⟩), (vi 5), (vi 5), (vi 6)] hs23 (fun w52 hs53 => ?_)
       refine Vs 1 ?_
       refine Nt ?_
       refine Rt ?_
       refine Ao ?_
       refine Aj ?_
       obtain rfl := Ab h50
       exact ⟨rfl, (.tuple #[(.agg #[(.string ⟨(([45] : TN)).toArray⟩), (vi 5), (vi 5), (vi 6)]), (.bool true)]), AE (l := [.cell 2 173, .tmp 3]) (by kernel_rfl) (vs := [(.agg #[(.string ⟨(([45] : TN)).toArray⟩), (vi 5), (vi 5), (vi 6)]), (.bool true)]) ⟨b21, 0, rfl, Am (t := 173) (g := true) (s := 4) (by kernel_rfl) hs53.at0 rfl (by decide), ⟨rfl, trivial⟩⟩, (.tuple #[(.agg #[(.string ⟨(([45] : TN)).toArray⟩), (vi 5), (vi 5), (vi 6)]), (.bool true)]), F0, rfl, hs53.clear, rfl⟩
      ·refine Sq (Rg [0, 1] ?_)
       refine Vs 2 ?_
       refine Nt ?_
       refine Cd h51 (fun hb54 h55 => ?_) (fun hb54 h56 => ?_)
       ·refine Sq (Rg [0, 1, 2] ?_)
        refine Vs 1 ?_
        refine St0 #[(.string ⟨(([42] : TN)).toArray⟩), (vi 6), (vi 6), (vi 7)] hs23 (fun w57 hs58 => ?_)
        refine Vs 1 ?_
        refine Nt ?_
        refine Rt ?_
        refine Ao ?_
        refine Aj ?_
        obtain rfl := Ab h55
        exact ⟨rfl, (.tuple #[(.agg #[(.string ⟨(([42] : TN)).toArray⟩), (vi 6), (vi 6), (vi 7)]), (.bool true)]), AE (l := [.cell 2 173, .tmp 3]) (by kernel_rfl) (vs := [(.agg #[(.string ⟨(([42] : TN)).toArray⟩), (vi 6), (vi 6), (vi 7)]), (.bool true)]) ⟨b21, 0, rfl, Am (t := 173) (g := true) (s := 4) (by kernel_rfl) hs58.at0 rfl (by decide), ⟨rfl, trivial⟩⟩, (.tuple #[(.agg #[(.string ⟨(([42] : TN)).toArray⟩), (vi 6), (vi 6), (vi 7)]), (.bool true)]), F0, rfl, hs58.clear, rfl⟩
       ·refine Sc ?_
        refine AA ?_
        refine Ad ?_
        refine Sq (Rg [0, 1, 2] ?_)
        refine Vs 1 ?_
        refine St0 #[(.string ⟨(([] : TN)).toArray⟩), (vi 0), (vi 0), (vi 0)] hs23 (fun w59 hs60 => ?_)
        refine Vs 1 ?_
        refine Nt ?_
        refine Rt ?_
        obtain rfl := Ab h56
        exact ⟨rfl, (.tuple #[(.agg #[(.string ⟨(([] : TN)).toArray⟩), (vi 0), (vi 0), (vi 0)]), (.bool false)]), AE (l := [.cell 2 173, .tmp 3]) (by kernel_rfl) (vs := [(.agg #[(.string ⟨(([] : TN)).toArray⟩), (vi 0), (vi 0), (vi 0)]), (.bool false)]) ⟨b21, 0, rfl, Am (t := 173) (g := true) (s := 4) (by kernel_rfl) hs60.at0 rfl (by decide), ⟨rfl, trivial⟩⟩, (.tuple #[(.agg #[(.string ⟨(([] : TN)).toArray⟩), (vi 0), (vi 0), (vi 0)]), (.bool false)]), F0, rfl, hs60.clear, rfl⟩
def O4 (sR97 : Expr -> Int -> Option TN) : Prop := ∀ (w0 : World) (F0 : Mem) (hF : TP w0 F0) (hG : Dy F0) (x0 : Expr) (a0_2 : TO) (n0_2 : Nat) (hb0_2 : LC x0.Kids.length n0_2) (hs0_2 : SlA As F0 a0_2 x0.Kids) (x1 : Int) (r : TN), sR97 x0 x1 = some r -> Calls Tryz.prog 97 ([(.agg #[(.int .i64 x0.Op), (.int .i64 x0.Value), (.slice a0_2 x0.Kids.length n0_2)]), (.int .i64 x1)] : List Value).toArray w0 (Bd w0 F0 fun F' v => v = (.string ⟨(r).toArray⟩))
theorem DK : Au Tryz.prog 97 := fun _ _ => by kernel_rfl
def GZ (N : Nat) (sR97 : Expr -> Int -> Option TN) (x0 : Expr) (x1 : Int) : Option TN :=
 ((Jp N x0.Op).bind fun r24 => ((bif r24.2 then (((idx x0.Kids 0).bind fun x62 => ((idx x0.Kids 1).bind fun x76 => ((sR97 x62 r24.1.left_).bind fun r82 => ((M5 r82 ([32] : TN)).bind fun r90 => ((M5 r90 r24.1.text_).bind fun r93 => ((M5 r93 ([32] : TN)).bind fun r96 => ((sR97 x76 r24.1.right_).bind fun r99 => ((M5 r96 r99).bind fun r107 => some r107)))))))).bind fun j55 => some (r24.1.rank_, j55)) else ((bif (x0.Op == 1) then ((strconv_Itoa N x0.Value).bind fun r123 => some (7, r123)) else ((bif (x0.Op == 2) then (((FY N ).bind fun r156 => ((idx r156 x0.Value).bind fun x164 => some x164)).bind fun j149 => some (7, j149)) else ((bif (x0.Op == 3) then ((idx x0.Kids 0).bind fun x191 => ((sR97 x191 3).bind fun r205 => ((M5 ([110, 111, 116, 32] : TN) r205).bind fun r213 => some (3, r213)))) else (bif (x0.Op == 11) then none else some (7, ([] : TN)))).bind fun j181 => some (j181.1, j181.2))).bind fun j134 => some (j134.1, j134.2))).bind fun j113 => some (j113.1, j113.2))).bind fun j40 => (bif (decide (j40.1 < x1)) then ((M5 ([40] : TN) j40.2).bind fun r222 => ((M5 r222 ([41] : TN)).bind fun r225 => some r225)) else some j40.2)))
theorem KG (N : Nat) (sR97 : Expr -> Int -> Option TN) (hsR97 : O4 sR97) (w0 : World) (F0 : Mem) (hF : TP w0 F0) (hG : Dy F0) (x0 : Expr) (a0_2 : TO) (n0_2 : Nat) (hb0_2 : LC x0.Kids.length n0_2) (hs0_2 : SlA As F0 a0_2 x0.Kids) (x1 : Int) (r : TN) (h : GZ N sR97 x0 x1 = some r) :
  Calls Tryz.prog 97 ([(.agg (Ai x0 a0_2 n0_2)), (vi x1)] : List Value).toArray w0 (Bd w0 F0 fun F' v => v = (.string ⟨(r).toArray⟩)) := by
 have hs0 := Tp hF
 refine Go 97 Tryz.func97 ?_
 refine Sq (Rg [0, 1] ?_)
 refine Bx' 33 (Ai x0 a0_2 n0_2) hs0 (fun b21 w22 hs23 => ?_)
 refine Vs 1 ?_
 refine Nss (Rg [0, 1] ?_)
 refine Vs 2 ?_
 refine Nss (Rg [0, 1, 2, 3, 4, 5, 6, 7, 8] ?_)
 refine Vs 1 ?_
 refine Ld hs23.at0 ?_
 obtain ⟨r24, hr25, h26⟩ := bind_some h
 refine Cl' K4 hs23 (Ma N w22 F0 hs23.pers x0.Op _ hr25) ?_
 rintro _ F1 w28 hs29 le30 rfl
 refine Vs 3 ?_
 refine Al' 173 #[(.string ⟨(([] : TN)).toArray⟩), (vi 0), (vi 0), (vi 0)] hs29 (fun b32 w33 hs34 => ?_)
 refine St0 (Gc r24.1) hs34 (fun w35 hs36 => ?_)
 refine Vs 1 ?_
 refine Nss ?_
 refine Bk ?_
 refine Sq (Rg [0, 1] ?_)
 refine Vs 2 ?_
 refine Nt ?_
 obtain ⟨j40, hj45, h46⟩ := bind_some h26
 refine Tu (fun f w => ∃ (F2 : Mem), HS w0 F0 w F2 [] /\ Tn F1 F2 /\ FI f [] [(1, (vi x1)), (5, (vi j40.1)), (6, (.string ⟨(j40.2).toArray⟩))]) ?_ ?_
 ·refine Cd hj45 (fun hb47 h48 => ?_) (fun hb47 h49 => ?_)
  ·obtain ⟨j55, hj60, h61⟩ := bind_some h48
   refine RD 24 24 [(sb b32 (Gc r24.1) 173), (sb b21 (Ai x0 a0_2 n0_2) 33)] [] hs36 (fun f w => ∃ (F3 : Mem), HS w0 F0 w F3 [] /\ Tn F1 F3 /\ FI f [] [(1, (vi x1)), (5, (vi r24.1.rank_)), (6, (.string ⟨(j55).toArray⟩))]) (fun wd50 hw51 => ?_) ?_
   ·refine Dvl [0] [tt, ff, ff, ff, ff, ff, ff, ff, ff, ff, ff, ff, ff, ff, ff, ff, ff, ff, ff, ff, ff, ff, ff, ff] ?_
    refine Dl 1 (fun _ hq => (hq.1.2 0 _ _ rfl)) ?_
    refine Dvl [2] [tt, tt, tt, ff, ff, ff, ff, ff, ff, ff, ff, ff, ff, ff, ff, ff, ff, ff, ff, ff, ff, ff, ff, ff] ?_
    refine Dl 3 (fun _ hq => (hq.1.2 1 _ _ rfl)) ?_
    obtain ⟨x62, hx63, h65⟩ := bind_some hj60
    obtain ⟨hi64, hx63'⟩ := Az hx63
    obtain ⟨b66, o67, C68, E69, fz70, rfl, hF72, hE73⟩ := Tx (Tq hs0_2 le30) hx63'
    obtain ⟨ae74_2, ne74_2, hc75, hbe74_2, hse74_2⟩ := (A1 (hE73 _ _ hx63'))
    refine Di 4 hi64 ?_
    refine Dx 5 0 (fun _ hq => hq.1.1 _ _ hF72) hc75 ?_
    refine Dvl [6] [tt, tt, tt, tt, tt, tt, tt, ff, ff, ff, ff, ff, ff, ff, ff, ff, ff, ff, ff, ff, ff, ff, ff, ff] ?_
    refine Dl 7 (fun _ hq => (hq.1.2 0 _ _ rfl)) ?_
    refine Dvl [10] [tt, tt, tt, tt, tt, tt, tt, tt, ff, ff, tt, ff, ff, ff, ff, ff, ff, ff, ff, ff, ff, ff, ff, ff] ?_
    refine Dl 11 (fun _ hq => (hq.1.2 0 _ _ rfl)) ?_
    refine Dvl [14] [tt, tt, tt, tt, tt, tt, tt, tt, ff, ff, tt, tt, ff, ff, tt, ff, ff, ff, ff, ff, ff, ff, ff, ff] ?_
    refine Dl 15 (fun _ hq => (hq.1.2 1 _ _ rfl)) ?_
    obtain ⟨x76, hx77, h79⟩ := bind_some h65
    obtain ⟨hi78, hx77'⟩ := Az hx77
    obtain ⟨ae80_2, ne80_2, hc81, hbe80_2, hse80_2⟩ := (A1 (hE73 _ _ hx77'))
    refine Di 16 hi78 ?_
    refine Dx 17 0 (fun _ hq => hq.1.1 _ _ hF72) hc81 ?_
    refine Dvl [18] [tt, tt, tt, tt, tt, tt, tt, tt, ff, ff, tt, tt, ff, ff, tt, tt, tt, tt, tt, ff, ff, ff, ff, ff] ?_
    refine Dl 19 (fun _ hq => (hq.1.2 0 _ _ rfl)) ?_
    refine D1 8 ?_
    obtain ⟨r82, hr83, h84⟩ := bind_some h79
    refine DCl DK hw51 (hsR97 wd50 F1 hw51.pers (hG.mono le30) x62 ae74_2 ne74_2 hbe74_2 hse74_2 r24.1.left_ _ hr83) ?_
    rintro _ F4 w86 hs87 le88 rfl
    obtain ⟨r90, hr91, h92⟩ := bind_some h84
    refine Dtl 9 26 9 (.string ⟨(r90).toArray⟩) [tt, tt, tt, tt, tt, tt, tt, tt, tt, tt, tt, tt, ff, ff, tt, tt, tt, tt, tt, tt, ff, ff, ff, ff] (fun _ hq => Fy (t := 9) (t' := 9) (x := (.tmp 25)) (y := (.const (.string ⟨([32] : TN).toArray⟩))) (a := r82) (b := ([32] : TN)) (v := r90) rfl rfl hr91) ?_
    obtain ⟨r93, hr94, h95⟩ := bind_some h92
    refine Dtl 12 29 9 (.string ⟨(r93).toArray⟩) [tt, tt, tt, tt, tt, tt, tt, tt, tt, tt, tt, tt, tt, ff, tt, tt, tt, tt, tt, tt, ff, ff, ff, ff] (fun _ hq => Fy (t := 9) (t' := 9) (x := (.tmp 26)) (y := (.tmp 28)) (a := r90) (b := r24.1.text_) (v := r93) rfl rfl hr94) ?_
    obtain ⟨r96, hr97, h98⟩ := bind_some h95
    refine Dtl 13 30 9 (.string ⟨(r96).toArray⟩) [tt, tt, tt, tt, tt, tt, tt, tt, tt, tt, tt, tt, tt, tt, tt, tt, tt, tt, tt, tt, ff, ff, ff, ff] (fun _ hq => Fy (t := 9) (t' := 9) (x := (.tmp 29)) (y := (.const (.string ⟨([32] : TN).toArray⟩))) (a := r93) (b := ([32] : TN)) (v := r96) rfl rfl hr97) ?_
    refine D1 20 ?_
    obtain ⟨r99, hr100, h101⟩ := bind_some h98
    refine DCl DK hs87 (hsR97 w86 F4 hs87.pers (hG.mono (le30.trans le88)) x76 ae80_2 ne80_2 hbe80_2 (Tq hse80_2 le88) r24.1.right_ _ hr100) ?_
    rintro _ F5 w103 hs104 le105 rfl
    obtain ⟨r107, hr108, h109⟩ := bind_some h101
    refine Dtl 21 38 9 (.string ⟨(r107).toArray⟩) [tt, tt, tt, tt, tt, tt, tt, tt, tt, tt, tt, tt, tt, tt, tt, tt, tt, tt, tt, tt, tt, tt, ff, ff] (fun _ hq => Fy (t := 9) (t' := 9) (x := (.tmp 30)) (y := (.tmp 37)) (a := r96) (b := r99) (v := r107) rfl rfl hr108) ?_
    refine Dvl [22, 23] [tt, tt, tt, tt, tt, tt, tt, tt, tt, tt, tt, tt, tt, tt, tt, tt, tt, tt, tt, tt, tt, tt, tt, tt] ?_
    obtain rfl := Ab h109
    exact TE (by kernel_rfl) ⟨F5, hs104.dr0.dr0, (le88.trans le105), fI⟩
   ·rintro f w52 ⟨F3, hs53, le54, ⟨_, rfl⟩⟩
    obtain rfl := Ab h61
    exact .inl ⟨rfl, F3, hs53, le54, fI⟩
  ·refine Sq (Rg [0, 1, 2, 3] ?_)
   refine Vs 1 ?_
   refine Ld hs36.at1 ?_
   refine Vs 2 ?_
   refine Nt ?_
   obtain ⟨j113, hj118, h119⟩ := bind_some h49
   refine Tu (fun f w => ∃ (F6 : Mem), HS w0 F0 w F6 [] /\ Tn F1 F6 /\ FI f [] [(1, (vi x1)), (5, (vi j113.1)), (6, (.string ⟨(j113.2).toArray⟩))]) ?_ ?_
   ·refine Cd hj118 (fun hb120 h121 => ?_) (fun hb120 h122 => ?_)
    ·refine Rg [0, 1, 2, 3] ?_
     refine Vs 1 ?_
     refine Ld hs36.at1 ?_
     obtain ⟨r123, hr124, h125⟩ := bind_some h121
     refine Cl' K1 hs36 (L7 N w35 F1 hs36.pers (hG.mono le30) x0.Value _ hr124) ?_
     rintro _ F7 w127 hs128 le129 rfl
     refine Vs 1 ?_
     refine Tj ?_
     obtain rfl := Ab h125
     exact .inl ⟨rfl, F7, hs128.dr0.dr0, le129, fI⟩
    ·refine Sq (Rg [0, 1, 2, 3] ?_)
     refine Vs 1 ?_
     refine Ld hs36.at1 ?_
     refine Vs 2 ?_
     refine Nt ?_
     obtain ⟨j134, hj139, h140⟩ := bind_some h122
     refine Tu (fun f w => ∃ (F8 : Mem), HS w0 F0 w F8 [] /\ Tn F1 F8 /\ FI f [] [(1, (vi x1)), (5, (vi j134.1)), (6, (.string ⟨(j134.2).toArray⟩))]) ?_ ?_
     ·refine Cd hj139 (fun hb141 h142 => ?_) (fun hb141 h143 => ?_)
      ·obtain ⟨j149, hj154, h155⟩ := bind_some h142
       refine RD 6 6 [(sb b32 (Gc r24.1) 173), (sb b21 (Ai x0 a0_2 n0_2) 33)] [] hs36 (fun f w => ∃ (F9 : Mem), HS w0 F0 w F9 [] /\ Tn F1 F9 /\ FI f [] [(1, (vi x1)), (5, (vi 7)), (6, (.string ⟨(j149).toArray⟩))]) (fun wd144 hw145 => ?_) ?_
       ·refine Dv [1] ?_
        refine Dl 2 (fun _ hq => (hq.1.2 1 _ _ rfl)) ?_
        refine D1 0 ?_
        obtain ⟨r156, hr157, h158⟩ := bind_some hj154
        refine DCl HE hw145 (IQ N wd144 F1 hw145.pers  _ hr157) ?_
        rintro _ F10 w160 hs161 le162 ⟨ar156_0_0, nr156_0_0, rfl, hbr156_0_0, hsr156_0_0⟩
        obtain ⟨x164, hx165, h167⟩ := bind_some h158
        obtain ⟨hi166, hx165'⟩ := Az hx165
        obtain ⟨b168, o169, C170, E171, fz172, rfl, hF174, hE175⟩ := Tx hsr156_0_0 hx165'
        have hc177 := hE175 _ _ hx165'
        refine Di 3 hi166 ?_
        refine D1 4 ?_
        refine TC (l' := [true, true, true, true, true, false]) (zd := true) (by kernel_rfl) (by kernel_rfl) (dst := (some 54)) (ty := 9) (g := none) (by kernel_rfl) rfl (Kl (t := 9) (x := (.tmp 53)) (b := b168) (o := (o169 + (x0.Value : Int).toNat * 1)) (j := 0) (C := C170) (kk := 1) (cs := [(.string ⟨(x164).toArray⟩)]) (gg := false) (s := 1) (v := (.string ⟨(x164).toArray⟩)) rfl (by kernel_rfl) (hs161.pers _ _ hF174) hc177 (by decide) (by exact ⟨rfl, trivial⟩) rfl rfl) (Bg hs161 le162 (by simp) (fun e => by cases e)) ?_
        refine Dv [5] ?_
        obtain rfl := Ab h167
        exact TE (by kernel_rfl) ⟨F10, hs161.dr0.dr0, le162, fI⟩
       ·rintro f w146 ⟨F9, hs147, le148, ⟨_, rfl⟩⟩
        obtain rfl := Ab h155
        exact .inl ⟨rfl, F9, hs147, le148, fI⟩
      ·refine Sq (Rg [0, 1, 2, 3] ?_)
       refine Vs 1 ?_
       refine Ld hs36.at1 ?_
       refine Vs 2 ?_
       refine Nt ?_
       obtain ⟨j181, hj186, h187⟩ := bind_some h143
       refine Tu (fun f w => ∃ (F11 : Mem), HS w0 F0 w F11 [] /\ Tn F1 F11 /\ FI f [] [(1, (vi x1)), (5, (vi j181.1)), (6, (.string ⟨(j181.2).toArray⟩))]) ?_ ?_
       ·refine Cd hj186 (fun hb188 h189 => ?_) (fun hb188 h190 => ?_)
        ·refine Rg [0, 1, 2, 3, 4, 5, 6, 7] ?_
         refine Vs 1 ?_
         refine Ld hs36.at1 ?_
         obtain ⟨x191, hx192, h194⟩ := bind_some h189
         obtain ⟨hi193, hx192'⟩ := Az hx192
         obtain ⟨b195, o196, C197, E198, fz199, rfl, hF201, hE202⟩ := Tx (Tq hs0_2 le30) hx192'
         obtain ⟨ae203_2, ne203_2, hc204, hbe203_2, hse203_2⟩ := (A1 (hE202 _ _ hx192'))
         refine Ix hi193 ?_
         refine Lx 0 (hs36.pers _ _ hF201) hc204 ?_
         obtain ⟨r205, hr206, h207⟩ := bind_some h194
         refine Cl' DK hs36 (hsR97 w35 F1 hs36.pers (hG.mono le30) x191 ae203_2 ne203_2 hbe203_2 hse203_2 3 _ hr206) ?_
         rintro _ F12 w209 hs210 le211 rfl
         obtain ⟨r213, hr214, h215⟩ := bind_some h207
         refine V 64 9 (Fy (t := 9) (t' := 9) (x := (.const (.string ⟨([110, 111, 116, 32] : TN).toArray⟩))) (y := (.tmp 63)) (a := ([110, 111, 116, 32] : TN)) (b := r205) (v := r213) rfl rfl hr214) ?_
         refine Vs 2 ?_
         refine Tj ?_
         obtain rfl := Ab h215
         exact .inl ⟨rfl, F12, hs210.dr0.dr0, le211, fI⟩
        ·refine Sq (Rg [0, 1, 2, 3] ?_)
         refine Vs 1 ?_
         refine Ld hs36.at1 ?_
         refine Vs 2 ?_
         refine Nt ?_
         refine Cd h190 (fun hb216 h217 => ?_) (fun hb216 h218 => ?_)
         ·cases h217
         ·refine Sc ?_
          obtain rfl := Ab h218
          exact .inl ⟨rfl, F1, hs36.dr0.dr0, (To _), fI⟩
       ·rintro f w178 ⟨F11, hs179, le180, ⟨_, rfl⟩⟩
        obtain rfl := Ab h187
        exact .inl ⟨rfl, F11, hs179, le180, fI⟩
     ·rintro f w131 ⟨F8, hs132, le133, ⟨_, rfl⟩⟩
      obtain rfl := Ab h140
      exact .inl ⟨rfl, F8, hs132, le133, fI⟩
   ·rintro f w110 ⟨F6, hs111, le112, ⟨_, rfl⟩⟩
    obtain rfl := Ab h119
    exact .inl ⟨rfl, F6, hs111, le112, fI⟩
 ·rintro f w37 ⟨F2, hs38, le39, ⟨_, rfl⟩⟩
  refine AA ?_
  refine Ad ?_
  refine Sq ?_
  refine Sq (Rg [0, 1, 2] ?_)
  refine Vs 3 ?_
  refine Nt ?_
  refine Cd h46 (fun hb219 h220 => ?_) (fun hb219 h221 => ?_)
  ·refine Sq (Rg [0, 1, 2, 3] ?_)
   refine Vs 1 ?_
   obtain ⟨r222, hr223, h224⟩ := bind_some h220
   refine V 94 9 (Fy (t := 9) (t' := 9) (x := (.const (.string ⟨([40] : TN).toArray⟩))) (y := (.tmp 93)) (a := ([40] : TN)) (b := j40.2) (v := r222) rfl rfl hr223) ?_
   obtain ⟨r225, hr226, h227⟩ := bind_some h224
   refine V 95 9 (Fy (t := 9) (t' := 9) (x := (.tmp 94)) (y := (.const (.string ⟨([41] : TN).toArray⟩))) (a := r222) (b := ([41] : TN)) (v := r225) rfl rfl hr226) ?_
   refine Vs 1 ?_
   refine Nt ?_
   refine Rt ?_
   refine Aj ?_
   obtain rfl := Ab h227
   exact Re [(.string ⟨(r225).toArray⟩)] hs38 rfl
  ·refine Sc ?_
   refine Ad ?_
   refine Sq (Rg [0, 1] ?_)
   refine Vs 2 ?_
   refine Nt ?_
   refine Rt ?_
   obtain rfl := Ab h221
   exact Re [(.string ⟨(j40.2).toArray⟩)] hs38 rfl
structure SW where
 q97 : Expr -> Int -> Option TN
def Pf (N : Nat) : Nat -> SW
 | 0 => ⟨fun _ _ => none⟩
 | k + 1 => ⟨GZ N (Pf N k).q97⟩
theorem NY (N : Nat) : ∀ k, O4 (Pf N k).q97
 | 0 => (by unfold O4; intros; rename_i h; cases h)
 | k + 1 => by
  have ih := NY N k
  exact @KG N (Pf N k).q97 ih
def IL (N : Nat) (x0 : Expr) (x1 : Int) : Option TN := (Pf N N).q97 x0 x1
theorem Lh (N : Nat) (w0 : World) (F0 : Mem) (hF : TP w0 F0) (hG : Dy F0) (x0 : Expr) (a0_2 : TO) (n0_2 : Nat) (hb0_2 : LC x0.Kids.length n0_2) (hs0_2 : SlA As F0 a0_2 x0.Kids) (x1 : Int) (r : TN) (h : IL N x0 x1 = some r) :
  Calls Tryz.prog 97 ([(.agg #[(.int .i64 x0.Op), (.int .i64 x0.Value), (.slice a0_2 x0.Kids.length n0_2)]), (.int .i64 x1)] : List Value).toArray w0 (Bd w0 F0 fun F' v => v = (.string ⟨(r).toArray⟩)) := (NY N N) w0 F0 hF hG x0 a0_2 n0_2 hb0_2 hs0_2 x1 r h
def G4 (N : Nat) (x0 : Expr) : Option (TN × Int) :=
 ((FX N x0).bind fun r24 => (bif (!r24) then some (([] : TN), 61) else ((IL N x0 1).bind fun r35 => some (r35, 0))))
theorem Ja : Au Tryz.prog 33 := fun _ _ => by kernel_rfl
theorem Kb (N : Nat) (w0 : World) (F0 : Mem) (hF : TP w0 F0) (hG : Dy F0) (x0 : Expr) (a0_2 : TO) (n0_2 : Nat) (hb0_2 : LC x0.Kids.length n0_2) (hs0_2 : SlA As F0 a0_2 x0.Kids) (r : (TN × Int)) (h : G4 N x0 = some r) :
  Calls Tryz.prog 33 ([(.agg (Ai x0 a0_2 n0_2))] : List Value).toArray w0 (Bd w0 F0 fun F' v => v = (.tuple #[(.string ⟨(r.1).toArray⟩), (vi r.2)])) := by
 have hs0 := Tp hF
 refine Go 9 Tryz.func33 ?_
 refine Sq (Rg [0, 1, 2] ?_)
 refine Bx' 33 (Ai x0 a0_2 n0_2) hs0 (fun b21 w22 hs23 => ?_)
 refine Vs 2 ?_
 refine Nss ?_
 refine Sq (Rg [0, 1, 2] ?_)
 refine Ld hs23.at0 ?_
 obtain ⟨r24, hr25, h26⟩ := bind_some h
 refine Cl' FJ hs23 (Gs N w22 F0 hs23.pers x0 a0_2 n0_2 hb0_2 hs0_2 _ hr25) ?_
 rintro _ F1 w28 hs29 le30 rfl
 refine Vs 1 ?_
 refine Nt ?_
 refine Cd h26 (fun hb32 h33 => ?_) (fun hb32 h34 => ?_)
 ·refine Sq (Rg [0, 1] ?_)
  refine Vs 2 ?_
  refine Nt ?_
  refine Rt ?_
  refine Aj ?_
  obtain rfl := Ab h33
  exact Re [(.string ⟨(([] : TN)).toArray⟩), (vi 61)] hs29 rfl
 ·refine Sc ?_
  refine Ad ?_
  refine Sq (Rg [0, 1, 2, 3] ?_)
  refine Ld hs29.at0 ?_
  obtain ⟨r35, hr36, h37⟩ := bind_some h34
  refine Cl' DK hs29 (Lh N w28 F1 hs29.pers (hG.mono le30) x0 a0_2 n0_2 hb0_2 (Tq hs0_2 le30) 1 _ hr36) ?_
  rintro _ F2 w39 hs40 le41 rfl
  refine Vs 2 ?_
  refine Nt ?_
  refine Rt ?_
  obtain rfl := Ab h37
  exact Re [(.string ⟨(r35).toArray⟩), (vi 0)] hs40 rfl
def Js (N : Nat) (x0 : BC) (x1 : (List Int)) : Option (Int × Int) :=
 ((KN N x0 x1).bind fun r24 => (bif (r24 != 0) then some (0, r24) else ((KO N x0.Points x1).bind fun r35 => (bif (decide (r35 < 0)) then some (0, 70) else ((idx x0.Points r35).bind fun x46 => ((FU N x46.Then x1).bind fun r60 => some (r60, 0)))))))
theorem K6 : Au Tryz.prog 41 := fun _ _ => by kernel_rfl
theorem Mc (N : Nat) (w0 : World) (F0 : Mem) (hF : TP w0 F0) (x0 : BC) (a0_0 : TO) (n0_0 : Nat) (hb0_0 : LC x0.Points.length n0_0) (hs0_0 : SlA Ay F0 a0_0 x0.Points) (a0_1 : TO) (n0_1 : Nat) (hb0_1 : LC x0.Multipliers.length n0_1) (hs0_1 : SlA Ay F0 a0_1 x0.Multipliers) (a0_2 : TO) (n0_2 : Nat) (hb0_2 : LC x0.Penalties.length n0_2) (hs0_2 : SlA Ay F0 a0_2 x0.Penalties) (a0_3 : TO) (n0_3 : Nat) (hb0_3 : LC x0.Repeats.length n0_3) (hs0_3 : SlA As F0 a0_3 x0.Repeats) (x1 : (List Int)) (a1_0 : TO) (n1_0 : Nat) (hb1_0 : LC x1.length n1_0) (hs1_0 : SlA Do F0 a1_0 x1) (r : (Int × Int)) (h : Js N x0 x1 = some r) :
  Calls Tryz.prog 41 ([(.agg (AU x0 a0_0 n0_0 a0_1 n0_1 a0_2 n0_2 a0_3 n0_3)), (.slice a1_0 x1.length n1_0)] : List Value).toArray w0 (Bd w0 F0 fun F' v => v = (.tuple #[(vi r.1), (vi r.2)])) := by
 have hs0 := Tp hF
 refine Go 28 Tryz.func41 ?_
 refine Sq (Rg [0, 1, 2] ?_)
 refine Bx' 26 (AU x0 a0_0 n0_0 a0_1 n0_1 a0_2 n0_2 a0_3 n0_3) hs0 (fun b21 w22 hs23 => ?_)
 refine Vs 2 ?_
 refine Nss ?_
 refine Sq (Rg [0, 1, 2, 3] ?_)
 refine Ld hs23.at0 ?_
 refine Vs 1 ?_
 obtain ⟨r24, hr25, h26⟩ := bind_some h
 refine Cl' L0 hs23 (Mw N w22 F0 hs23.pers x0 a0_0 n0_0 hb0_0 hs0_0 a0_1 n0_1 hb0_1 hs0_1 a0_2 n0_2 hb0_2 hs0_2 a0_3 n0_3 hb0_3 hs0_3 x1 a1_0 n1_0 hb1_0 hs1_0 _ hr25) ?_
 rintro _ F1 w28 hs29 le30 rfl
 refine Vs 1 ?_
 refine Nss (Rg [0, 1] ?_)
 refine Vs 2 ?_
 refine Nt ?_
 refine Cd h26 (fun hb32 h33 => ?_) (fun hb32 h34 => ?_)
 ·refine Sq (Rg [0, 1, 2] ?_)
  refine Vs 3 ?_
  refine Nt ?_
  refine Rt ?_
  refine Aj ?_
  obtain rfl := Ab h33
  exact Re [(vi 0), (vi r24)] hs29 rfl
 ·refine Sc ?_
  refine Ad ?_
  refine Sq (Rg [0, 1, 2, 3, 4] ?_)
  refine Vs 1 ?_
  refine Ld hs29.at0 ?_
  refine Vs 1 ?_
  obtain ⟨r35, hr36, h37⟩ := bind_some h34
  refine Cl' L1 hs29 (Mx N w28 F1 hs29.pers x0.Points a0_0 n0_0 hb0_0 (Tq hs0_0 le30) x1 a1_0 n1_0 hb1_0 (Tq hs1_0 le30) _ hr36) ?_
  rintro _ F2 w39 hs40 le41 rfl
  refine Vs 1 ?_
  refine Nss ?_
  refine Sq (Rg [0, 1] ?_)
  refine Vs 2 ?_
  refine Nt ?_
  refine Cd h37 (fun hb43 h44 => ?_) (fun hb43 h45 => ?_)
  ·refine Sq (Rg [0, 1] ?_)
   refine Vs 2 ?_
   refine Nt ?_
   refine Rt ?_
   refine Aj ?_
   obtain rfl := Ab h44
   exact Re [(vi 0), (vi 70)] hs40 rfl
  ·refine Sc ?_
   refine Ad ?_
   refine Sq (Rg [0, 1, 2, 3, 4, 5, 6, 7, 8, 9] ?_)
   refine Vs 1 ?_
   refine Ld hs40.at0 ?_
   refine Vs 1 ?_
   obtain ⟨x46, hx47, h49⟩ := bind_some h45
   obtain ⟨hi48, hx47'⟩ := Az hx47
   obtain ⟨b50, o51, C52, E53, fz54, rfl, hF56, hE57⟩ := Tx (Tq hs0_0 (le30.trans le41)) hx47'
   obtain ⟨ae58_2, ne58_2, ae58_5, ne58_5, hc59, hbe58_2, hse58_2, hbe58_5, hse58_5⟩ := hE57 _ _ hx47'
   refine Ix hi48 ?_
   refine Vs 1 ?_
   refine Lx 3 (hs40.pers _ _ hF56) hc59 ?_
   refine Vs 1 ?_
   obtain ⟨r60, hr61, h62⟩ := bind_some h49
   refine Cl' Ee hs40 (Gr N w39 F2 hs40.pers x46.Then ae58_5 ne58_5 hbe58_5 hse58_5 x1 a1_0 n1_0 hb1_0 (Tq hs1_0 (le30.trans le41)) _ hr61) ?_
   rintro _ F3 w64 hs65 le66 rfl
   refine Vs 2 ?_
   refine Nt ?_
   refine Rt ?_
   obtain rfl := Ab h62
   exact Re [(vi r60), (vi 0)] hs65 rfl
def AQ (N : Nat) (x0 : Ac) : Option (Ak ⊕ (Ac × B3)) :=
 ((idx x0.l_ 0).bind fun x24 => ((D6 N x0).bind fun r38 => sk r38 (fun b50 => some (.inl b50)) (fun r41 => some (.inr (r41.1, ({ Expr := r41.2, at_ := x24.at_ } : B3))))))
theorem Bj : Au Tryz.prog 86 := fun _ _ => by kernel_rfl
theorem Bm (N : Nat) {wb w0 : World} {Fb F0 : Mem} {Lf : Own} (hG : Dy F0) (bp0 : Nat) (x0 : Ac) (a0_0 : TO) (n0_0 : Nat) (hb0_0 : LC x0.l_.length n0_0) (hs0_0 : SlA Al F0 a0_0 x0.l_) (hs0 : HS wb Fb w0 F0 ((sb bp0 (Ah x0 a0_0 n0_0) 100) :: Lf)) (r : (Ak ⊕ (Ac × B3))) (h : AQ N x0 = some r) :
  Calls Tryz.prog 86 ([(pt bp0 0)] : List Value).toArray w0 (Cj wb Fb F0 Lf r (fun b => (.iface 158 (.agg (A3 b)))) fun a F' v L' => ∃ (aq0_0 : TO) (nq0_0 : Nat) (aq1_2 : TO) (nq1_2 : Nat), v = (.agg (Aq a.2 aq1_2 nq1_2)) /\ L' = (sb bp0 (Ah a.1 aq0_0 nq0_0) 100) :: Lf /\ LC a.1.l_.length nq0_0 /\ SlA Al F' aq0_0 a.1.l_ /\ LC a.2.Expr.Kids.length nq1_2 /\ SlA As F' aq1_2 a.2.Expr.Kids) := by
 refine Go 15 Tryz.func86 ?_
 refine Sq (Rg [0] ?_)
 refine Al' 113 #[(vi 0), (vi 0), (.slice none ([] : List Expr).length 0), (vi 0)] hs0 (fun b21 w22 hs23 => ?_)
 refine Nss (Rg [0, 1, 2, 3, 4, 5, 6, 7] ?_)
 refine Vs 3 ?_
 refine Ld hs23.at1 ?_
 obtain ⟨x24, hx25, h27⟩ := bind_some h
 obtain ⟨hi26, hx25'⟩ := Az hx25
 obtain ⟨b28, o29, C30, E31, fz32, rfl, hF34, hE35⟩ := Tx hs0_0 hx25'
 have hc37 := hE35 _ _ hx25'
 refine Ix hi26 ?_
 refine Vs 1 ?_
 refine Lx 1 (hs23.pers _ _ hF34) hc37 ?_
 refine Vs 1 ?_
 refine Nss (Rg [0, 1, 2, 3, 4] ?_)
 refine Vs 1 ?_
 obtain ⟨r38, hr39, h40⟩ := bind_some h27
 refine CP Ci (Is N hG bp0 x0 (some ⟨b28, o29, none⟩) n0_0 hb0_0 hs0_0 hs23.pk1 _ hr39) ?_ ?_
 ·rintro r41 _ F1 w43 _ rfl hs44 le45 ⟨ar41_0_0, nr41_0_0, ar41_1_2, nr41_1_2, rfl, rfl, hbr41_0_0, hsr41_0_0, hbr41_1_2, hsr41_1_2⟩
  have h47 := BM h40
  refine Vs 2 ?_
  refine St1 #[(vi r41.2.Op), (vi r41.2.Value), (.slice ar41_1_2 r41.2.Kids.length nr41_1_2), (vi x24.at_)] hs44 (fun w48 hs49 => ?_)
  refine Nt ?_
  refine Rt ?_
  obtain rfl := Ab h47
  exact ⟨rfl, (.agg #[(vi r41.2.Op), (vi r41.2.Value), (.slice ar41_1_2 r41.2.Kids.length nr41_1_2), (vi x24.at_)]), AE (l := [.cell 2 113]) (by kernel_rfl) (vs := [(.agg #[(vi r41.2.Op), (vi r41.2.Value), (.slice ar41_1_2 r41.2.Kids.length nr41_1_2), (vi x24.at_)])]) ⟨b21, 0, rfl, Am (t := 113) (g := true) (s := 4) (by kernel_rfl) hs49.at1 rfl (by decide), trivial⟩, .inl ⟨_, F1, _, _, rfl, rfl, hs49.dr1, le45, ⟨ar41_0_0, nr41_0_0, ar41_1_2, nr41_1_2, rfl, rfl, hbr41_0_0, hsr41_0_0, hbr41_1_2, hsr41_1_2⟩⟩⟩
 ·rintro b50 F2 w51 rfl hs52 le53
  have h54 := Bo h40
  refine Ap ?_
  obtain rfl := Ab h54
  exact CI hs52.dr0 le53
def AK (N : Nat) (x0 : Ac) (x1 : B3) (x2 : Int) : Option (Ak ⊕ Unit) :=
 ((D8 N x1.Expr).bind fun r24 => ((Ga N x1.Expr).bind fun r32 => (bif (decide (r32 > 32)) then ((AY N x0 2 x1.at_).bind fun r43 => sk r43 (fun b48 => some (.inl b48)) (fun r46 => none)) else (bif ((r24 == 0) || ((x2 != 0) && (r24 != x2))) then ((AY N x0 61 x1.at_).bind fun r66 => sk r66 (fun b71 => some (.inl b71)) (fun r69 => none)) else some (.inr ())))))
theorem Bl : Au Tryz.prog 88 := fun _ _ => by kernel_rfl
theorem Bq (N : Nat) {wb w0 : World} {Fb F0 : Mem} {Lf : Own} (bp0 : Nat) (x0 : Ac) (a0_0 : TO) (n0_0 : Nat) (hb0_0 : LC x0.l_.length n0_0) (hs0_0 : SlA Al F0 a0_0 x0.l_) (x1 : B3) (a1_2 : TO) (n1_2 : Nat) (hb1_2 : LC x1.Expr.Kids.length n1_2) (hs1_2 : SlA As F0 a1_2 x1.Expr.Kids) (x2 : Int) (hs0 : HS wb Fb w0 F0 ((sb bp0 (Ah x0 a0_0 n0_0) 100) :: Lf)) (r : (Ak ⊕ Unit)) (h : AK N x0 x1 x2 = some r) :
  Calls Tryz.prog 88 ([(pt bp0 0), (.agg (Aq x1 a1_2 n1_2)), (vi x2)] : List Value).toArray w0 (Cj wb Fb F0 Lf r (fun b => (.iface 158 (.agg (A3 b)))) fun a F' v L' => v = (.tuple #[]) /\ L' = (sb bp0 (Ah x0 a0_0 n0_0) 100) :: Lf) := by
 refine Go 35 Tryz.func88 ?_
 refine Sq (Rg [0] ?_)
 refine Bx' 113 (Aq x1 a1_2 n1_2) hs0 (fun b21 w22 hs23 => ?_)
 refine Nss (Rg [0, 1, 2, 3] ?_)
 refine Vs 1 ?_
 refine Ld hs23.at0 ?_
 obtain ⟨r24, hr25, h26⟩ := bind_some h
 refine Cl' DY hs23 (FQ N w22 F0 hs23.pers x1.Expr a1_2 n1_2 hb1_2 hs1_2 _ hr25) ?_
 rintro _ F1 w28 hs29 le30 rfl
 refine Vs 1 ?_
 refine Nt ?_
 refine Bk ?_
 refine Sq (Rg [0, 1, 2, 3, 4] ?_)
 refine Vs 1 ?_
 refine Ld hs29.at0 ?_
 obtain ⟨r32, hr33, h34⟩ := bind_some h26
 refine Cl' FM hs29 (IR N w28 F1 hs29.pers x1.Expr a1_2 n1_2 hb1_2 (Tq hs1_2 le30) _ hr33) ?_
 rintro _ F2 w36 hs37 le38 rfl
 refine Vs 2 ?_
 refine Nt ?_
 refine Cd h34 (fun hb40 h41 => ?_) (fun hb40 h42 => ?_)
 ·refine Rg [0, 1, 2, 3] ?_
  refine Vs 2 ?_
  refine Ld hs37.at0 ?_
  obtain ⟨r43, hr44, h45⟩ := bind_some h41
  refine CP AR (AZ N bp0 x0 a0_0 n0_0 hb0_0 (Tq hs0_0 (le30.trans le38)) 2 x1.at_ hs37.pk1 _ hr44) ?_ ?_
  ·rintro _ _ _ _ _ rfl _ _ _; cases hr44
  ·rintro b48 F4 w49 rfl hs50 le51
   have h52 := Bo h45
   refine Bf ?_
   obtain rfl := Ab h52
   exact CI hs50.dr0 ((le30.trans le38).trans le51)
 ·refine Sq (Rg [0, 1, 2, 3, 4, 5, 6, 7, 8, 9, 10, 11] ?_)
  refine Tt (fun f w => ∃ (F5 : Mem), HS wb Fb w F5 ((sb b21 (Aq x1 a1_2 n1_2) 113) :: (sb bp0 (Ah x0 a0_0 n0_0) 100) :: Lf) /\ Tn F2 F5 /\ FI f [] [(0, (pt bp0 0)), (4, (pt b21 0)), (19, (.bool ((r24 == 0) || ((x2 != 0) && (r24 != x2)))))]) ?_ ?_
  ·refine Vs 3 ?_
   refine Ts (r24 == 0) (fun hb61 => ?_) (fun hb61 => ?_)
   ·refine Ss hb61 3 ?_
    refine Su' 3 ?_
    refine Ss hb61 1 ?_
    refine Pk1 hb61 ?_
    refine Vs 1 ?_
    exact Tj ⟨rfl, F2, hs37, (To _), (fJ ⟨rfl, rfl, (congrArg Value.bool (Fk hb61 rfl)), trivial⟩)⟩
   ·refine Vgs hb61 3 ?_
    refine Ts (x2 != 0) (fun hb62 => ?_) (fun hb62 => ?_)
    ·refine Vgs hb62 3 ?_
     refine Pg1 hb61 hb62 ?_
     refine Pk0 hb61 ?_
     refine Vs 1 ?_
     exact Tj ⟨rfl, F2, hs37, (To _), (fJ ⟨rfl, rfl, (congrArg Value.bool (B7 hb61 (Cz hb62 rfl))), trivial⟩)⟩
    ·refine Ss hb62 3 ?_
     refine Pg0 hb61 hb62 ?_
     refine Pk0 hb61 ?_
     refine Vs 1 ?_
     exact Tj ⟨rfl, F2, hs37, (To _), (fJ ⟨rfl, rfl, (congrArg Value.bool (B7 hb61 (Dw hb62 rfl))), trivial⟩)⟩
  ·rintro f w54 ⟨F5, hs55, le56, ⟨_, rfl⟩⟩
   refine Ad ?_
   refine Cd h42 (fun hb63 h64 => ?_) (fun hb63 h65 => ?_)
   ·refine Rg [0, 1, 2, 3] ?_
    refine Vs 2 ?_
    refine Ld hs55.at0 ?_
    obtain ⟨r66, hr67, h68⟩ := bind_some h64
    refine CP AR (AZ N bp0 x0 a0_0 n0_0 hb0_0 (Tq hs0_0 ((le30.trans le38).trans le56)) 61 x1.at_ hs55.pk1 _ hr67) ?_ ?_
    ·rintro _ _ _ _ _ rfl _ _ _; cases hr67
    ·rintro b71 F7 w72 rfl hs73 le74
     have h75 := Bo h68
     refine Bf ?_
     obtain rfl := Ab h75
     exact CI hs73.dr0 (((le30.trans le38).trans le56).trans le74)
   ·refine Sc ?_
    refine AA ?_
    obtain rfl := Ab h65
    exact ReP [] hs55.dr0 ((le30.trans le38).trans le56) ⟨rfl, rfl⟩
def FZ (N : Nat) (x0 : Ac) (z0 : B3) : Option (Ak ⊕ (Ac × B3)) :=
 ((AQ N x0).bind fun r21 => sk r21 (fun b83 => some (.inl b83)) (fun r24 => ((idx r24.1.l_ 0).bind fun x33 => (bif (x33.kind_ != 0) then ((idx r24.1.l_ 0).bind fun x50 => ((AY N r24.1 60 x50.at_).bind fun r56 => sk r56 (fun b61 => some (.inl b61)) (fun r59 => none))) else ((AK N r24.1 r24.2 0).bind fun r67 => sk r67 (fun b77 => some (.inl b77)) (fun r70 => some (.inr (r24.1, r24.2))))))))
theorem HG : Au Tryz.prog 85 := fun _ _ => by kernel_rfl
theorem It (N : Nat) {wb w0 : World} {Fb F0 : Mem} {Lf : Own} (hG : Dy F0) (bp0 : Nat) (x0 : Ac) (a0_0 : TO) (n0_0 : Nat) (hb0_0 : LC x0.l_.length n0_0) (hs0_0 : SlA Al F0 a0_0 x0.l_) (bz0 : Nat) (z0 : B3) (az0_2 : TO) (nz0_2 : Nat) (hbz0_2 : LC z0.Expr.Kids.length nz0_2) (hsz0_2 : SlA As F0 az0_2 z0.Expr.Kids) (hs0 : HS wb Fb w0 F0 ((sb bp0 (Ah x0 a0_0 n0_0) 100) :: (sb bz0 (Aq z0 az0_2 nz0_2) 113) :: Lf)) (r : (Ak ⊕ (Ac × B3))) (h : FZ N x0 z0 = some r) :
  Calls Tryz.prog 85 ([(pt bp0 0), (pt bz0 0)] : List Value).toArray w0 (Cj wb Fb F0 Lf r (fun b => (.iface 158 (.agg (A3 b)))) fun a F' v L' => ∃ (aq0_0 : TO) (nq0_0 : Nat) (aq1_2 : TO) (nq1_2 : Nat), v = (.tuple #[]) /\ L' = (sb bp0 (Ah a.1 aq0_0 nq0_0) 100) :: (sb bz0 (Aq a.2 aq1_2 nq1_2) 113) :: Lf /\ LC a.1.l_.length nq0_0 /\ SlA Al F' aq0_0 a.1.l_ /\ LC a.2.Expr.Kids.length nq1_2 /\ SlA As F' aq1_2 a.2.Expr.Kids) := by
 refine Go 25 Tryz.func85 ?_
 refine Sq (Rg [0, 1, 2] ?_)
 refine Vs 1 ?_
 obtain ⟨r21, hr22, h23⟩ := bind_some h
 refine CP Bj (Bm N hG bp0 x0 a0_0 n0_0 hb0_0 hs0_0 hs0 _ hr22) ?_ ?_
 ·rintro r24 _ F1 w26 _ rfl hs27 le28 ⟨ar24_0_0, nr24_0_0, ar24_1_2, nr24_1_2, rfl, rfl, hbr24_0_0, hsr24_0_0, hbr24_1_2, hsr24_1_2⟩
  have h30 := BM h23
  refine St1 (Aq r24.2 ar24_1_2 nr24_1_2) hs27 (fun w31 hs32 => ?_)
  refine Nss ?_
  refine Sq (Rg [0, 1, 2, 3, 4, 5, 6, 7] ?_)
  refine Vs 3 ?_
  refine Ld hs32.at0 ?_
  obtain ⟨x33, hx34, h36⟩ := bind_some h30
  obtain ⟨hi35, hx34'⟩ := Az hx34
  obtain ⟨b37, o38, C39, E40, fz41, rfl, hF43, hE44⟩ := Tx hsr24_0_0 hx34'
  have hc46 := hE44 _ _ hx34'
  refine Ix hi35 ?_
  refine Vs 1 ?_
  refine Lx 0 (hs32.pers _ _ hF43) hc46 ?_
  refine Vs 1 ?_
  refine Nt ?_
  refine Cd h36 (fun hb47 h48 => ?_) (fun hb47 h49 => ?_)
  ·refine Rg [0, 1, 2, 3, 4, 5, 6, 7, 8] ?_
   refine Vs 4 ?_
   refine Ld hs32.at0 ?_
   obtain ⟨x50, hx51, h53⟩ := bind_some h48
   obtain ⟨hi52, hx51'⟩ := Az hx51
   have hc55 := hE44 _ _ hx51'
   refine Ix hi52 ?_
   refine Vs 1 ?_
   refine Lx 1 (hs32.pers _ _ hF43) hc55 ?_
   obtain ⟨r56, hr57, h58⟩ := bind_some h53
   refine CP AR (AZ N bp0 r24.1 (some ⟨b37, o38, none⟩) nr24_0_0 hbr24_0_0 hsr24_0_0 60 x50.at_ hs32 _ hr57) ?_ ?_
   ·rintro _ _ _ _ _ rfl _ _ _; cases hr57
   ·rintro b61 F3 w62 rfl hs63 le64
    have h65 := Bo h58
    refine Ap ?_
    obtain rfl := Ab h65
    exact CI hs63.dr0 (le28.trans le64)
  ·refine Sc ?_
   refine Ad ?_
   refine Rg [0, 1, 2] ?_
   refine Vs 1 ?_
   refine Ld hs32.at1 ?_
   obtain ⟨r67, hr68, h69⟩ := bind_some h49
   refine CP Bl (Bq N bp0 r24.1 (some ⟨b37, o38, none⟩) nr24_0_0 hbr24_0_0 hsr24_0_0 r24.2 ar24_1_2 nr24_1_2 hbr24_1_2 hsr24_1_2 0 hs32 _ hr68) ?_ ?_
   ·rintro r70 _ F4 w72 _ rfl hs73 le74 ⟨rfl, rfl⟩
    have h76 := BM h69
    refine Tj ?_
    obtain rfl := Ab h76
    exact ReP [] hs73 (le28.trans le74) ⟨(some ⟨b37, o38, none⟩), nr24_0_0, ar24_1_2, nr24_1_2, rfl, rfl, hbr24_0_0, (Tq hsr24_0_0 le74), hbr24_1_2, (Tq hsr24_1_2 le74)⟩
   ·rintro b77 F5 w78 rfl hs79 le80
    have h81 := Bo h69
    obtain rfl := Ab h81
    exact CI hs79.dr0 (le28.trans le80)
 ·rintro b83 F6 w84 rfl hs85 le86
  have h87 := Bo h23
  refine Ap ?_
  obtain rfl := Ab h87
  exact CI hs85.dr0 le86
def Br (N : Nat) (x0 : Ac) : Option (Ak ⊕ Unit) :=
 (((idx x0.l_ 0).bind fun x30 => (bif (x30.kind_ != 0) then ((AO N x0 ([10] : TN)).bind fun r47 => some (!r47)) else some false)).bind fun j24 => (bif j24 then ((idx x0.l_ 0).bind fun x57 => ((AY N x0 60 x57.at_).bind fun r71 => sk r71 (fun b76 => some (.inl b76)) (fun r74 => none))) else some (.inr ())))
theorem CF : Au Tryz.prog 136 := fun _ _ => by kernel_rfl
theorem CR (N : Nat) {wb w0 : World} {Fb F0 : Mem} {Lf : Own} (bp0 : Nat) (x0 : Ac) (a0_0 : TO) (n0_0 : Nat) (hb0_0 : LC x0.l_.length n0_0) (hs0_0 : SlA Al F0 a0_0 x0.l_) (hs0 : HS wb Fb w0 F0 ((sb bp0 (Ah x0 a0_0 n0_0) 100) :: Lf)) (r : (Ak ⊕ Unit)) (h : Br N x0 = some r) :
  Calls Tryz.prog 136 ([(pt bp0 0)] : List Value).toArray w0 (Cj wb Fb F0 Lf r (fun b => (.iface 158 (.agg (A3 b)))) fun a F' v L' => v = (.tuple #[]) /\ L' = (sb bp0 (Ah x0 a0_0 n0_0) 100) :: Lf) := by
 refine Go 24 Tryz.func136 ?_
 refine Sq (Rg [0, 1, 2, 3, 4, 5, 6, 7, 8, 9, 10, 11, 12] ?_)
 obtain ⟨j24, hj28, h29⟩ := bind_some h
 refine Tt (fun f w => ∃ (F1 : Mem), HS wb Fb w F1 ((sb bp0 (Ah x0 a0_0 n0_0) 100) :: Lf) /\ Tn F0 F1 /\ FI f [] [(0, (pt bp0 0)), (14, (.bool j24))]) ?_ ?_
 ·refine Vs 3 ?_
  refine Ld hs0.at0 ?_
  obtain ⟨x30, hx31, h33⟩ := bind_some hj28
  obtain ⟨hi32, hx31'⟩ := Az hx31
  obtain ⟨b34, o35, C36, E37, fz38, rfl, hF40, hE41⟩ := Tx hs0_0 hx31'
  have hc43 := hE41 _ _ hx31'
  refine Ix hi32 ?_
  refine Vs 1 ?_
  refine Lx 0 (hs0.pers _ _ hF40) hc43 ?_
  refine Vs 2 ?_
  refine Sp h33 (fun hb44 h45 => ?_) (fun hb44 h46 => ?_)
  ·refine Vgs hb44 1 ?_
   obtain ⟨r47, hr48, h49⟩ := bind_some h45
   refine TK (dst := (some 12)) (ty := 4) (g := (some (8, true))) (by kernel_rfl) (FG (d := 10) (by kernel_rfl) rfl hb44) (f0 := (.func 134)) (aos := #[(.tmp 11), (.const (.string ⟨([10] : TN).toArray⟩))]) (ats := #[95, 9]) (fid := 134) (first := #[]) (cap := #[]) (args := [(pt bp0 0), (.string ⟨(([10] : TN)).toArray⟩)]) rfl CQ rfl (C3 N bp0 x0 (some ⟨b34, o35, none⟩) n0_0 hb0_0 hs0_0 (([10] : TN)) hs0 _ hr48) ?_
   rintro _ F2 w50 _ hs51 le52 ⟨rfl, rfl⟩
   refine Vgs hb44 1 ?_
   refine Pk1 hb44 ?_
   obtain rfl := Ab h49
   exact Tj ⟨rfl, F2, hs51, le52, fI⟩
  ·refine Ss hb44 3 ?_
   refine Pk0 hb44 ?_
   obtain rfl := Ab h46
   exact Tj ⟨rfl, F0, hs0, (To _), fI⟩
 ·rintro f w21 ⟨F1, hs22, le23, ⟨_, rfl⟩⟩
  refine Ad ?_
  refine Cd h29 (fun hb54 h55 => ?_) (fun hb54 h56 => ?_)
  ·refine Rg [0, 1, 2, 3, 4, 5, 6, 7, 8] ?_
   refine Vs 4 ?_
   refine Ld hs22.at0 ?_
   obtain ⟨x57, hx58, h60⟩ := bind_some h55
   obtain ⟨hi59, hx58'⟩ := Az hx58
   obtain ⟨b61, o62, C63, E64, fz65, rfl, hF67, hE68⟩ := Tx (Tq hs0_0 le23) hx58'
   have hc70 := hE68 _ _ hx58'
   refine Ix hi59 ?_
   refine Vs 1 ?_
   refine Lx 1 (hs22.pers _ _ hF67) hc70 ?_
   obtain ⟨r71, hr72, h73⟩ := bind_some h60
   refine CP AR (AZ N bp0 x0 (some ⟨b61, o62, none⟩) n0_0 hb0_0 (Tq hs0_0 le23) 60 x57.at_ hs22 _ hr72) ?_ ?_
   ·rintro _ _ _ _ _ rfl _ _ _; cases hr72
   ·rintro b76 F4 w77 rfl hs78 le79
    have h80 := Bo h73
    obtain rfl := Ab h80
    exact CI hs78 (le23.trans le79)
  ·refine Sc ?_
   obtain rfl := Ab h56
   exact ReP [] hs22 le23 ⟨rfl, rfl⟩
def CV (N : Nat) (x0 : Ac) (x1 : (List Expr)) (x2 : Int) : Option (Ak ⊕ Unit) :=
 (bif ((x1.length : Int) == 64) then ((AY N x0 2 x2).bind fun r24 => sk r24 (fun b29 => some (.inl b29)) (fun r27 => none)) else some (.inr ()))
theorem GU : Au Tryz.prog 137 := fun _ _ => by kernel_rfl
theorem Hc (N : Nat) {wb w0 : World} {Fb F0 : Mem} {Lf : Own} (bp0 : Nat) (x0 : Ac) (a0_0 : TO) (n0_0 : Nat) (hb0_0 : LC x0.l_.length n0_0) (hs0_0 : SlA Al F0 a0_0 x0.l_) (x1 : (List Expr)) (a1_0 : TO) (n1_0 : Nat) (x2 : Int) (hs0 : HS wb Fb w0 F0 ((sb bp0 (Ah x0 a0_0 n0_0) 100) :: Lf)) (r : (Ak ⊕ Unit)) (h : CV N x0 x1 x2 = some r) :
  Calls Tryz.prog 137 ([(pt bp0 0), (.slice a1_0 x1.length n1_0), (vi x2)] : List Value).toArray w0 (Cj wb Fb F0 Lf r (fun b => (.iface 158 (.agg (A3 b)))) fun a F' v L' => v = (.tuple #[]) /\ L' = (sb bp0 (Ah x0 a0_0 n0_0) 100) :: Lf) := by
 refine Go 12 Tryz.func137 ?_
 refine Sq (Rg [0, 1, 2] ?_)
 refine Vs 3 ?_
 refine Nt ?_
 refine Cd h (fun hb21 h22 => ?_) (fun hb21 h23 => ?_)
 ·refine Rg [0, 1, 2] ?_
  refine Vs 2 ?_
  obtain ⟨r24, hr25, h26⟩ := bind_some h22
  refine CP AR (AZ N bp0 x0 a0_0 n0_0 hb0_0 hs0_0 2 x2 hs0 _ hr25) ?_ ?_
  ·rintro _ _ _ _ _ rfl _ _ _; cases hr25
  ·rintro b29 F2 w30 rfl hs31 le32
   have h33 := Bo h26
   obtain rfl := Ab h33
   exact CI hs31 le32
 ·refine Sc ?_
  obtain rfl := Ab h23
  exact ReP [] hs0 (To _) ⟨rfl, rfl⟩
def BR (N : Nat) (x0 : Ac) (x1 : (List Clause)) (x2 : Int) : Option (Ak ⊕ Unit) :=
 (bif ((x1.length : Int) == 64) then ((AY N x0 2 x2).bind fun r24 => sk r24 (fun b29 => some (.inl b29)) (fun r27 => none)) else some (.inr ()))
theorem CS : Au Tryz.prog 138 := fun _ _ => by kernel_rfl
theorem C6 (N : Nat) {wb w0 : World} {Fb F0 : Mem} {Lf : Own} (bp0 : Nat) (x0 : Ac) (a0_0 : TO) (n0_0 : Nat) (hb0_0 : LC x0.l_.length n0_0) (hs0_0 : SlA Al F0 a0_0 x0.l_) (x1 : (List Clause)) (a1_0 : TO) (n1_0 : Nat) (x2 : Int) (hs0 : HS wb Fb w0 F0 ((sb bp0 (Ah x0 a0_0 n0_0) 100) :: Lf)) (r : (Ak ⊕ Unit)) (h : BR N x0 x1 x2 = some r) :
  Calls Tryz.prog 138 ([(pt bp0 0), (.slice a1_0 x1.length n1_0), (vi x2)] : List Value).toArray w0 (Cj wb Fb F0 Lf r (fun b => (.iface 158 (.agg (A3 b)))) fun a F' v L' => v = (.tuple #[]) /\ L' = (sb bp0 (Ah x0 a0_0 n0_0) 100) :: Lf) := by
 refine Go 12 Tryz.func138 ?_
 refine Sq (Rg [0, 1, 2] ?_)
 refine Vs 3 ?_
 refine Nt ?_
 refine Cd h (fun hb21 h22 => ?_) (fun hb21 h23 => ?_)
 ·refine Rg [0, 1, 2] ?_
  refine Vs 2 ?_
  obtain ⟨r24, hr25, h26⟩ := bind_some h22
  refine CP AR (AZ N bp0 x0 a0_0 n0_0 hb0_0 hs0_0 2 x2 hs0 _ hr25) ?_ ?_
  ·rintro _ _ _ _ _ rfl _ _ _; cases hr25
  ·rintro b29 F2 w30 rfl hs31 le32
   have h33 := Bo h26
   obtain rfl := Ab h33
   exact CI hs31 le32
 ·refine Sc ?_
  obtain rfl := Ab h23
  exact ReP [] hs0 (To _) ⟨rfl, rfl⟩
def IC (b : Nat) (S : TN -> Option Value) (e : Option Nat × Obj) : Prop :=
 ∃ es clk, e = (some b, .map es clk) /\ ∀ k : TN, ∃ r, Instr.findNow .string (.string ⟨k.toArray⟩) es.toList 0 = some r /\ r.map (·.2) = S k
def Ff (S : TN -> Option Value) (k : TN) (v : Value) : TN -> Option Value := fun x => if x = k then some v else S x
theorem JX {d : TypeDesc} {k : Value} {e : MapEntry} {b : Bool} (hs : Instr.sameNow d k e.key = some b) : ∀ (es : List MapEntry) (i : Nat) (r : Option (Nat × Value)), Instr.findNow d k es i = some r ->
  ∃ r', Instr.findNow d k (es ++ [e]) i = some r' /\ r'.map (·.2) = match r with | some p => some p.2 | none => if b then some e.val else none
 | [], i, r, h => by
  simp only [Instr.findNow, Option.some.injEq] at h; subst h
  cases b with
  | true => exact ⟨some (i, e.val), by simp [Instr.findNow, hs], rfl⟩
  | false => exact ⟨none, by simp [Instr.findNow, hs], rfl⟩
 | x :: es, i, r, h => by
  unfold Instr.findNow at h
  cases hx : Instr.sameNow d k x.key with
  | none => rw [hx] at h; cases h
  | some c =>
   rw [hx] at h
   cases c with
   | true => simp only [Option.some.injEq] at h; subst h; exact ⟨some (i, x.val), by simp [Instr.findNow, hx], rfl⟩
   | false =>
    simp only at h
    obtain ⟨r', h1, h2⟩ := JX hs es (i + 1) r h
    exact ⟨r', by simp [Instr.findNow, hx, h1], h2⟩
theorem IC.ins {b clk : Nat} {S : TN -> Option Value} {es : Array MapEntry} (h : ∀ k : TN, ∃ r, Instr.findNow .string (.string ⟨k.toArray⟩) es.toList 0 = some r /\ r.map (·.2) = S k) (k0 : TN) (v : Value) (hn : S k0 = none) :
  IC b (Ff S k0 v) (some b, .map (es.push ⟨.string ⟨k0.toArray⟩, v, clk⟩) (clk + 1)) := by
 refine ⟨_, _, rfl, fun k => ?_⟩
 obtain ⟨r, h1, h2⟩ := h k
 have hs : Instr.sameNow .string (.string ⟨k.toArray⟩) (.string ⟨k0.toArray⟩) = some (decide (k = k0)) := by
  simp only [Instr.sameNow, Option.some.injEq]
  rw [beq_toListBytes, ByteArray.toList_eq, ByteArray.toList_eq, Bool.eq_iff_iff]; simp
 obtain ⟨r', h3, h4⟩ := JX (e := ⟨.string ⟨k0.toArray⟩, v, clk⟩) hs es.toList 0 r h1
 refine ⟨r', by rw [Array.toList_push]; exact h3, ?_⟩
 rw [h4]
 unfold Ff
 cases r with
 | some p =>
  simp only at h2 ⊢
  have hne : k ≠ k0 := fun e => by rw [e, hn] at h2; cases h2
  rw [if_neg hne, <- h2]; rfl
 | none =>
  simp only at h2 ⊢
  by_cases hk : k = k0
  ·simp [hk]
  ·simp only [hk, decide_false, Bool.false_eq_true, if_false]; rw [<- h2]; rfl
theorem IC.nil (b : Nat) : IC b (fun _ => none) (some b, .map #[] 0) := ⟨_, _, rfl, fun _ => ⟨none, rfl, rfl⟩⟩
theorem IC.congr {b : Nat} {S S' : TN -> Option Value} {e : Option Nat × Obj} (h : IC b S e) (hs : ∀ k, S k = S' k) : IC b S' e := by
 obtain ⟨es, clk, h1, h2⟩ := h; exact ⟨es, clk, h1, fun k => by rw [<- hs k]; exact h2 k⟩
section
variable {P : Program} {w w0 : World} {F0 F : Mem} {L : Own} {ρ : Operand -> Value} {ty : TypeId}
theorem HS.ownAt' {k : Nat} {e : Option Nat × Obj} (h : HS w0 F0 w F L) (hk : L[k]? = some e) : ∀ b o, e = (some b, o) -> w.heap[b]? = some o := fun b o he => h.ownAt (by rw [hk, he])
theorem Hg {mt k vt : TypeId} {m x : Operand} {b : Nat} {S : TN -> Option Value} {e : Option Nat × Obj} {t : TN} {v : Value} (hm : ρ m = .map (some b)) (hx : ρ x = .string ⟨t.toArray⟩) (hu : P.underlying mt = some (.map k vt)) (hk : P.underlying k = some .string)
  (hw : ∀ b o, e = (some b, o) -> w.heap[b]? = some o) (hp : IC b S e) (hS : S t = some v) : (Ax ρ (.lookup mt m x true) ty).run P w = .ok (.value (.tuple #[v, .bool true])) w := by
 obtain ⟨es, clk, rfl, h2⟩ := hp
 have hb := hw b _ rfl
 obtain ⟨r, h3, h4⟩ := h2 t
 rw [hS] at h4
 cases r with
 | none => cases h4
 | some p =>
  obtain ⟨i, v'⟩ := p
  simp only [Option.map_some, Option.some.injEq] at h4
  subst h4
  have e : Ax ρ (.lookup mt m x true) ty = (do pure (Next.value (<- Instr.lookup mt (ρ m) (ρ x) true))) := rfl
  rw [e, hm, hx]
  simp [Instr.lookup, run_underlying hu, MapKept.run_getObj_map hb, MapKept.run_checkKey hk (k := .string ⟨t.toArray⟩) trivial, MapKept.run_findKey hk h3, Result.andThen]
theorem NU {mt k vt : TypeId} {m x : Operand} {b : Nat} {S : TN -> Option Value} {e : Option Nat × Obj} {t : TN} (hm : ρ m = .map (some b)) (hx : ρ x = .string ⟨t.toArray⟩) (hu : P.underlying mt = some (.map k vt) /\ BS P vt = some (.pointer none)) (hk : P.underlying k = some .string)
  (hw : ∀ b o, e = (some b, o) -> w.heap[b]? = some o) (hp : IC b S e) (hS : S t = none) : (Ax ρ (.lookup mt m x true) ty).run P w = .ok (.value (.tuple #[.pointer none, .bool false])) w := by
 obtain ⟨es, clk, rfl, h2⟩ := hp
 have hb := hw b _ rfl
 obtain ⟨r, h3, h4⟩ := h2 t
 rw [hS] at h4
 cases r with
 | some p => cases h4
 | none =>
  have hzv : (zeroValue vt).run P w = .ok (.pointer none) w := by
   have hz := hu.2
   unfold BS at hz
   split at hz
   ·rename_i i hi
    simp [zeroValue, typeInfo, hi, hz]
   ·cases hz
  have e : Ax ρ (.lookup mt m x true) ty = (do pure (Next.value (<- Instr.lookup mt (ρ m) (ρ x) true))) := rfl
  rw [e, hm, hx]
  simp [Instr.lookup, run_underlying hu.1, MapKept.run_getObj_map hb, MapKept.run_checkKey hk (k := .string ⟨t.toArray⟩) trivial, MapKept.run_findKey hk h3, hzv, Result.andThen]
end
section
variable {P : Program} {n : Nat} {R : Array Oper} {PQ : List PanicEntry -> List Deferred -> World -> Prop} {Post : Fr -> World -> Prop} {zz fuel : Nat} {ll l' : List Bool} {zd : Bool} {Fs : Mem} {Lc Lz : Own} {w w0 : World} {F0 F : Mem} {L : Own} {f : Fr} {i : Nat} {dst : Option Nat} {ty : TypeId} {g : Option (Nat × Bool)}
theorem AB.pMake {t : TypeId} (hl : ll.set i true = l') (hzd : l'.toArray.getD zz true = zd) (ho : opq R i = some (dst, .makeMap t none, ty, g)) (hg : gd R f g = true) (hs : HS w0 F0 w F L) (hle : Tn Fs F) (hL : ∀ p, p ∈ Lc -> p ∈ L) (hLz : zd = false -> ∀ p, p ∈ Lz -> p ∈ L)
  (kk : ∀ b e w', HS w0 F0 w' F (e :: L) -> IC b (fun _ => none) e -> DWP P n R PQ Post zz (DZ Fs Lc Lz) fuel l' (Bi f dst (.map (some b))) w') : AB P n R PQ Post zz (DZ Fs Lc Lz) fuel ll i f w :=
 TC hl hzd ho hg Hf (Bg (hs.alloc _) hle (fun p hp => List.mem_cons_of_mem _ (hL p hp)) (fun e p hp => List.mem_cons_of_mem _ (hLz e p hp))) (kk _ _ _ (hs.alloc _) (IC.nil _))
theorem AB.pIns {mt k vt : TypeId} {m x y : Operand} {b : Nat} {S : TN -> Option Value} {k0 : TN} {v : Value} {e : Option Nat × Obj} (hl : ll.set i true = l') (hzd : l'.toArray.getD zz true = zd) (ho : opq R i = some (none, .insert mt m x y, ty, g)) (hg : gd R f g = true)
  (hm : fev f m = .map (some b)) (hx : fev f x = .string ⟨k0.toArray⟩) (hy : fev f y = v) (hu : P.underlying mt = some (.map k vt)) (hk : P.underlying k = some .string) (hn : S k0 = none)
  (hs : HS w0 F0 w F (e :: L)) (hp : IC b S e) (hle : Tn Fs F) (hL : ∀ p, p ∈ Lc -> p ∈ L) (hLz : zd = false -> ∀ p, p ∈ Lz -> p ∈ L)
  (kk : ∀ e' w', HS w0 F0 w' F (e' :: L) -> IC b (Ff S k0 v) e' -> DWP P n R PQ Post zz (DZ Fs Lc Lz) fuel l' f w') : AB P n R PQ Post zz (DZ Fs Lc Lz) fuel ll i f w := by
 obtain ⟨es, clk, rfl, h2⟩ := hp
 have hb := hs.ownAt (k := 0) rfl
 obtain ⟨r, h3, h4⟩ := h2 k0
 rw [hn] at h4
 have hr : r = none := by cases r with | none => rfl | some p => cases h4
 subst hr
 have hs' := hs.put (k := 0) rfl (.map (es.push ⟨.string ⟨k0.toArray⟩, v, clk⟩) (clk + 1))
 have hset : (setObj b (.map (es.push ⟨.string ⟨k0.toArray⟩, v, clk⟩) (clk + 1))).run P w = .ok () (Dc w b (.map (es.push ⟨.string ⟨k0.toArray⟩, v, clk⟩) (clk + 1))) := by
  rw [MapKept.run_setObj_map _ hb]; rfl
 refine TD hl hzd ho hg (w' := Dc w b (.map (es.push ⟨.string ⟨k0.toArray⟩, v, clk⟩) (clk + 1))) ?_ (Bg hs' hle (fun p hp => List.mem_cons_of_mem _ (hL p hp)) (fun e p hp => List.mem_cons_of_mem _ (hLz e p hp))) (kk _ _ hs' (IC.ins h2 k0 v hn))
 have e : Ax (fev f) (.insert mt m x y) ty = (do Instr.mapUpdate mt (fev f m) (fev f x) (fev f y); pure .skip) := rfl
 rw [e, hm, hx, hy]
 simp [Instr.mapUpdate, run_underlying hu, MapKept.run_getObj_map hb, MapKept.run_checkKey hk (k := .string ⟨k0.toArray⟩) trivial, MapKept.run_findKey hk h3, Result.andThen, hset]
abbrev TM := @AB.pIns
end
def DJ (b : Nat) : TN -> Option Value := fun t => if t = [112, 111, 105, 110, 116, 115] then some (.pointer (some ⟨b, 0, none⟩)) else if t = [109, 117, 108, 116, 105, 112, 108, 105, 101, 114] then some (.pointer (some ⟨b, 1, none⟩)) else if t = [112, 101, 110, 97, 108, 116, 121] then some (.pointer (some ⟨b, 2, none⟩)) else none
section
variable {b : Nat} {t : TN}
theorem PT (h : (t == ([112, 111, 105, 110, 116, 115] : TN)) = true) : DJ b t = some (.pointer (some ⟨b, 0, none⟩)) := by
 have := eq_of_beq h; subst this; rfl
theorem PR (_h0 : (t == ([112, 111, 105, 110, 116, 115] : TN)) = false) (h : (t == ([109, 117, 108, 116, 105, 112, 108, 105, 101, 114] : TN)) = true) : DJ b t = some (.pointer (some ⟨b, 1, none⟩)) := by
 have := eq_of_beq h; subst this; rfl
theorem PP (_h0 : (t == ([112, 111, 105, 110, 116, 115] : TN)) = false) (_h1 : (t == ([109, 117, 108, 116, 105, 112, 108, 105, 101, 114] : TN)) = false) (h : (t == ([112, 101, 110, 97, 108, 116, 121] : TN)) = true) : DJ b t = some (.pointer (some ⟨b, 2, none⟩)) := by
 have := eq_of_beq h; subst this; rfl
theorem PO (h0 : (t == ([112, 111, 105, 110, 116, 115] : TN)) = false) (h1 : (t == ([109, 117, 108, 116, 105, 112, 108, 105, 101, 114] : TN)) = false) (h2 : (t == ([112, 101, 110, 97, 108, 116, 121] : TN)) = false) : DJ b t = none := by
 simp only [beq_eq_false_iff_ne] at h0 h1 h2
 unfold DJ; rw [if_neg h0, if_neg h1, if_neg h2]
end
theorem ON {wb w : World} {Fb F : Mem} {L : Own} {f : Fr} {bp : Nat} {Q : Exit -> Fr -> World -> Prop} (hs0 : HS wb Fb w F L) (h1 : f 1 = .pointer (some ⟨bp, 0, none⟩))
  (k : ∀ (f' : Fr) (w' : World) (e : Option Nat × Obj) (b : Nat), HS wb Fb w' F (e :: L) -> IC b (DJ bp) e -> f' 6 = .map (some b) -> (f'.d = f.d /\ f' 0 = f 0 /\ f' 4 = f 4) -> Q .normal f' w') : CWP Tryz.prog none 114 (cs1 (cs2 (cs2 (CT Tryz.f81)))) Q f w := by
 refine CWP.regionD (by kernel_rfl) (by kernel_rfl) (by kernel_rfl) (by kernel_rfl) (z := 15) (F := F) (Lc := []) (Lz := []) (l := [false, false, false, false, false, false, false, false, false, false, false, false, false, false, false]) (fuel := 15) (by kernel_rfl) (by kernel_rfl) hs0 (by simp) (by simp) (fun f' w' => ∃ e b, HS wb Fb w' F (e :: L) /\ IC b (DJ bp) e /\ f' 6 = .map (some b) /\ f'.d = f.d /\ f' 0 = f 0 /\ f' 4 = f 4) (fun wd hw => ?_) ?_
 ·refine Tz (i := 1) (v := (.pointer (some ⟨bp, 0, none⟩))) (zd := true) (dst := (some 49)) (ty := 102) (g := none) (by kernel_rfl) (by kernel_rfl) (by kernel_rfl) (by kernel_rfl) (by kernel_rfl) rfl (fun wq hq => (Bb (x := .tmp 1) (v := (.pointer (some ⟨bp, 0, none⟩))) h1)) (l' := [false, true, false, false, false, false, false, false, false, false, false, false, false, false, false]) (by kernel_rfl) ?_
  refine Tz (i := 2) (v := (.pointer (some ⟨bp, 0, none⟩))) (zd := true) (dst := (some 50)) (ty := 0) (g := none) (by kernel_rfl) (by kernel_rfl) (by kernel_rfl) (by kernel_rfl) (by kernel_rfl) rfl (fun wq hq => (Ca (x := .tmp 49) (a := ⟨bp, 0, none⟩) rfl)) (l' := [false, true, true, false, false, false, false, false, false, false, false, false, false, false, false]) (by kernel_rfl) ?_
  refine Tz (i := 3) (v := (.pointer (some ⟨bp, 0, none⟩))) (zd := true) (dst := (some 51)) (ty := 0) (g := none) (by kernel_rfl) (by kernel_rfl) (by kernel_rfl) (by kernel_rfl) (by kernel_rfl) rfl (fun wq hq => (Cy (s := 26) (x := .tmp 50) (i := 0) (o := 0) (k := 1) (b := bp) (o0 := 0) rfl (by kernel_rfl) rfl (o1 := 0) rfl)) (l' := [false, true, true, true, false, false, false, false, false, false, false, false, false, false, false]) (by kernel_rfl) ?_
  refine Tz (i := 5) (v := (.pointer (some ⟨bp, 0, none⟩))) (zd := true) (dst := (some 52)) (ty := 102) (g := none) (by kernel_rfl) (by kernel_rfl) (by kernel_rfl) (by kernel_rfl) (by kernel_rfl) rfl (fun wq hq => (Bb (x := .tmp 1) (v := (.pointer (some ⟨bp, 0, none⟩))) h1)) (l' := [false, true, true, true, false, true, false, false, false, false, false, false, false, false, false]) (by kernel_rfl) ?_
  refine Tz (i := 6) (v := (.pointer (some ⟨bp, 0, none⟩))) (zd := true) (dst := (some 53)) (ty := 0) (g := none) (by kernel_rfl) (by kernel_rfl) (by kernel_rfl) (by kernel_rfl) (by kernel_rfl) rfl (fun wq hq => (Ca (x := .tmp 52) (a := ⟨bp, 0, none⟩) rfl)) (l' := [false, true, true, true, false, true, true, false, false, false, false, false, false, false, false]) (by kernel_rfl) ?_
  refine Tz (i := 7) (v := (.pointer (some ⟨bp, 1, none⟩))) (zd := true) (dst := (some 54)) (ty := 0) (g := none) (by kernel_rfl) (by kernel_rfl) (by kernel_rfl) (by kernel_rfl) (by kernel_rfl) rfl (fun wq hq => (Cy (s := 26) (x := .tmp 53) (i := 1) (o := 1) (k := 1) (b := bp) (o0 := 0) rfl (by kernel_rfl) rfl (o1 := 1) rfl)) (l' := [false, true, true, true, false, true, true, true, false, false, false, false, false, false, false]) (by kernel_rfl) ?_
  refine Tz (i := 9) (v := (.pointer (some ⟨bp, 0, none⟩))) (zd := true) (dst := (some 55)) (ty := 102) (g := none) (by kernel_rfl) (by kernel_rfl) (by kernel_rfl) (by kernel_rfl) (by kernel_rfl) rfl (fun wq hq => (Bb (x := .tmp 1) (v := (.pointer (some ⟨bp, 0, none⟩))) h1)) (l' := [false, true, true, true, false, true, true, true, false, true, false, false, false, false, false]) (by kernel_rfl) ?_
  refine Tz (i := 10) (v := (.pointer (some ⟨bp, 0, none⟩))) (zd := true) (dst := (some 56)) (ty := 0) (g := none) (by kernel_rfl) (by kernel_rfl) (by kernel_rfl) (by kernel_rfl) (by kernel_rfl) rfl (fun wq hq => (Ca (x := .tmp 55) (a := ⟨bp, 0, none⟩) rfl)) (l' := [false, true, true, true, false, true, true, true, false, true, true, false, false, false, false]) (by kernel_rfl) ?_
  refine Tz (i := 11) (v := (.pointer (some ⟨bp, 2, none⟩))) (zd := true) (dst := (some 57)) (ty := 0) (g := none) (by kernel_rfl) (by kernel_rfl) (by kernel_rfl) (by kernel_rfl) (by kernel_rfl) rfl (fun wq hq => (Cy (s := 26) (x := .tmp 56) (i := 2) (o := 2) (k := 1) (b := bp) (o0 := 0) rfl (by kernel_rfl) rfl (o1 := 2) rfl)) (l' := [false, true, true, true, false, true, true, true, false, true, true, true, false, false, false]) (by kernel_rfl) ?_
  refine TA (i := 0) (by kernel_rfl) ?_
  refine AB.pMake (l' := [true, true, true, true, false, true, true, true, false, true, true, true, false, false, false]) (zd := true) (by kernel_rfl) (by kernel_rfl) (dst := some 48) (ty := 167) (g := none) (by kernel_rfl) rfl (t := 167) hw (To _) (by simp) (fun e => by cases e) (fun b e0 w0 hs1 hp0 => ?_)
  refine DWP.three (i := 4) (j := 8) (k := 12) (by kernel_rfl) ?_ ?_ ?_
  ·
   refine TM (l' := [true, true, true, true, true, true, true, true, false, true, true, true, false, false, false]) (zd := true) (by kernel_rfl) (by kernel_rfl) (ty := 0) (g := none) (by kernel_rfl) rfl (mt := 167) (k := 9) (vt := 166) (m := .tmp 48) (x := .const (.string ⟨([112, 111, 105, 110, 116, 115] : TN).toArray⟩)) (y := .tmp 51) (k0 := [112, 111, 105, 110, 116, 115]) (v := .pointer (some ⟨bp, 0, none⟩)) rfl rfl rfl (by kernel_rfl) (by kernel_rfl) (by simp [Ff]) hs1 hp0 (To _) (by simp) (fun e => by cases e) (fun e11 w11 hs11 hp11 => ?_)
   refine TB (i := 8) (j := 12) (by kernel_rfl) ?_ ?_
   ·
    refine TM (l' := [true, true, true, true, true, true, true, true, true, true, true, true, false, false, false]) (zd := true) (by kernel_rfl) (by kernel_rfl) (ty := 0) (g := none) (by kernel_rfl) rfl (mt := 167) (k := 9) (vt := 166) (m := .tmp 48) (x := .const (.string ⟨([109, 117, 108, 116, 105, 112, 108, 105, 101, 114] : TN).toArray⟩)) (y := .tmp 54) (k0 := [109, 117, 108, 116, 105, 112, 108, 105, 101, 114]) (v := .pointer (some ⟨bp, 1, none⟩)) rfl rfl rfl (by kernel_rfl) (by kernel_rfl) (by simp [Ff]) hs11 hp11 (To _) (by simp) (fun e => by cases e) (fun e12 w12 hs12 hp12 => ?_)
    refine TA (i := 12) (by kernel_rfl) ?_
    refine TM (l' := [true, true, true, true, true, true, true, true, true, true, true, true, true, false, false]) (zd := true) (by kernel_rfl) (by kernel_rfl) (ty := 0) (g := none) (by kernel_rfl) rfl (mt := 167) (k := 9) (vt := 166) (m := .tmp 48) (x := .const (.string ⟨([112, 101, 110, 97, 108, 116, 121] : TN).toArray⟩)) (y := .tmp 57) (k0 := [112, 101, 110, 97, 108, 116, 121]) (v := .pointer (some ⟨bp, 2, none⟩)) rfl rfl rfl (by kernel_rfl) (by kernel_rfl) (by simp [Ff]) hs12 hp12 (To _) (by simp) (fun e => by cases e) (fun e13 w13 hs13 hp13 => ?_)
    refine TA (i := 13) (by kernel_rfl) ?_
    refine TC (l' := [true, true, true, true, true, true, true, true, true, true, true, true, true, true, false]) (zd := true) (by kernel_rfl) (by kernel_rfl) (dst := some 58) (ty := 167) (g := none) (by kernel_rfl) rfl (Bb (x := .tmp 48) (v := .map (some b)) rfl) (Bg hs13 (To _) (by simp) (fun e => by cases e)) ?_
    refine TA (i := 14) (by kernel_rfl) ?_
    refine TC (l' := [true, true, true, true, true, true, true, true, true, true, true, true, true, true, true]) (zd := true) (by kernel_rfl) (by kernel_rfl) (dst := some 6) (ty := 167) (g := none) (by kernel_rfl) rfl (AM (x := .tmp 58) (v := .map (some b)) rfl) (Bg hs13 (To _) (by simp) (fun e => by cases e)) ?_
    exact TE (by kernel_rfl) ⟨_, b, hs13, hp13.congr (fun k => by by_cases a : k = [112, 111, 105, 110, 116, 115] <;> by_cases b : k = [109, 117, 108, 116, 105, 112, 108, 105, 101, 114] <;> by_cases c : k = [112, 101, 110, 97, 108, 116, 121] <;> simp_all [Ff, DJ]), rfl, rfl, rfl, rfl⟩
   ·
    refine TM (l' := [true, true, true, true, true, true, true, true, false, true, true, true, true, false, false]) (zd := true) (by kernel_rfl) (by kernel_rfl) (ty := 0) (g := none) (by kernel_rfl) rfl (mt := 167) (k := 9) (vt := 166) (m := .tmp 48) (x := .const (.string ⟨([112, 101, 110, 97, 108, 116, 121] : TN).toArray⟩)) (y := .tmp 57) (k0 := [112, 101, 110, 97, 108, 116, 121]) (v := .pointer (some ⟨bp, 2, none⟩)) rfl rfl rfl (by kernel_rfl) (by kernel_rfl) (by simp [Ff]) hs11 hp11 (To _) (by simp) (fun e => by cases e) (fun e14 w14 hs14 hp14 => ?_)
    refine TA (i := 8) (by kernel_rfl) ?_
    refine TM (l' := [true, true, true, true, true, true, true, true, true, true, true, true, true, false, false]) (zd := true) (by kernel_rfl) (by kernel_rfl) (ty := 0) (g := none) (by kernel_rfl) rfl (mt := 167) (k := 9) (vt := 166) (m := .tmp 48) (x := .const (.string ⟨([109, 117, 108, 116, 105, 112, 108, 105, 101, 114] : TN).toArray⟩)) (y := .tmp 54) (k0 := [109, 117, 108, 116, 105, 112, 108, 105, 101, 114]) (v := .pointer (some ⟨bp, 1, none⟩)) rfl rfl rfl (by kernel_rfl) (by kernel_rfl) (by simp [Ff]) hs14 hp14 (To _) (by simp) (fun e => by cases e) (fun e15 w15 hs15 hp15 => ?_)
    refine TA (i := 13) (by kernel_rfl) ?_
    refine TC (l' := [true, true, true, true, true, true, true, true, true, true, true, true, true, true, false]) (zd := true) (by kernel_rfl) (by kernel_rfl) (dst := some 58) (ty := 167) (g := none) (by kernel_rfl) rfl (Bb (x := .tmp 48) (v := .map (some b)) rfl) (Bg hs15 (To _) (by simp) (fun e => by cases e)) ?_
    refine TA (i := 14) (by kernel_rfl) ?_
    refine TC (l' := [true, true, true, true, true, true, true, true, true, true, true, true, true, true, true]) (zd := true) (by kernel_rfl) (by kernel_rfl) (dst := some 6) (ty := 167) (g := none) (by kernel_rfl) rfl (AM (x := .tmp 58) (v := .map (some b)) rfl) (Bg hs15 (To _) (by simp) (fun e => by cases e)) ?_
    exact TE (by kernel_rfl) ⟨_, b, hs15, hp15.congr (fun k => by by_cases a : k = [112, 111, 105, 110, 116, 115] <;> by_cases b : k = [109, 117, 108, 116, 105, 112, 108, 105, 101, 114] <;> by_cases c : k = [112, 101, 110, 97, 108, 116, 121] <;> simp_all [Ff, DJ]), rfl, rfl, rfl, rfl⟩
  ·
   refine TM (l' := [true, true, true, true, false, true, true, true, true, true, true, true, false, false, false]) (zd := true) (by kernel_rfl) (by kernel_rfl) (ty := 0) (g := none) (by kernel_rfl) rfl (mt := 167) (k := 9) (vt := 166) (m := .tmp 48) (x := .const (.string ⟨([109, 117, 108, 116, 105, 112, 108, 105, 101, 114] : TN).toArray⟩)) (y := .tmp 54) (k0 := [109, 117, 108, 116, 105, 112, 108, 105, 101, 114]) (v := .pointer (some ⟨bp, 1, none⟩)) rfl rfl rfl (by kernel_rfl) (by kernel_rfl) (by simp [Ff]) hs1 hp0 (To _) (by simp) (fun e => by cases e) (fun e16 w16 hs16 hp16 => ?_)
   refine TB (i := 4) (j := 12) (by kernel_rfl) ?_ ?_
   ·
    refine TM (l' := [true, true, true, true, true, true, true, true, true, true, true, true, false, false, false]) (zd := true) (by kernel_rfl) (by kernel_rfl) (ty := 0) (g := none) (by kernel_rfl) rfl (mt := 167) (k := 9) (vt := 166) (m := .tmp 48) (x := .const (.string ⟨([112, 111, 105, 110, 116, 115] : TN).toArray⟩)) (y := .tmp 51) (k0 := [112, 111, 105, 110, 116, 115]) (v := .pointer (some ⟨bp, 0, none⟩)) rfl rfl rfl (by kernel_rfl) (by kernel_rfl) (by simp [Ff]) hs16 hp16 (To _) (by simp) (fun e => by cases e) (fun e17 w17 hs17 hp17 => ?_)
    refine TA (i := 12) (by kernel_rfl) ?_
    refine TM (l' := [true, true, true, true, true, true, true, true, true, true, true, true, true, false, false]) (zd := true) (by kernel_rfl) (by kernel_rfl) (ty := 0) (g := none) (by kernel_rfl) rfl (mt := 167) (k := 9) (vt := 166) (m := .tmp 48) (x := .const (.string ⟨([112, 101, 110, 97, 108, 116, 121] : TN).toArray⟩)) (y := .tmp 57) (k0 := [112, 101, 110, 97, 108, 116, 121]) (v := .pointer (some ⟨bp, 2, none⟩)) rfl rfl rfl (by kernel_rfl) (by kernel_rfl) (by simp [Ff]) hs17 hp17 (To _) (by simp) (fun e => by cases e) (fun e18 w18 hs18 hp18 => ?_)
    refine TA (i := 13) (by kernel_rfl) ?_
    refine TC (l' := [true, true, true, true, true, true, true, true, true, true, true, true, true, true, false]) (zd := true) (by kernel_rfl) (by kernel_rfl) (dst := some 58) (ty := 167) (g := none) (by kernel_rfl) rfl (Bb (x := .tmp 48) (v := .map (some b)) rfl) (Bg hs18 (To _) (by simp) (fun e => by cases e)) ?_
    refine TA (i := 14) (by kernel_rfl) ?_
    refine TC (l' := [true, true, true, true, true, true, true, true, true, true, true, true, true, true, true]) (zd := true) (by kernel_rfl) (by kernel_rfl) (dst := some 6) (ty := 167) (g := none) (by kernel_rfl) rfl (AM (x := .tmp 58) (v := .map (some b)) rfl) (Bg hs18 (To _) (by simp) (fun e => by cases e)) ?_
    exact TE (by kernel_rfl) ⟨_, b, hs18, hp18.congr (fun k => by by_cases a : k = [112, 111, 105, 110, 116, 115] <;> by_cases b : k = [109, 117, 108, 116, 105, 112, 108, 105, 101, 114] <;> by_cases c : k = [112, 101, 110, 97, 108, 116, 121] <;> simp_all [Ff, DJ]), rfl, rfl, rfl, rfl⟩
   ·
    refine TM (l' := [true, true, true, true, false, true, true, true, true, true, true, true, true, false, false]) (zd := true) (by kernel_rfl) (by kernel_rfl) (ty := 0) (g := none) (by kernel_rfl) rfl (mt := 167) (k := 9) (vt := 166) (m := .tmp 48) (x := .const (.string ⟨([112, 101, 110, 97, 108, 116, 121] : TN).toArray⟩)) (y := .tmp 57) (k0 := [112, 101, 110, 97, 108, 116, 121]) (v := .pointer (some ⟨bp, 2, none⟩)) rfl rfl rfl (by kernel_rfl) (by kernel_rfl) (by simp [Ff]) hs16 hp16 (To _) (by simp) (fun e => by cases e) (fun e19 w19 hs19 hp19 => ?_)
    refine TA (i := 4) (by kernel_rfl) ?_
    refine TM (l' := [true, true, true, true, true, true, true, true, true, true, true, true, true, false, false]) (zd := true) (by kernel_rfl) (by kernel_rfl) (ty := 0) (g := none) (by kernel_rfl) rfl (mt := 167) (k := 9) (vt := 166) (m := .tmp 48) (x := .const (.string ⟨([112, 111, 105, 110, 116, 115] : TN).toArray⟩)) (y := .tmp 51) (k0 := [112, 111, 105, 110, 116, 115]) (v := .pointer (some ⟨bp, 0, none⟩)) rfl rfl rfl (by kernel_rfl) (by kernel_rfl) (by simp [Ff]) hs19 hp19 (To _) (by simp) (fun e => by cases e) (fun e20 w20 hs20 hp20 => ?_)
    refine TA (i := 13) (by kernel_rfl) ?_
    refine TC (l' := [true, true, true, true, true, true, true, true, true, true, true, true, true, true, false]) (zd := true) (by kernel_rfl) (by kernel_rfl) (dst := some 58) (ty := 167) (g := none) (by kernel_rfl) rfl (Bb (x := .tmp 48) (v := .map (some b)) rfl) (Bg hs20 (To _) (by simp) (fun e => by cases e)) ?_
    refine TA (i := 14) (by kernel_rfl) ?_
    refine TC (l' := [true, true, true, true, true, true, true, true, true, true, true, true, true, true, true]) (zd := true) (by kernel_rfl) (by kernel_rfl) (dst := some 6) (ty := 167) (g := none) (by kernel_rfl) rfl (AM (x := .tmp 58) (v := .map (some b)) rfl) (Bg hs20 (To _) (by simp) (fun e => by cases e)) ?_
    exact TE (by kernel_rfl) ⟨_, b, hs20, hp20.congr (fun k => by by_cases a : k = [112, 111, 105, 110, 116, 115] <;> by_cases b : k = [109, 117, 108, 116, 105, 112, 108, 105, 101, 114] <;> by_cases c : k = [112, 101, 110, 97, 108, 116, 121] <;> simp_all [Ff, DJ]), rfl, rfl, rfl, rfl⟩
  ·
   refine TM (l' := [true, true, true, true, false, true, true, true, false, true, true, true, true, false, false]) (zd := true) (by kernel_rfl) (by kernel_rfl) (ty := 0) (g := none) (by kernel_rfl) rfl (mt := 167) (k := 9) (vt := 166) (m := .tmp 48) (x := .const (.string ⟨([112, 101, 110, 97, 108, 116, 121] : TN).toArray⟩)) (y := .tmp 57) (k0 := [112, 101, 110, 97, 108, 116, 121]) (v := .pointer (some ⟨bp, 2, none⟩)) rfl rfl rfl (by kernel_rfl) (by kernel_rfl) (by simp [Ff]) hs1 hp0 (To _) (by simp) (fun e => by cases e) (fun e21 w21 hs21 hp21 => ?_)
   refine TB (i := 4) (j := 8) (by kernel_rfl) ?_ ?_
   ·
    refine TM (l' := [true, true, true, true, true, true, true, true, false, true, true, true, true, false, false]) (zd := true) (by kernel_rfl) (by kernel_rfl) (ty := 0) (g := none) (by kernel_rfl) rfl (mt := 167) (k := 9) (vt := 166) (m := .tmp 48) (x := .const (.string ⟨([112, 111, 105, 110, 116, 115] : TN).toArray⟩)) (y := .tmp 51) (k0 := [112, 111, 105, 110, 116, 115]) (v := .pointer (some ⟨bp, 0, none⟩)) rfl rfl rfl (by kernel_rfl) (by kernel_rfl) (by simp [Ff]) hs21 hp21 (To _) (by simp) (fun e => by cases e) (fun e22 w22 hs22 hp22 => ?_)
    refine TA (i := 8) (by kernel_rfl) ?_
    refine TM (l' := [true, true, true, true, true, true, true, true, true, true, true, true, true, false, false]) (zd := true) (by kernel_rfl) (by kernel_rfl) (ty := 0) (g := none) (by kernel_rfl) rfl (mt := 167) (k := 9) (vt := 166) (m := .tmp 48) (x := .const (.string ⟨([109, 117, 108, 116, 105, 112, 108, 105, 101, 114] : TN).toArray⟩)) (y := .tmp 54) (k0 := [109, 117, 108, 116, 105, 112, 108, 105, 101, 114]) (v := .pointer (some ⟨bp, 1, none⟩)) rfl rfl rfl (by kernel_rfl) (by kernel_rfl) (by simp [Ff]) hs22 hp22 (To _) (by simp) (fun e => by cases e) (fun e23 w23 hs23 hp23 => ?_)
    refine TA (i := 13) (by kernel_rfl) ?_
    refine TC (l' := [true, true, true, true, true, true, true, true, true, true, true, true, true, true, false]) (zd := true) (by kernel_rfl) (by kernel_rfl) (dst := some 58) (ty := 167) (g := none) (by kernel_rfl) rfl (Bb (x := .tmp 48) (v := .map (some b)) rfl) (Bg hs23 (To _) (by simp) (fun e => by cases e)) ?_
    refine TA (i := 14) (by kernel_rfl) ?_
    refine TC (l' := [true, true, true, true, true, true, true, true, true, true, true, true, true, true, true]) (zd := true) (by kernel_rfl) (by kernel_rfl) (dst := some 6) (ty := 167) (g := none) (by kernel_rfl) rfl (AM (x := .tmp 58) (v := .map (some b)) rfl) (Bg hs23 (To _) (by simp) (fun e => by cases e)) ?_
    exact TE (by kernel_rfl) ⟨_, b, hs23, hp23.congr (fun k => by by_cases a : k = [112, 111, 105, 110, 116, 115] <;> by_cases b : k = [109, 117, 108, 116, 105, 112, 108, 105, 101, 114] <;> by_cases c : k = [112, 101, 110, 97, 108, 116, 121] <;> simp_all [Ff, DJ]), rfl, rfl, rfl, rfl⟩
   ·
    refine TM (l' := [true, true, true, true, false, true, true, true, true, true, true, true, true, false, false]) (zd := true) (by kernel_rfl) (by kernel_rfl) (ty := 0) (g := none) (by kernel_rfl) rfl (mt := 167) (k := 9) (vt := 166) (m := .tmp 48) (x := .const (.string ⟨([109, 117, 108, 116, 105, 112, 108, 105, 101, 114] : TN).toArray⟩)) (y := .tmp 54) (k0 := [109, 117, 108, 116, 105, 112, 108, 105, 101, 114]) (v := .pointer (some ⟨bp, 1, none⟩)) rfl rfl rfl (by kernel_rfl) (by kernel_rfl) (by simp [Ff]) hs21 hp21 (To _) (by simp) (fun e => by cases e) (fun e24 w24 hs24 hp24 => ?_)
    refine TA (i := 4) (by kernel_rfl) ?_
    refine TM (l' := [true, true, true, true, true, true, true, true, true, true, true, true, true, false, false]) (zd := true) (by kernel_rfl) (by kernel_rfl) (ty := 0) (g := none) (by kernel_rfl) rfl (mt := 167) (k := 9) (vt := 166) (m := .tmp 48) (x := .const (.string ⟨([112, 111, 105, 110, 116, 115] : TN).toArray⟩)) (y := .tmp 51) (k0 := [112, 111, 105, 110, 116, 115]) (v := .pointer (some ⟨bp, 0, none⟩)) rfl rfl rfl (by kernel_rfl) (by kernel_rfl) (by simp [Ff]) hs24 hp24 (To _) (by simp) (fun e => by cases e) (fun e25 w25 hs25 hp25 => ?_)
    refine TA (i := 13) (by kernel_rfl) ?_
    refine TC (l' := [true, true, true, true, true, true, true, true, true, true, true, true, true, true, false]) (zd := true) (by kernel_rfl) (by kernel_rfl) (dst := some 58) (ty := 167) (g := none) (by kernel_rfl) rfl (Bb (x := .tmp 48) (v := .map (some b)) rfl) (Bg hs25 (To _) (by simp) (fun e => by cases e)) ?_
    refine TA (i := 14) (by kernel_rfl) ?_
    refine TC (l' := [true, true, true, true, true, true, true, true, true, true, true, true, true, true, true]) (zd := true) (by kernel_rfl) (by kernel_rfl) (dst := some 6) (ty := 167) (g := none) (by kernel_rfl) rfl (AM (x := .tmp 58) (v := .map (some b)) rfl) (Bg hs25 (To _) (by simp) (fun e => by cases e)) ?_
    exact TE (by kernel_rfl) ⟨_, b, hs25, hp25.congr (fun k => by by_cases a : k = [112, 111, 105, 110, 116, 115] <;> by_cases b : k = [109, 117, 108, 116, 105, 112, 108, 105, 101, 114] <;> by_cases c : k = [112, 101, 110, 97, 108, 116, 121] <;> simp_all [Ff, DJ]), rfl, rfl, rfl, rfl⟩
 ·rintro f' w' ⟨e, b, h1, h2, h3, h4, h5⟩
  exact k f' w' e b h1 h2 h3 ⟨h4, h5⟩
end Go.Proofs.YtaihlcdkcampbaaGreatDoor
