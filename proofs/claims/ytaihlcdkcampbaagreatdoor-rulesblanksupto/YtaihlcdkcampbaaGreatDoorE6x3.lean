/- Lemmas of the claim RulesBlanksUpto, printed by a program of the claimant and by hand. No statement of the seat is proved here. -/
import Derived.Test.YtaihlcdkcampbaaGreatDoorE6x2
set_option linter.unusedVariables false
set_option linter.unusedSimpArgs false
set_option linter.unusedSectionVars false
set_option maxHeartbeats 4000000
set_option maxRecDepth 100000
namespace Go.Proofs.YtaihlcdkcampbaaGreatDoor
def Br {σ : Type} (N : Nat) (y : (σ -> Ah -> Option (Bool × σ))) (z0 : SZ) (z1 : (Int -> Int -> Int -> Option SZ)) (s : σ) : (Int × σ) -> Option (Bn σ (Int × σ)) := fun s4 =>
 (bif (decide (s4.1 < (z0.length : Int))) then ((FV z0 s4.1 (W64 (s4.1 + 1))).bind fun r33 => ((ET z0 s4.1).bind fun c41 => (bif ((c41 == 32) || (c41 == 9)) then some (.next ((W64 (s4.1 + 1)), s4.2)) else ((bif ((decide (c41 >= 48)) && (decide (c41 <= 57))) then ((z1 s4.1 48 57).bind fun r87 => some (1, r87)) else ((bif ((decide (c41 >= 97)) && (decide (c41 <= 122))) then ((z1 s4.1 97 122).bind fun r126 => some (2, r126)) else ((FV z0 s4.1 (z0.length : Int)).bind fun r138 => ((strings_HasPrefix N r138 ([61, 62] : SZ)).bind fun r141 => ((bif r141 then some (3, ([61, 62] : SZ)) else ((strings_IndexByte N ([40, 41, 44, 58, 61, 60, 43, 45, 42, 10] : SZ) c41).bind fun r168 => ((bif (decide (r168 >= 0)) then some 3 else some 4).bind fun j179 => some (j179, r33)))).bind fun j152 => some (j152.1, j152.2))))).bind fun j114 => some (j114.1, j114.2))).bind fun j75 => ((y s4.2 ({ kind_ := j75.1, at_ := s4.1, text_ := j75.2 } : Ah)).bind fun q193 => (bif (!q193.1) then some (.ret q193.2) else some (.next ((W64 (s4.1 + (j75.2.length : Int))), q193.2)))))))) else some (.done (s4.1, s4.2)))
def En {σ : Type} (N : Nat) (y : σ -> Ah -> Option (Bool × σ)) (z0 : SZ) (z1 : (Int -> Int -> Int -> Option SZ)) (s : σ) : Option σ :=
 ((AX (Br N y z0 z1 s) N (0, s)).bind fun o => o.k (fun r => some r) (fun s15 => ((y s15.2 ({ kind_ := 0, at_ := (z0.length : Int), text_ := ([] : SZ) } : Ah)).bind fun q208 => some q208.2)))
theorem Is : Aq Tryz.prog 181 := fun _ _ => by kernel_rfl
theorem I6 (N : Nat) (F0 : Mem) (z0 : SZ) (bz0 : Nat) (hz0 : F0 bz0 = some (oc #[(.string ⟨(z0).toArray⟩)] 9)) (z1 : (Int -> Int -> Int -> Option SZ)) (gz1_0 : FuncId) (fz1_0 : List Value) (kz1_0 : List Value) (hoz1_0 : Aq Tryz.prog gz1_0) (hpz1_0 : On F0 gz1_0 fz1_0 kz1_0 z1) (bz1 : Nat) (hz1 : F0 bz1 = some (oc #[(.func (.func gz1_0) fz1_0.toArray kz1_0.toArray)] 193)) :
  MV Tryz.prog 181 [(pt bz0 0), (pt bz1 0)] F0 [] LV N4 N0 (fun {_} y s => En N y z0 z1 s) := by
 intro σ wb w0 Fb F1 l y J s r Lf le01 hJm hs0 hJ hY h
 have hs0 : HS wb Fb w0 F1 Lf := hs0
 refine EB (n := 80) (c := Cb Tryz.f181) Tryz.func181 (by kernel_rfl) (by kernel_rfl) (by kernel_rfl) ?_
 refine Sq ?_
 refine Sq (Rg [0] ?_)
 refine Vs 1 ?_
 refine Nt ?_
 obtain ⟨o1, ho2, h3⟩ := bind_some h
 refine SN (fun f w => ∃ (s15 : (Int × σ)) (F3 : Mem) (Lf19 : Own), o1 = .done s15 /\ HS wb Fb w F3 Lf19 /\ SG F1 F3 /\ FI f [] [(0, (.func (.yield l) #[] #[])), (1, (pt bz0 0))] /\ J s15.2 F3 Lf19) ?_ ?_
 ·refine Bk ?_
  refine SF (by kernel_rfl) (fun m f w => ∃ (s4 : (Int × σ)) (F2 : Mem) (Lf8 : Own), AX (Br N y z0 z1 s) m s4 = some o1 /\ HS wb Fb w F2 Lf8 /\ SG F1 F2 /\ FI f [] [(0, (.func (.yield l) #[] #[])), (1, (pt bz0 0)), (2, (pt bz1 0)), (4, (vi s4.1))] /\ J s4.2 F2 Lf8) N ⟨(0, s), F1, Lf, ho2, hs0, (SH _), fI, hJ⟩ ?_
  rintro m24 f w5 ⟨s4, F2, Lf8, hit25, hs6, le7, ⟨_, rfl⟩, hJ9⟩
  obtain ⟨m26, fl27, rfl, hb28, hnx29⟩ := Bf hit25
  refine Sq ?_
  refine Sq (Rg [0, 1, 2, 3] ?_)
  refine Vs 1 ?_
  refine Ld (hs6.pers _ _ ((le01.trans le7) _ _ hz0)) ?_
  refine Vs 1 ?_
  refine Vs 1 ?_
  refine Nt ?_
  refine Cd hb28 (fun hb30 h31 => ?_) (fun hb30 h32 => ?_)
  ·refine Sc ?_
   refine Ac ?_
   refine Bk ?_
   refine Sq (Rg [0, 1, 2, 3, 4, 5, 6, 7, 8] ?_)
   refine Vs 1 ?_
   refine Ld (hs6.pers _ _ ((le01.trans le7) _ _ hz0)) ?_
   refine Vs 1 ?_
   refine Vs 1 ?_
   refine Vs 1 ?_
   obtain ⟨r33, hr34, h35⟩ := bind_some h31
   refine V 16 9 (HF (t := 9) (x := (.tmp 12)) (lo := (some (.tmp 13))) (hi := (some (.tmp 15))) (a := z0) (il := s4.1) (ih := (W64 (s4.1 + 1))) (v := r33) rfl (by kernel_rfl) rfl rfl hr34) ?_
   refine Vs 1 ?_
   refine Al' 97 #[(vi 0), (vi 0), (.string ⟨(([] : SZ)).toArray⟩)] hs6 (fun b36 w37 hs38 => ?_)
   refine St0 #[(vi 4), (vi s4.1), (.string ⟨(r33).toArray⟩)] hs38 (fun w39 hs40 => ?_)
   refine Nss ?_
   refine Sq (Rg [0, 1, 2, 3] ?_)
   refine Ld (hs40.pers _ _ ((le01.trans le7) _ _ hz0)) ?_
   refine Vs 1 ?_
   obtain ⟨c41, hr42, h43⟩ := bind_some h35
   refine V 20 5 (HG (t := 9) (x := (.tmp 18)) (y := (.tmp 19)) (a := z0) (k := .i64) (i := s4.1) (v := c41) rfl rfl (by kernel_rfl) hr42) ?_
   refine Vs 1 ?_
   refine Nt ?_
   refine Bk ?_
   refine Sq (Rg [0, 1, 2, 3, 4, 5, 6] ?_)
   refine SM (fun f w => ∃ (F4 : Mem), HS wb Fb w F4 ((sb b36 #[(vi 4), (vi s4.1), (.string ⟨(r33).toArray⟩)] 97) :: Lf8) /\ SG F2 F4 /\ FI f [] [(0, (.func (.yield l) #[] #[])), (1, (pt bz0 0)), (2, (pt bz1 0)), (4, (vi s4.1)), (5, (pt b36 0)), (6, (.int .u8 c41)), (21, (.bool ((c41 == 32) || (c41 == 9))))]) ?_ ?_
   ·refine Vs 1 ?_
    refine Vs 1 ?_
    refine Vs 1 ?_
    refine SL (c41 == 32) (fun hb55 => ?_) (fun hb55 => ?_)
    ·refine Ss hb55 1 ?_--2
     refine Ss hb55 1 ?_--2
     refine Pk1 hb55 ?_
     refine Vs 1 ?_
     exact SC ⟨rfl, F2, hs40, (SH _), (fJ ⟨rfl, rfl, rfl, rfl, rfl, rfl, (congrArg Value.bool (FQ hb55 rfl)), trivial⟩)⟩
    ·refine Vgs hb55 1 ?_--2
     refine Vgs hb55 1 ?_--2
     refine Pk0 hb55 ?_
     refine Vs 1 ?_
     exact SC ⟨rfl, F2, hs40, (SH _), (fJ ⟨rfl, rfl, rfl, rfl, rfl, rfl, (congrArg Value.bool (B5 hb55 rfl)), trivial⟩)⟩
   ·rintro f w44 ⟨F4, hs45, le46, ⟨_, rfl⟩⟩
    refine Ac ?_
    refine Cd h43 (fun hb56 h57 => ?_) (fun hb56 h58 => ?_)
    ·refine Sq (Rg [0, 1, 2] ?_)
     refine Vs 1 ?_
     refine Vs 1 ?_
     refine Vs 1 ?_
     refine Nt ?_
     refine Ex ?_
     refine MS (by decide) ?_
     refine AF ?_
     refine AZ rfl ?_
     have hn59 := A8 h57 hnx29
     exact ⟨m26, Nat.lt_succ_self _, ((W64 (s4.1 + 1)), s4.2), F4, Lf8, hn59, hs45.dr0, (le7.trans le46), fI, (hJm _ _ _ _ hJ9 le46)⟩
    ·refine Sq (Rg [0, 1, 2, 3, 4, 5, 6] ?_)
     refine SM (fun f w => ∃ (F5 : Mem), HS wb Fb w F5 ((sb b36 #[(vi 4), (vi s4.1), (.string ⟨(r33).toArray⟩)] 97) :: Lf8) /\ SG F4 F5 /\ FI f [] [(0, (.func (.yield l) #[] #[])), (1, (pt bz0 0)), (2, (pt bz1 0)), (4, (vi s4.1)), (5, (pt b36 0)), (6, (.int .u8 c41)), (30, (.bool ((decide (c41 >= 48)) && (decide (c41 <= 57)))))]) ?_ ?_
     ·refine Vs 1 ?_
      refine Vs 1 ?_
      refine Vs 1 ?_
      refine SL (decide (c41 >= 48)) (fun hb71 => ?_) (fun hb71 => ?_)
      ·refine Vgs hb71 1 ?_--2
       refine Vgs hb71 1 ?_--2
       refine Pk1 hb71 ?_
       refine Vs 1 ?_
       exact SC ⟨rfl, F4, hs45, (SH _), (fJ ⟨rfl, rfl, rfl, rfl, rfl, rfl, (congrArg Value.bool (D0 hb71 rfl)), trivial⟩)⟩
      ·refine Ss hb71 1 ?_--2
       refine Ss hb71 1 ?_--2
       refine Pk0 hb71 ?_
       refine Vs 1 ?_
       exact SC ⟨rfl, F4, hs45, (SH _), (fJ ⟨rfl, rfl, rfl, rfl, rfl, rfl, (congrArg Value.bool (GI hb71 rfl)), trivial⟩)⟩
     ·rintro f w60 ⟨F5, hs61, le62, ⟨_, rfl⟩⟩
      refine Ac ?_
      obtain ⟨j75, hj82, h83⟩ := bind_some h58
      refine SN (fun f w => ∃ (F6 : Mem), HS wb Fb w F6 ((sb b36 #[(vi j75.1), (vi s4.1), (.string ⟨(j75.2).toArray⟩)] 97) :: Lf8) /\ SG F5 F6 /\ FI f [] [(0, (.func (.yield l) #[] #[])), (1, (pt bz0 0)), (2, (pt bz1 0)), (4, (vi s4.1)), (5, (pt b36 0))]) ?_ ?_
      ·refine Cd hj82 (fun hb84 h85 => ?_) (fun hb84 h86 => ?_)
       ·refine Rg [0, 1, 2, 3, 4, 5, 6] ?_
        refine Ld (hs61.pers _ _ ((((le01.trans le7).trans le46).trans le62) _ _ hz1)) ?_
        refine Vs 1 ?_
        obtain ⟨r87, hr88, h89⟩ := bind_some h85
        refine Cq hoz1_0 hs61 (hpz1_0 w60 F5 s4.1 48 57 _ (((le01.trans le7).trans le46).trans le62) hs61.pers hr88) ?_
        rintro _ F7 w91 hs92 le93 rfl
        refine Vs 1 ?_
        refine St0 #[(vi 1), (vi s4.1), (.string ⟨(r33).toArray⟩)] hs92 (fun w95 hs96 => ?_)
        refine Vs 1 ?_
        refine St0 #[(vi 1), (vi s4.1), (.string ⟨(r87).toArray⟩)] hs96 (fun w97 hs98 => ?_)
        refine SC ?_
        obtain rfl := Ab h89
        exact .inl ⟨rfl, F7, hs98, le93, fI⟩
       ·refine Sq (Rg [0, 1, 2, 3, 4, 5, 6] ?_)
        refine SM (fun f w => ∃ (F8 : Mem), HS wb Fb w F8 ((sb b36 #[(vi 4), (vi s4.1), (.string ⟨(r33).toArray⟩)] 97) :: Lf8) /\ SG F5 F8 /\ FI f [] [(0, (.func (.yield l) #[] #[])), (1, (pt bz0 0)), (2, (pt bz1 0)), (4, (vi s4.1)), (5, (pt b36 0)), (6, (.int .u8 c41)), (42, (.bool ((decide (c41 >= 97)) && (decide (c41 <= 122)))))]) ?_ ?_
        ·refine Vs 1 ?_
         refine Vs 1 ?_
         refine Vs 1 ?_
         refine SL (decide (c41 >= 97)) (fun hb110 => ?_) (fun hb110 => ?_)
         ·refine Vgs hb110 1 ?_--2
          refine Vgs hb110 1 ?_--2
          refine Pk1 hb110 ?_
          refine Vs 1 ?_
          exact SC ⟨rfl, F5, hs61, (SH _), (fJ ⟨rfl, rfl, rfl, rfl, rfl, rfl, (congrArg Value.bool (D0 hb110 rfl)), trivial⟩)⟩
         ·refine Ss hb110 1 ?_--2
          refine Ss hb110 1 ?_--2
          refine Pk0 hb110 ?_
          refine Vs 1 ?_
          exact SC ⟨rfl, F5, hs61, (SH _), (fJ ⟨rfl, rfl, rfl, rfl, rfl, rfl, (congrArg Value.bool (GI hb110 rfl)), trivial⟩)⟩
        ·rintro f w99 ⟨F8, hs100, le101, ⟨_, rfl⟩⟩
         refine Ac ?_
         obtain ⟨j114, hj121, h122⟩ := bind_some h86
         refine SN (fun f w => ∃ (F9 : Mem), HS wb Fb w F9 ((sb b36 #[(vi j114.1), (vi s4.1), (.string ⟨(j114.2).toArray⟩)] 97) :: Lf8) /\ SG F8 F9 /\ FI f [] [(0, (.func (.yield l) #[] #[])), (1, (pt bz0 0)), (2, (pt bz1 0)), (4, (vi s4.1)), (5, (pt b36 0))]) ?_ ?_
         ·refine Cd hj121 (fun hb123 h124 => ?_) (fun hb123 h125 => ?_)
          ·refine Rg [0, 1, 2, 3, 4, 5, 6] ?_
           refine Ld (hs100.pers _ _ (((((le01.trans le7).trans le46).trans le62).trans le101) _ _ hz1)) ?_
           refine Vs 1 ?_
           obtain ⟨r126, hr127, h128⟩ := bind_some h124
           refine Cq hoz1_0 hs100 (hpz1_0 w99 F8 s4.1 97 122 _ ((((le01.trans le7).trans le46).trans le62).trans le101) hs100.pers hr127) ?_
           rintro _ F10 w130 hs131 le132 rfl
           refine Vs 1 ?_
           refine St0 #[(vi 2), (vi s4.1), (.string ⟨(r33).toArray⟩)] hs131 (fun w134 hs135 => ?_)
           refine Vs 1 ?_
           refine St0 #[(vi 2), (vi s4.1), (.string ⟨(r126).toArray⟩)] hs135 (fun w136 hs137 => ?_)
           refine SC ?_
           obtain rfl := Ab h128
           exact .inl ⟨rfl, F10, hs137, le132, fI⟩
          ·refine Sq (Rg [0, 1, 2, 3, 4] ?_)
           refine Ld (hs100.pers _ _ (((((le01.trans le7).trans le46).trans le62).trans le101) _ _ hz0)) ?_
           refine Vs 1 ?_
           obtain ⟨r138, hr139, h140⟩ := bind_some h125
           refine V 57 9 (HF (t := 9) (x := (.tmp 55)) (lo := (some (.tmp 56))) (hi := none) (a := z0) (il := s4.1) (ih := (z0.length : Int)) (v := r138) rfl (by kernel_rfl) rfl rfl hr139) ?_
           obtain ⟨r141, hr142, h143⟩ := bind_some h140
           refine Cl' Gm hs100 (GR N w99 F8 hs100.pers r138 (([61, 62] : SZ)) _ hr142) ?_
           rintro _ F11 w145 hs146 le147 rfl
           refine Vs 1 ?_
           refine Nt ?_
           obtain ⟨j152, hj159, h160⟩ := bind_some h143
           refine SN (fun f w => ∃ (F12 : Mem), HS wb Fb w F12 ((sb b36 #[(vi j152.1), (vi s4.1), (.string ⟨(j152.2).toArray⟩)] 97) :: Lf8) /\ SG F11 F12 /\ FI f [] [(0, (.func (.yield l) #[] #[])), (1, (pt bz0 0)), (2, (pt bz1 0)), (4, (vi s4.1)), (5, (pt b36 0))]) ?_ ?_
           ·refine Cd hj159 (fun hb161 h162 => ?_) (fun hb161 h163 => ?_)
            ·refine Rg [0, 1, 2, 3] ?_
             refine Vs 1 ?_
             refine St0 #[(vi 3), (vi s4.1), (.string ⟨(r33).toArray⟩)] hs146 (fun w164 hs165 => ?_)
             refine Vs 1 ?_
             refine St0 #[(vi 3), (vi s4.1), (.string ⟨(([61, 62] : SZ)).toArray⟩)] hs165 (fun w166 hs167 => ?_)
             refine SC ?_
             obtain rfl := Ab h162
             exact .inl ⟨rfl, F11, hs167, (SH _), fI⟩
            ·refine Sq (Rg [0, 1, 2, 3] ?_)
             refine Vs 1 ?_
             obtain ⟨r168, hr169, h170⟩ := bind_some h163
             refine Cl' Gl hs146 (GQ N w145 F11 hs146.pers (([40, 41, 44, 58, 61, 60, 43, 45, 42, 10] : SZ)) c41 _ hr169) ?_
             rintro _ F13 w172 hs173 le174 rfl
             refine Vs 1 ?_
             refine Vs 1 ?_
             refine Nt ?_
             obtain ⟨j179, hj186, h187⟩ := bind_some h170
             refine SN (fun f w => ∃ (F14 : Mem), HS wb Fb w F14 ((sb b36 #[(vi j179), (vi s4.1), (.string ⟨(r33).toArray⟩)] 97) :: Lf8) /\ SG F13 F14 /\ FI f [] [(0, (.func (.yield l) #[] #[])), (1, (pt bz0 0)), (2, (pt bz1 0)), (4, (vi s4.1)), (5, (pt b36 0))]) ?_ ?_
             ·refine Cd hj186 (fun hb188 h189 => ?_) (fun hb188 h190 => ?_)
              ·refine Rg [0, 1] ?_
               refine Vs 1 ?_
               refine St0 #[(vi 3), (vi s4.1), (.string ⟨(r33).toArray⟩)] hs173 (fun w191 hs192 => ?_)
               refine SC ?_
               obtain rfl := Ab h189
               exact .inl ⟨rfl, F13, hs192, (SH _), fI⟩
              ·refine Sc ?_
               obtain rfl := Ab h190
               exact .inl ⟨rfl, F13, hs173, (SH _), fI⟩
             ·rintro f w176 ⟨F14, hs177, le178, ⟨_, rfl⟩⟩
              obtain rfl := Ab h187
              exact .inl ⟨rfl, F14, hs177, (le174.trans le178), fI⟩
           ·rintro f w149 ⟨F12, hs150, le151, ⟨_, rfl⟩⟩
            obtain rfl := Ab h160
            exact .inl ⟨rfl, F12, hs150, (le147.trans le151), fI⟩
         ·rintro f w111 ⟨F9, hs112, le113, ⟨_, rfl⟩⟩
          obtain rfl := Ab h122
          exact .inl ⟨rfl, F9, hs112, (le101.trans le113), fI⟩
      ·rintro f w72 ⟨F6, hs73, le74, ⟨_, rfl⟩⟩
       refine Ax ?_
       refine Ac ?_
       refine Sq (Rg [0, 1, 2, 3, 4, 5] ?_)
       refine Vs 1 ?_
       refine Vs 1 ?_
       refine Ld hs73.at0 ?_
       refine Vs 1 ?_
       refine Vs 1 ?_
       refine Vs 1 ?_
       refine Nss (Rg [0, 1, 2, 3] ?_)
       refine Vs 1 ?_
       refine Ld hs73.at0 ?_
       obtain ⟨q193, hq194, h195⟩ := bind_some h83
       refine RWP.yield (dst := (some 73)) (ty := 4) (g := none) (by kernel_rfl) rfl (f0 := (.tmp 71)) (aos := #[(.tmp 72)]) (ats := #[97]) (l := l) (args := [(.agg #[(vi j75.1), (vi s4.1), (.string ⟨(j75.2).toArray⟩)])]) rfl rfl (hY s4.2 ({ kind_ := j75.1, at_ := s4.1, text_ := j75.2 } : Ah) w72 F6 [(sb b36 #[(vi j75.1), (vi s4.1), (.string ⟨(j75.2).toArray⟩)] 97)] Lf8 q193 (((le7.trans le46).trans le62).trans le74) trivial (hJm _ _ _ _ hJ9 ((le46.trans le62).trans le74)) hs73 hq194) ?_
       rintro _ w196 ⟨F15, Lf200, rfl, hs197, le198, hJ199⟩
       have hs201 : HS wb Fb w196 F15 ((sb b36 #[(vi j75.1), (vi s4.1), (.string ⟨(j75.2).toArray⟩)] 97) :: Lf200) := hs197
       refine ⟨_, rfl, ?_⟩
       refine Vs 1 ?_
       refine Nt ?_
       refine Cd h195 (fun hb202 h203 => ?_) (fun hb202 h204 => ?_)
       ·refine Rt ?_
        refine Al ?_
        refine Aj ?_
        refine Al ?_
        have hret := Cs h203 hnx29
        subst hret
        refine .inr ?_
        refine Aj ?_
        have hfin := Ab h3
        subst hfin
        exact ⟨rfl, .tuple #[], AB (l := []) (by kernel_rfl) (vs := []) trivial, F15, Lf200, rfl, hs201.dr0, ((((le7.trans le46).trans le62).trans le74).trans le198), hJ199⟩
       ·refine Sc ?_
        refine Ax ?_
        have hn205 := A8 h204 hnx29
        exact ⟨m26, Nat.lt_succ_self _, ((W64 (s4.1 + (j75.2.length : Int))), q193.2), F15, Lf200, hn205, hs201.dr0, ((((le7.trans le46).trans le62).trans le74).trans le198), fI, hJ199⟩
  ·refine Ex ?_
   refine AF ?_
   refine AF ?_
   refine AZ rfl ?_
   have ho206 := Bm h32 hnx29
   exact .inl ⟨rfl, (s4.1, s4.2), F2, Lf8, ho206, hs6, le7, fI, hJ9⟩
 ·rintro f w16 ⟨s15, F3, Lf19, rfl, hs17, le18, ⟨_, rfl⟩, hJ20⟩
  have h207 := Cu h3
  refine Ac ?_
  refine Rg [0, 1, 2, 3, 4] ?_
  refine Vs 1 ?_
  refine Ld (hs17.pers _ _ ((le01.trans le18) _ _ hz0)) ?_
  refine Vs 1 ?_
  refine Vs 1 ?_
  obtain ⟨q208, hq209, h210⟩ := bind_some h207
  refine RWP.yield (dst := (some 79)) (ty := 4) (g := none) (by kernel_rfl) rfl (f0 := (.tmp 75)) (aos := #[(.tmp 78)]) (ats := #[97]) (l := l) (args := [(.agg #[(vi 0), (vi (z0.length : Int)), (.string ⟨(([] : SZ)).toArray⟩)])]) rfl rfl (hY s15.2 ({ kind_ := 0, at_ := (z0.length : Int), text_ := ([] : SZ) } : Ah) w16 F3 [] Lf19 q208 le18 trivial hJ20 hs17 hq209) ?_
  rintro _ w211 ⟨F16, Lf215, rfl, hs212, le213, hJ214⟩
  have hs216 : HS wb Fb w211 F16 Lf215 := hs212
  refine ⟨_, rfl, ?_⟩
  refine SC ?_
  have hfin := Ab h210
  subst hfin
  exact ⟨rfl, .tuple #[], AB (l := []) (by kernel_rfl) (vs := []) trivial, F16, Lf215, rfl, hs216, (le18.trans le213), hJ214⟩
section
variable {P : Program} {ro : Option Nat} {n : Nat} {R : Array Oper} {Q : Exit -> Fr -> World -> Prop} {w w0 : World} {F0 F : Mem} {L : Own} {f : Fr} {i : Nat} {rest : List Nat} {dst : Option Nat} {ty : TypeId} {g : Option (Nat × Bool)} {ρ : Operand -> Value}
theorem Ng {x : Operand} {q : FuncId} {cap : Array Value} {ats : Array TypeId} (hx : ρ x = .func (.func q) #[] cap) :
  (Ao ρ (.defer { callee := .value x, args := #[], argTypes := ats }) ty).run P w = .ok (.defer { target := .fn (.func q) cap, args := #[] }) w := by
 have e : Ao ρ (.defer { callee := .value x, args := #[], argTypes := ats }) ty = (do pure (Next.defer (<- Deferred.ofValue (ρ x) (Array.map ρ #[])))) := rfl
 rw [e, hx]
 simp [Deferred.ofValue]
theorem RWP.defer0 {x : Operand} {q : FuncId} {cap : Array Value} {ats : Array TypeId} (ho : opq R i = some (none, .defer { callee := .value x, args := #[], argTypes := ats }, ty, g)) (hg : gd R f g = true) (hx : fev f x = .func (.func q) #[] cap)
  (k : RWP P none n R Q rest ⟨f.v, { target := .fn (.func q) cap, args := #[] } :: f.d⟩ w) : RWP P none n R Q (i :: rest) f w := by
 intro hok a ha
 obtain ⟨o, hR, hd, hop, hty, hgd⟩ := B7 ho
 rw [wpOpsIn]
 simp only [hR]
 rw [ha.wanted R o, hgd, hg]
 simp only [if_true]
 refine ⟨Bl, ?_⟩
 show o.uponIn (FW none) 0 P a _ _ ((execOp a.eval o).run P w)
 rw [BZ, ha.evalF, hop, hty, Ng hx]
 simp only [Oper.uponIn]
 rw [hd]
 exact k hok _ ⟨ha.size, ha.at_, by simp [Act.put, ha.defers]⟩
theorem Jv {x : Operand} {t q : TypeId} {v : Value} (hx : ρ x = .iface q v) (hu : HN P q = true) :
  (Ao ρ (.typeAssert x t q true) ty).run P w = .ok (.value (.tuple #[v, .bool true])) w := by
 have e : Ao ρ (.typeAssert x t q true) ty = (do pure (Next.value (<- Instr.typeAssert (ρ x) t q true))) := rfl
 rw [e, hx]
 unfold HN at hu
 split at hu
 ·cases hu
 ·rename_i d h1 h2
  cases d <;> first | exact (h1 _ rfl).elim | simp [Instr.typeAssert, run_underlying h2, Result.andThen]
 ·cases hu
theorem FG {ops : Array Oper} {QS : Exit -> Act -> List Frame -> World -> Prop} {a : Act} {cs : List Frame} {d d2 : Nat} {ty ty2 : TypeId}
  (ho : opq ops 0 = some (some d, .call { callee := .builtin .recover, args := #[], argTypes := #[] }, ty, none)) (ho2 : opq ops 1 = some (some d2, .assign (.tmp d), ty2, none)) (hl : ops.size = 2) (hsz : d < a.tmps.size)
  (h : match recoverD cs with | some (v, cs') => QS .normal ((a.put (some d) v).put (some d2) v) cs' w | none => QS .normal ((a.put (some d) .nilIface).put (some d2) .nilIface) cs w) : wpOpsS P ops QS (List.range ops.size) a cs w := by
 rw [hl]
 obtain ⟨o, hR, hd, hop, hty, hgd⟩ := B7 ho
 obtain ⟨o2, hR2, hd2, hop2, hty2, hgd2⟩ := B7 ho2
 show wpOpsS P ops QS [0, 1] a cs w
 have step2 : ∀ (v : Value) (cs' : List Frame), QS .normal ((a.put (some d) v).put (some d2) v) cs' w -> wpOpsS P ops QS [1] (a.put (some d) v) cs' w := by
  intro v cs' hq
  simp only [wpOpsS, hR2]
  have hw : ∀ y, Region.wanted o2 y = true := fun y => by unfold Region.wanted; rw [hgd2]
  rw [if_pos (hw _)]
  have hev : (a.put (some d) v).eval (.tmp d) = v := by
   simp [Act.eval, Act.put, hsz]
  have hx : (execOp (a.put (some d) v).eval o2).run P w = .ok (.value v) w := by
   rw [BZ, hop2]
   exact Az (ρ := (a.put (some d) v).eval) hev
  rw [hx]
  simp only [Oper.upon]
  rw [hd2]; exact hq
 rw [wpOpsS]
 simp only [hR]
 have hw : Region.wanted o (yielded ops a.tmps) = true := by unfold Region.wanted; rw [hgd]
 rw [if_pos hw]
 have hx : (execOp a.eval o).run P w = .ok .recover w := by rw [BZ, hop]; rfl
 rw [hx]
 simp only
 cases hr : recoverD cs with
 | none => rw [hr] at h; simp only at h ⊢; rw [hd]; exact step2 _ _ h
 | some p => obtain ⟨v, cs'⟩ := p; rw [hr] at h; simp only at h ⊢; rw [hd]; exact step2 _ _ h
theorem QM {c : Code} {a : Act} {cs : List Frame} {Q' : Exit -> Fr -> World -> Prop} {QS : Exit -> Act -> List Frame -> World -> Prop} (h : CWP P none n c Q' f w) (hf : Dm n f a)
  (hq : ∀ e a' w', lq n Q' e a' w' -> QS e a' cs w') : c.wpS P QS a cs w := wpS_of_wp (wp_mono (wpIn_wide.1 (h a hf)) hq)
theorem PB {args : List Value} (hsz : decide (args.length <= n) = true) : Dm n (f0 args) { tmps := args.toArray ++ Array.replicate (n - args.toArray.size) undef, defers := [] } := by
 have hsz' : args.length <= n := by simpa using hsz
 refine ⟨?_, ?_, rfl⟩
 ·simp; omega
 ·intro i
  simp only [f0]
  rw [Array.getD_eq_getD_getElem?]
  by_cases hi : i < args.length
  ·simp [Array.getElem?_append, hi]
  ·rw [Array.getElem?_append_right (by simp; omega)]
   rw [List.getD_eq_getElem?_getD, List.getElem?_eq_none (by omega)]
   simp only [List.getElem?_toArray, Array.getElem?_replicate]
   split <;> rfl
end
section
variable {wb w : World} {Fb F : Mem} {Lf : Own}
theorem QF : ∃ id ops, cs1 (Cb Tryz.f131) = .region id ops false /\ Cb Tryz.f131 = .seq (cs1 (Cb Tryz.f131)) (cs2 (Cb Tryz.f131)) := ⟨_, _, rfl, rfl⟩
theorem Jg {Q : Exit -> Act -> List Frame -> World -> Prop} {a : Act} {cs : List Frame} {w : World} (h : wpOpsS Tryz.prog (DR (cs1 (Cb Tryz.f131))) (Exit.thenS ((cs2 (Cb Tryz.f131)).wpS Tryz.prog Q) Q) (List.range (DR (cs1 (Cb Tryz.f131))).size) a cs w) : (Cb Tryz.f131).wpS Tryz.prog Q a cs w := by
 obtain ⟨id, ops, h1, h2⟩ := QF
 rw [h2]
 refine wpS_seq ?_
 rw [h1] at h ⊢
 exact wpS_region h
abbrev GZ (b : Af) : Value := .agg #[.int .i64 b.e_, .int .i64 b.at_]
abbrev be (v : Int) : Obj := .cells #[.int .i64 v] 27 (0, 0)
abbrev ba (v : Int) : Obj := .cells #[.int .i64 v] 3 (0, 0)
abbrev FM (b c : Nat) : List Value := [.pointer (some ⟨b, 0, none⟩), .pointer (some ⟨c, 0, none⟩)]
theorem MQ {b c : Nat} : CallsD Tryz.prog 131 (FM b c).toArray .returning w fun e u' w' => u' = .returning /\ e = .returned (.tuple #[]) /\ w' = w := by
 refine callsD_of_wpS (fn := Tryz.f131) (c := Cb Tryz.f131) Tryz.func131 (by kernel_rfl) fun c0 cs hu => Jg (FG (d := 5) (d2 := 2) (ty := 20) (ty2 := 20) (by kernel_rfl) (by kernel_rfl) (by kernel_rfl) (by rw [show Tryz.f131.ntmps = 20 from by kernel_rfl]; simp) ?_)
 have hr : recoverD (c0 :: cs) = none := by simp [recoverD, hu]
 rw [hr]
 simp only
 refine QM (n := 20) (f := upd (upd (f0 (FM b c)) 5 .nilIface) 2 .nilIface) (Q' := fun e f w' => e = .normal /\ w' = w /\ f.d = []) ?_ (((PB (n := 20) (args := FM b c) rfl).put (dst := some 5) (by decide) .nilIface).put (dst := some 2) (by decide) .nilIface) ?_
 ·refine Sq ?_
  refine Rg [0, 1] ?_
  refine V 6 20 (AL (x := .tmp 2) (v := .nilIface) rfl) ?_
  refine V 7 4 (Hk (t := 20) (t' := 20) (x := .tmp 6) (c := .nilIface) (b := false) (v := .nilIface) rfl rfl rfl (by kernel_rfl)) ?_
  refine SC ?_
  refine Ac ?_
  refine CWP.cond0 (t := false) (by kernel_rfl) rfl rfl ?_
  exact CWP.skip (by kernel_rfl) ⟨rfl, rfl, rfl⟩
 ·rintro e a' w' ⟨f, hf, rfl, rfl, hd⟩
  refine ⟨hf.defers.trans hd, .returning, by rw [<- hu], .tuple #[], ?_, rfl, rfl, rfl⟩
  rw [hf.results Tryz.f131]
  exact AB (l := []) (by kernel_rfl) (vs := []) trivial
theorem MR {b c : Nat} {x : Af} (hs : HS wb Fb w F ((some c, ba 0) :: (some b, be 0) :: Lf)) :
  CallsD Tryz.prog 131 (FM b c).toArray (.panicking [{ v := .iface 158 (GZ x), recovered := false }]) w fun e u' w' =>
   settle u' = .returning /\ e = .returned (.tuple #[]) /\ HS wb Fb w' F ((some c, ba x.at_) :: (some b, be x.e_) :: Lf) := by
 refine callsD_of_wpS (fn := Tryz.f131) (c := Cb Tryz.f131) Tryz.func131 (by kernel_rfl) fun c0 cs hu => Jg (FG (d := 5) (d2 := 2) (ty := 20) (ty2 := 20) (by kernel_rfl) (by kernel_rfl) (by kernel_rfl) (by rw [show Tryz.f131.ntmps = 20 from by kernel_rfl]; simp) ?_)
 have hr : recoverD (c0 :: cs) = some (.iface 158 (GZ x), { c0 with mode := .panicking [{ v := .iface 158 (GZ x), recovered := true }] } :: cs) := by simp [recoverD, hu]
 rw [hr]
 simp only
 refine QM (n := 20) (f := upd (upd (f0 (FM b c)) 5 (.iface 158 (GZ x))) 2 (.iface 158 (GZ x))) (Q' := fun e f w' => e = .normal /\ f.d = [] /\ HS wb Fb w' F ((some c, ba x.at_) :: (some b, be x.e_) :: Lf)) ?_ (((PB (n := 20) (args := FM b c) rfl).put (dst := some 5) (by decide) _).put (dst := some 2) (by decide) _) ?_
 ·refine Sq ?_
  refine Rg [0, 1] ?_
  refine V 6 20 (AL (x := .tmp 2) (v := .iface 158 (GZ x)) rfl) ?_
  refine V 7 4 (Hk (t := 20) (t' := 20) (x := .tmp 6) (c := .nilIface) (b := true) (v := .iface 158 (GZ x)) ⟨_, _, rfl⟩ rfl rfl (by kernel_rfl)) ?_
  refine SC ?_
  refine Ac ?_
  refine CWP.cond1 (t := true) (by kernel_rfl) rfl rfl ?_
  refine Sq ?_
  refine Rg [0, 1, 2, 3, 4, 5, 6, 7] ?_
  refine V 9 20 (AL (x := .tmp 2) (v := .iface 158 (GZ x)) rfl) ?_
  refine V 10 159 (Jv (x := .tmp 9) (t := 20) (q := 158) (v := GZ x) rfl (by kernel_rfl)) ?_
  refine V 8 159 (AL (x := .tmp 10) (v := .tuple #[GZ x, .bool true]) rfl) ?_
  refine V 11 158 (BH (x := .tmp 8) (vs := #[GZ x, .bool true]) (i := 0) (v := GZ x) rfl rfl) ?_
  refine V 12 4 (BH (x := .tmp 8) (vs := #[GZ x, .bool true]) (i := 1) (v := .bool true) rfl rfl) ?_
  refine SO (dst := some 3) (ty := 0) (g := none) (by kernel_rfl) rfl (t := 158) (z := .agg #[.int .i64 0, .int .i64 0]) (by kernel_rfl) (C := #[.int .i64 0, .int .i64 0]) rfl hs (fun b3 w3 hs3 => ?_)
  refine SP (ty := 0) (g := none) (by kernel_rfl) rfl (x := .tmp 3) (y := .tmp 11) (t := 158) (gg := true) (s := 2) (v := GZ x) (b := b3) (o := 0) (C := #[.int .i64 0, .int .i64 0]) rfl rfl (by kernel_rfl) hs3 (k := 0) rfl rfl rfl rfl (C' := #[.int .i64 x.e_, .int .i64 x.at_]) rfl (fun w4 (hs4 : HS wb Fb w4 F ((some b3, .cells #[.int .i64 x.e_, .int .i64 x.at_] 158 (0, 0)) :: (some c, ba 0) :: (some b, be 0) :: Lf)) => ?_)
  refine V 4 4 (Az (x := .tmp 12) (v := .bool true) rfl) ?_
  refine SC ?_
  refine Ac ?_
  refine Sq ?_
  refine Sq ?_
  refine Rg [0, 1] ?_
  refine V 13 4 (AL (x := .tmp 4) (v := .bool true) rfl) ?_
  refine V 14 4 (LI (t := 4) (x := .tmp 13) (a := true) rfl) ?_
  refine SC ?_
  refine Ac ?_
  refine CWP.cond0 (t := false) (by kernel_rfl) rfl rfl ?_
  refine CWP.skip (by kernel_rfl) ?_
  refine Ac ?_
  refine CWP.regionD (by kernel_rfl) (by kernel_rfl) (by kernel_rfl) (by kernel_rfl) (z := 6) (F := F) (Lc := [(some b3, .cells #[.int .i64 x.e_, .int .i64 x.at_] 158 (0, 0))]) (Lz := []) (l := [false, false, false, false, false, false]) (fuel := 6) (by kernel_rfl) (by kernel_rfl) hs4 (by simp) (by simp) (fun f w' => f.d = [] /\ HS wb Fb w' F ((some c, ba x.at_) :: (some b, be x.e_) :: Lf)) (fun wd hw => ?_) (fun f w' h => ⟨rfl, h.1, h.2⟩)
  refine SR (i := 0) (v := .pointer (some ⟨b3, 0, none⟩)) (zd := true) (dst := some 16) (ty := 0) (g := none) (by kernel_rfl) (by kernel_rfl) (by kernel_rfl) (by kernel_rfl) (by kernel_rfl) rfl (fun wq hq => BX (s := 158) (x := .tmp 3) (i := 0) (o := 0) (k := 1) (b := b3) (o0 := 0) rfl (by kernel_rfl) rfl (o1 := 0) rfl) (l' := [true, false, false, false, false, false]) (by kernel_rfl) ?_
  refine SR (i := 1) (v := .int .i64 x.e_) (zd := true) (dst := some 17) (ty := 27) (g := none) (by kernel_rfl) (by kernel_rfl) (by kernel_rfl) (by kernel_rfl) (by kernel_rfl) rfl (fun wq hq => B6 (t := 27) (x := .tmp 16) (b := b3) (o := 0) (g := false) (s := 1) (C := #[.int .i64 x.e_, .int .i64 x.at_]) (v := .int .i64 x.e_) rfl (by kernel_rfl) (hq.1.2 0 _ _ rfl) rfl rfl rfl) (l' := [true, true, false, false, false, false]) (by kernel_rfl) ?_
  refine SR (i := 2) (v := .pointer (some ⟨b3, 1, none⟩)) (zd := true) (dst := some 18) (ty := 0) (g := none) (by kernel_rfl) (by kernel_rfl) (by kernel_rfl) (by kernel_rfl) (by kernel_rfl) rfl (fun wq hq => BX (s := 158) (x := .tmp 3) (i := 1) (o := 1) (k := 1) (b := b3) (o0 := 0) rfl (by kernel_rfl) rfl (o1 := 1) rfl) (l' := [true, true, true, false, false, false]) (by kernel_rfl) ?_
  refine SR (i := 3) (v := .int .i64 x.at_) (zd := true) (dst := some 19) (ty := 3) (g := none) (by kernel_rfl) (by kernel_rfl) (by kernel_rfl) (by kernel_rfl) (by kernel_rfl) rfl (fun wq hq => B6 (t := 3) (x := .tmp 18) (b := b3) (o := 1) (g := false) (s := 1) (C := #[.int .i64 x.e_, .int .i64 x.at_]) (v := .int .i64 x.at_) rfl (by kernel_rfl) (hq.1.2 0 _ _ rfl) rfl rfl rfl) (l' := [true, true, true, true, false, false]) (by kernel_rfl) ?_
  refine SS (i := 4) (by kernel_rfl) ?_
  refine Ay.store (l' := [true, true, true, true, true, false]) (zd := true) (by kernel_rfl) (by kernel_rfl) (ty := 0) (g := none) (by kernel_rfl) rfl (x := .tmp 0) (y := .tmp 17) (t := 27) (v := .int .i64 x.e_) (gg := false) (s := 1) (b := b) (o := 0) (C := #[.int .i64 0]) rfl rfl (by kernel_rfl) hw (k := 2) rfl rfl rfl rfl (C' := #[.int .i64 x.e_]) rfl (SH _) (by simp) (fun e => by cases e) (fun w5 (hs5 : HS wb Fb w5 F ((some b3, .cells #[.int .i64 x.e_, .int .i64 x.at_] 158 (0, 0)) :: (some c, ba 0) :: (some b, be x.e_) :: Lf)) => ?_)
  refine SS (i := 5) (by kernel_rfl) ?_
  refine Ay.store (l' := [true, true, true, true, true, true]) (zd := true) (by kernel_rfl) (by kernel_rfl) (ty := 0) (g := none) (by kernel_rfl) rfl (x := .tmp 1) (y := .tmp 19) (t := 3) (v := .int .i64 x.at_) (gg := false) (s := 1) (b := c) (o := 0) (C := #[.int .i64 0]) rfl rfl (by kernel_rfl) hs5 (k := 1) rfl rfl rfl rfl (C' := #[.int .i64 x.at_]) rfl (SH _) (by simp) (fun e => by cases e) (fun w6 (hs6 : HS wb Fb w6 F ((some b3, .cells #[.int .i64 x.e_, .int .i64 x.at_] 158 (0, 0)) :: (some c, ba x.at_) :: (some b, be x.e_) :: Lf)) => ?_)
  exact SV (by kernel_rfl) ⟨rfl, hs6.drop 0⟩
 ·rintro e a' w' ⟨f, hf, rfl, hd, hs'⟩
  refine ⟨hf.defers.trans hd, _, rfl, .tuple #[], ?_, rfl, rfl, hs'⟩
  rw [hf.results Tryz.f131]
  exact AB (l := []) (by kernel_rfl) (vs := []) trivial
theorem Py (b c : Nat) (w' : World) : (invoke (.fn (.func 131) (FM b c).toArray) #[]).run Tryz.prog w' = .ok (.enter 131 (FM b c).toArray) w' := by
 have co : Aq Tryz.prog 131 := fun _ _ => by kernel_rfl
 simp only [invoke]; rw [co]; rfl
def CD (N : Nat) (s : SZ) : Option (List Ah) := Iq (fun {_} y st => En N y s (fun y0 y1 y2 => B0 N y0 y1 y2 s) st)
theorem Hd : Aq Tryz.prog 78 := fun _ _ => by kernel_rfl
theorem IA (N : Nat) (hs : HS wb Fb w F Lf) (s : SZ) {g : FuncId} {cap : List Value} (hok : Aq Tryz.prog g) (K : Option Af -> Mem -> Own -> Prop) (hlong : decide ((s.length : Int) > 65536) = true -> ∀ F', K (some ⟨2, 0⟩) F' Lf)
  (hrun : decide ((s.length : Int) > 65536) = false -> ∃ l, CD N s = some l /\ ∀ w1 F1 be_ ba_ bp a n, SG F F1 -> LC l.length n -> SlA Ag F1 a l -> HS wb Fb w1 F1 ((some bp, .cells #[.slice a l.length n, .int .i64 0] 100 (0, 0)) :: (some ba_, ba 0) :: (some be_, be 0) :: Lf) ->
   Calls Tryz.prog g (.pointer (some ⟨bp, 0, none⟩) :: cap).toArray w1 (fun e w2 =>
   (∃ v F2 Lf2, e = .returned v /\ HS wb Fb w2 F2 ((some ba_, ba 0) :: (some be_, be 0) :: Lf2) /\ SG F1 F2 /\ K none F2 Lf2) \/
   (∃ x F2 Lf2, e = .panicked [{ v := .iface 158 (GZ x), recovered := false }] /\ HS wb Fb w2 F2 ((some ba_, ba 0) :: (some be_, be 0) :: Lf2) /\ SG F1 F2 /\ K (some x) F2 Lf2))) :
  Calls Tryz.prog 78 ([.string ⟨s.toArray⟩, .func (.func g) #[] cap.toArray] : List Value).toArray w (fun e w' => ∃ o F' Lf', e = .returned (match o with | none => .tuple #[.int .i64 0, .int .i64 0] | some x => .tuple #[.int .i64 x.e_, .int .i64 x.at_]) /\ HS wb Fb w' F' Lf' /\ SG F F' /\ K o F' Lf') := by
 refine calls_of_wp_defers (fn := Tryz.f78) (c := Cb Tryz.f78) Tryz.func78 (by kernel_rfl) ?_
 have key : CWP Tryz.prog none 17 (Cb Tryz.f78) (fun e f w' => ∃ b c F' Lf', f 4 = .pointer (some ⟨b, 0, none⟩) /\ f 5 = .pointer (some ⟨c, 0, none⟩) /\ SG F F' /\
   ((e = .ret /\ f.d = [] /\ HS wb Fb w' F' ((some c, ba 0) :: (some b, be 2) :: Lf') /\ K (some ⟨2, 0⟩) F' Lf') \/
   (e = .ret /\ f.d = [{ target := .fn (.func 131) (FM b c).toArray, args := #[] }] /\ HS wb Fb w' F' ((some c, ba 0) :: (some b, be 0) :: Lf') /\ K none F' Lf') \/
   (∃ x, e = .panic [{ v := .iface 158 (GZ x), recovered := false }] /\ f.d = [{ target := .fn (.func 131) (FM b c).toArray, args := #[] }] /\ HS wb Fb w' F' ((some c, ba 0) :: (some b, be 0) :: Lf') /\ K (some x) F' Lf'))) (f0 [.string ⟨s.toArray⟩, .func (.func g) #[] cap.toArray]) w := by
  refine Sq ?_
  refine Rg [0, 1] ?_
  refine SO (dst := some 4) (ty := 0) (g := none) (by kernel_rfl) rfl (t := 27) (z := .int .i64 0) (by kernel_rfl) (C := #[.int .i64 0]) rfl hs (fun b w2 hs2 => ?_)
  refine SO (dst := some 5) (ty := 0) (g := none) (by kernel_rfl) rfl (t := 3) (z := .int .i64 0) (by kernel_rfl) (C := #[.int .i64 0]) rfl hs2 (fun c w3 hs3 => ?_)
  refine SC ?_
  refine Ac ?_
  refine Sq ?_
  refine Sq ?_
  refine Rg [0, 1, 2] ?_
  refine V 6 9 (AL (x := .tmp 0) (v := .string ⟨s.toArray⟩) rfl) ?_
  refine V 7 3 (Mo (x := .tmp 6) (ats := #[9]) (t := 9) (a := s) rfl rfl (by kernel_rfl)) ?_
  refine V 8 4 (NX (t := 3) (t' := 3) (x := .tmp 7) (y := .const (.int .i64 65536)) (k := .i64) (a := (s.length : Int)) (b := 65536) rfl rfl) ?_
  refine SC ?_
  refine Ac ?_
  refine CWP.cond (t := decide ((s.length : Int) > 65536)) (by kernel_rfl) rfl (fun hc => ?_) (fun hc => ?_)
  ·refine Sq ?_
   refine Rg [0, 1] ?_
   refine SP (ty := 0) (g := none) (by kernel_rfl) rfl (x := .tmp 4) (y := .const (.int .i64 2)) (t := 27) (gg := false) (s := 1) (v := .int .i64 2) (b := b) (o := 0) (C := #[.int .i64 0]) rfl rfl (by kernel_rfl) hs3 (k := 1) rfl rfl rfl rfl (C' := #[.int .i64 2]) rfl (fun w4 hs4 => ?_)
   refine SP (ty := 0) (g := none) (by kernel_rfl) rfl (x := .tmp 5) (y := .const (.int .i64 0)) (t := 3) (gg := false) (s := 1) (v := .int .i64 0) (b := c) (o := 0) (C := #[.int .i64 0]) rfl rfl (by kernel_rfl) hs4 (k := 0) rfl rfl rfl rfl (C' := #[.int .i64 0]) rfl (fun w5 hs5 => ?_)
   refine SC ?_
   refine Ac ?_
   refine CWP.ret (by kernel_rfl) ?_
   exact ⟨b, c, F, Lf, rfl, rfl, SH F, .inl ⟨rfl, rfl, hs5, hlong hc F⟩⟩
  ·obtain ⟨l, hl, hrun⟩ := hrun hc
   refine CWP.skip (by kernel_rfl) ?_
   refine Ac ?_
   refine Sq ?_
   refine Rg [0, 1] ?_
   refine V 9 1 (CJ (fn := .func 131) (first := #[]) (cap := #[.tmp 4, .tmp 5]) (fl := []) (cl := FM b c) rfl rfl) ?_
   refine RWP.defer0 (ty := 0) (g := none) (x := .tmp 9) (q := 131) (cap := (FM b c).toArray) (ats := #[]) (by kernel_rfl) rfl rfl ?_
   refine SC ?_
   refine Ac ?_
   refine Sq ?_
   refine Rg [0, 1, 2, 3, 4, 5, 6] ?_
   refine V 10 103 (AL (x := .tmp 1) (v := .func (.func g) #[] cap.toArray) rfl) ?_
   refine V 11 9 (AL (x := .tmp 0) (v := .string ⟨s.toArray⟩) rfl) ?_
   refine RWP.call (dst := some 12) (ty := 162) (g := none) (by kernel_rfl) rfl (f0 := .func 133) (aos := #[.tmp 11]) (ats := #[9]) (fid := 133) (first := #[]) (cap := #[]) (args := [.string ⟨s.toArray⟩]) rfl JA rfl hs3 (Ky w3 F hs3.pers s) ?_
   rintro _ F1 w4 hs4 le4 ⟨b1, b2, rfl, hb1, hb2⟩
   refine RWP.call (dst := some 13) (ty := 98) (g := none) (by kernel_rfl) rfl (f0 := .func 132) (aos := #[.tmp 12]) (ats := #[162]) (fid := 132) (first := #[]) (cap := #[]) (args := [.func (.func 181) #[] #[.pointer (some ⟨b1, 0, none⟩), .pointer (some ⟨b2, 0, none⟩)]]) rfl Ir rfl hs4
    (I5 w4 F1 hs4.pers 181 [.pointer (some ⟨b1, 0, none⟩), .pointer (some ⟨b2, 0, none⟩)] (fun {_} y st => En N y s (fun y0 y1 y2 => B0 N y0 y1 y2 s) st) Is
     (I6 N F1 s b1 hb1 (fun y0 y1 y2 => B0 N y0 y1 y2 s) 180 [] [.pointer (some ⟨b1, 0, none⟩)] It (fun w1 F2 y0 y1 y2 r le1 pe1 hr1 => I7 N w1 F2 pe1 y0 y1 y2 b1 s (le1 _ _ hb1) r hr1) b2 hb2) l hl) ?_
   rintro _ F2 w5 hs5 le5 ⟨a, n, rfl, hb, hsl⟩
   refine V 14 100 (Ft (t := 100) (parts := #[(0, .tmp 13)]) (vs := [(0, .slice a l.length n)]) rfl (cs := [.slice a l.length n, .int .i64 0]) (by kernel_rfl)) ?_
   refine RWP.box (dst := some 15) (ty := 95) (g := none) (by kernel_rfl) rfl (x := .tmp 14) (t := 100) (v := .agg #[.slice a l.length n, .int .i64 0]) rfl (C := #[.slice a l.length n, .int .i64 0]) rfl hs5 (fun bp w6 hs6 => ?_)
   refine SE (dst := some 16) (ty := 0) (g := none) (by kernel_rfl) rfl (C8 (f := .tmp 10) (aos := #[.tmp 15]) (ats := #[95]) (g := g) (first := #[]) (cap := cap.toArray) (args := .pointer (some ⟨bp, 0, none⟩) :: cap) rfl hok (by simp; rfl)) (hrun _ F2 b c bp a n (le4.trans le5) hb hsl hs6) ?_
   rintro e w7 (⟨v, F3, Lf2, rfl, hs7, hle, hK⟩ | ⟨x, F3, Lf2, rfl, hs7, hle, hK⟩)
   ·refine SC ?_
    refine Ac ?_
    refine Sq ?_
    refine Rg [0, 1] ?_
    refine SP (ty := 0) (g := none) (by kernel_rfl) rfl (x := .tmp 4) (y := .const (.int .i64 0)) (t := 27) (gg := false) (s := 1) (v := .int .i64 0) (b := b) (o := 0) (C := #[.int .i64 0]) rfl rfl (by kernel_rfl) hs7 (k := 1) rfl rfl rfl rfl (C' := #[.int .i64 0]) rfl (fun w8 hs8 => ?_)
    refine SP (ty := 0) (g := none) (by kernel_rfl) rfl (x := .tmp 5) (y := .const (.int .i64 0)) (t := 3) (gg := false) (s := 1) (v := .int .i64 0) (b := c) (o := 0) (C := #[.int .i64 0]) rfl rfl (by kernel_rfl) hs8 (k := 0) rfl rfl rfl rfl (C' := #[.int .i64 0]) rfl (fun w9 hs9 => ?_)
    refine SC ?_
    refine Ac ?_
    refine CWP.ret (by kernel_rfl) ?_
    exact ⟨b, c, F3, Lf2, rfl, rfl, (le4.trans le5).trans hle, .inr (.inl ⟨rfl, rfl, hs9, hK⟩)⟩
   ·exact ⟨b, c, F3, Lf2, rfl, rfl, (le4.trans le5).trans hle, .inr (.inr ⟨x, rfl, rfl, hs7, hK⟩)⟩
 refine wp_mono (wpIn_wide.1 (key _ (PB (n := 17) (args := [.string ⟨s.toArray⟩, .func (.func g) #[] cap.toArray]) rfl))) ?_
 have hres : ∀ {f : Fr} {b c : Nat} {v u : Int} {w' : World} {F' : Mem} {L' : Own}, f 4 = .pointer (some ⟨b, 0, none⟩) -> f 5 = .pointer (some ⟨c, 0, none⟩) -> HS wb Fb w' F' ((some c, ba u) :: (some b, be v) :: L') -> (Cf Tryz.f78.results f).run Tryz.prog w' = .ok (.tuple #[.int .i64 v, .int .i64 u]) w' := by
  intro f b c v u w' F' L' hf hf5 hs'
  exact AB (l := [.cell 4 27, .cell 5 3]) (by kernel_rfl) (vs := [.int .i64 v, .int .i64 u]) ⟨b, 0, hf, Ak (t := 27) (g := false) (s := 1) (by kernel_rfl) (hs'.ownAt (k := 1) rfl) rfl (by decide), c, 0, hf5, Ak (t := 3) (g := false) (s := 1) (by kernel_rfl) (hs'.ownAt (k := 0) rfl) rfl (by decide), trivial⟩
 rintro e a w' ⟨f, hf, b, c, F', Lf', h4, h5, hle, (⟨rfl, hd, hs', hK⟩ | ⟨rfl, hd, hs', hK⟩ | ⟨x, rfl, hd, hs', hK⟩)⟩
 ·show Leaves _ _ _ _ _ _ _
  rw [hf.defers, hd]
  exact ⟨_, by rw [hf.results Tryz.f78]; exact hres h4 h5 hs', some ⟨2, 0⟩, F', Lf', rfl, (hs'.drop 0).drop 0, hle, hK⟩
 ·show Leaves _ _ _ _ _ _ _
  rw [hf.defers, hd]
  refine ⟨by simp, _, _, 131, _, rfl, Py b c w', ?_⟩
  intro c0 cs hc0
  obtain ⟨e, u', w2, fr, hR, hrest⟩ := MQ (w := w') (b := b) (c := c) c0 cs hc0
  refine ⟨e, u', w2, fr, ?_, hrest⟩
  obtain ⟨rfl, rfl, rfl⟩ := hR
  show Leaves _ _ _ _ _ _ _
  exact ⟨_, by rw [hf.results Tryz.f78]; exact hres h4 h5 hs', none, F', Lf', rfl, (hs'.drop 0).drop 0, hle, hK⟩
 ·show Leaves _ _ _ _ _ _ _
  rw [hf.defers, hd]
  refine ⟨by simp, _, _, 131, _, rfl, Py b c w', ?_⟩
  intro c0 cs hc0
  obtain ⟨e, u', w2, fr, hR, hrest⟩ := MR (w := w') (b := b) (c := c) (x := x) hs' c0 cs hc0
  refine ⟨e, u', w2, fr, ?_, hrest⟩
  obtain ⟨hu, rfl, hs2⟩ := hR
  show Leaves _ _ _ _ _ _ _
  rw [hu]
  exact ⟨_, by rw [hf.results Tryz.f78]; exact hres h4 h5 hs2, some x, F', Lf', rfl, (hs2.drop 0).drop 0, hle, hK⟩
end
def CY (N : Nat) (x0 : Int) : Option Bool :=
 some ((decide (x0 >= 48)) && (decide (x0 <= 57)))
def CX (N : Nat) (x0 : Int) : Option Bool :=
 some ((decide (x0 >= 97)) && (decide (x0 <= 122)))
def EX (N : Nat) (x0 : Int) : Int -> Option (Bn Bool Int) := fun s24 =>
 (bif (decide (s24 < 9)) then ((ET ([40, 41, 44, 58, 61, 60, 43, 45, 42] : SZ) s24).bind fun c45 => (bif (c45 == x0) then some (.ret true) else some (.next (W64 (s24 + 1))))) else some (.done s24))
def Hl (N : Nat) (x0 : Int) : Option Bool :=
 ((AX (EX N x0) N 0).bind fun o => o.k (fun r => some r) (fun s31 => some false))
def FL (N : Nat) (x0 : SZ) (s26 : (List Ae × Int)) (j53 : Bool) (c75 : Int) (r78 : Bool) : Int -> Option (Bn (List Ae) Int) := fun s102 =>
 ((bif (decide (s102 < (x0.length : Int))) then ((ET x0 s102).bind fun c141 => ((CY N c141).bind fun r144 => some r144)) else some false).bind fun j129 => (bif j129 then some (.next (W64 (s102 + 1))) else some (.done s102)))
def FK (N : Nat) (x0 : SZ) (s26 : (List Ae × Int)) (j53 : Bool) (c75 : Int) (r78 : Bool) (c175 : Int) (r178 : Bool) : Int -> Option (Bn (List Ae) Int) := fun s202 =>
 ((bif (decide (s202 < (x0.length : Int))) then ((ET x0 s202).bind fun c241 => ((CX N c241).bind fun r244 => some r244)) else some false).bind fun j229 => (bif j229 then some (.next (W64 (s202 + 1))) else some (.done s202)))
def Bg (N : Nat) (x0 : SZ) : (List Ae × Int) -> Option (Bn (List Ae) (List Ae × Int)) := fun s26 =>
 (bif (decide (s26.2 < (x0.length : Int))) then (((ET x0 s26.2).bind fun c62 => (bif (c62 == 32) then some true else ((ET x0 s26.2).bind fun c68 => some (c68 == 9)))).bind fun j53 => (bif j53 then some (.next (s26.1, (W64 (s26.2 + 1)))) else ((ET x0 s26.2).bind fun c75 => ((CY N c75).bind fun r78 => ((bif r78 then ((AX (FL N x0 s26 j53 c75 r78) N s26.2).bind fun o => o.k (fun r => none) (fun s111 => ((FV x0 s26.2 s111).bind fun r158 => ((C4 s26.1 [({ Kind := 1, At := s26.2, Text := r158 } : Ae)]).bind fun r166 => some (r166, s111))))) else ((ET x0 s26.2).bind fun c175 => ((CX N c175).bind fun r178 => ((bif r178 then ((AX (FK N x0 s26 j53 c75 r78 c175 r178) N s26.2).bind fun o => o.k (fun r => none) (fun s211 => ((FV x0 s26.2 s211).bind fun r258 => ((C4 s26.1 [({ Kind := 2, At := s26.2, Text := r258 } : Ae)]).bind fun r266 => some (r266, s211))))) else ((ET x0 s26.2).bind fun c275 => ((bif (c275 == 10) then ((C4 s26.1 [({ Kind := 4, At := s26.2, Text := ([10] : SZ) } : Ae)]).bind fun r296 => some (r296, (W64 (s26.2 + 1)))) else (((ET x0 s26.2).bind fun c317 => (bif (c317 == 61) then (bif (decide ((W64 (s26.2 + 1)) < (x0.length : Int))) then ((ET x0 (W64 (s26.2 + 1))).bind fun c326 => some (c326 == 62)) else some false) else some false)).bind fun j308 => ((bif j308 then ((C4 s26.1 [({ Kind := 3, At := s26.2, Text := ([61, 62] : SZ) } : Ae)]).bind fun r347 => some (r347, (W64 (s26.2 + 2)))) else ((ET x0 s26.2).bind fun c356 => ((Hl N c356).bind fun r359 => ((bif r359 then ((FV x0 s26.2 (W64 (s26.2 + 1))).bind fun r380 => ((C4 s26.1 [({ Kind := 3, At := s26.2, Text := r380 } : Ae)]).bind fun r388 => some r388)) else ((FV x0 s26.2 (W64 (s26.2 + 1))).bind fun r397 => ((C4 s26.1 [({ Kind := 0, At := s26.2, Text := r397 } : Ae)]).bind fun r405 => some r405))).bind fun j370 => some (j370, (W64 (s26.2 + 1))))))).bind fun j332 => some (j332.1, j332.2)))).bind fun j281 => some (j281.1, j281.2)))).bind fun j189 => some (j189.1, j189.2))))).bind fun j89 => some (.next (j89.1, j89.2))))))) else some (.done (s26.1, s26.2)))
def Fv (N : Nat) (x0 : SZ) : Option (List Ae) :=
 ((AX (Bg N x0) N (([] : List Ae), 0)).bind fun o => o.k (fun r => some r) (fun s34 => ((C4 s34.1 [({ Kind := 5, At := (x0.length : Int), Text := ([] : SZ) } : Ae)]).bind fun r422 => some r422)))
section
variable {ρ₁ ρ₂ σ₁ σ₂ : Type}
theorem Pv {b1 : σ₁ -> Option (Bn ρ₁ σ₁)} {b2 : σ₂ -> Option (Bn ρ₂ σ₂)} (I : Nat -> σ₁ -> σ₂ -> Prop) (R : Bn ρ₁ σ₁ -> Bn ρ₂ σ₂ -> Prop)
  (h : ∀ m s t, I m s t -> (∃ m' s' t', m' < m /\ b1 s = some (.next s') /\ b2 t = some (.next t') /\ I m' s' t') \/
   (∃ o1 o2, b1 s = some o1 /\ (∀ s', o1 ≠ .next s') /\ b2 t = some o2 /\ (∀ t', o2 ≠ .next t') /\ R o1 o2) \/
   (∃ o1 t' o2, b1 s = some o1 /\ (∀ s', o1 ≠ .next s') /\ b2 t = some (.next t') /\ b2 t' = some o2 /\ (∀ t', o2 ≠ .next t') /\ R o1 o2)) :
  ∀ (m N1 N2 : Nat) (s : σ₁) (t : σ₂), I m s t -> m + 2 <= N1 -> m + 2 <= N2 -> ∃ o1 o2, AX b1 N1 s = some o1 /\ AX b2 N2 t = some o2 /\ R o1 o2 := by
 intro m
 induction m using Nat.strongRecOn with
 | _ m ih =>
  intro N1 N2 s t hI h1 h2
  obtain ⟨n1, rfl⟩ : ∃ n, N1 = n + 2 := ⟨N1 - 2, by omega⟩
  obtain ⟨n2, rfl⟩ : ∃ n, N2 = n + 2 := ⟨N2 - 2, by omega⟩
  have fin : ∀ {ρ σ : Type} {b : σ -> Option (Bn ρ σ)} {n : Nat} {s : σ} {o : Bn ρ σ}, b s = some o -> (∀ s', o ≠ .next s') -> AX b (n + 1) s = some o := by
   intro ρ σ b n s o hb ho
   rw [AX, hb]
   cases o with
   | next s' => exact absurd rfl (ho s')
   | done s' => rfl
   | ret r => rfl
  rcases h m s t hI with ⟨m', s', t', hlt, e1, e2, hI'⟩ | ⟨o1, o2, e1, n1', e2, n2', hR⟩ | ⟨o1, t', o2, e1, n1', e2, e3, n3', hR⟩
  ·obtain ⟨o1, o2, r1, r2, hR⟩ := ih m' hlt (n1 + 1) (n2 + 1) s' t' hI' (by omega) (by omega)
   refine ⟨o1, o2, ?_, ?_, hR⟩
   ·rw [AX, e1]; exact r1
   ·rw [AX, e2]; exact r2
  ·exact ⟨o1, o2, fin e1 n1', fin e2 n2', hR⟩
  ·refine ⟨o1, o2, fin e1 n1', ?_, hR⟩
   rw [AX, e2]; exact fin e3 n3'
end
def EF (p : UInt8 -> Bool) (s : SZ) (i : Nat) : Nat := i + ((s.drop i).takeWhile p).length
theorem Hz {p : UInt8 -> Bool} : ∀ {l : SZ} {j : Nat}, j < (l.takeWhile p).length -> (l[j]?.map p).getD false = true
 | [], j, h => by simp at h
 | a :: l, j, h => by
  rw [List.takeWhile_cons] at h
  cases hp : p a with
  | false => rw [hp] at h; simp at h
  | true =>
   rw [hp] at h
   cases j with
   | zero => simp [hp]
   | succ j => simp at h; simpa using Hz (l := l) (j := j) h
theorem G6 {p : UInt8 -> Bool} : ∀ (l : SZ), (l[(l.takeWhile p).length]?.map p).getD false = false
 | [] => rfl
 | a :: l => by
  rw [List.takeWhile_cons]
  cases hp : p a with
  | false => simp [hp]
  | true => simpa using G6 l
theorem HD {p : UInt8 -> Bool} {s : SZ} {i : Nat} (hi : i <= s.length) : i <= EF p s i /\ EF p s i <= s.length := by
 unfold EF
 have : ((s.drop i).takeWhile p).length <= (s.drop i).length := (List.takeWhile_sublist _).length_le
 rw [List.length_drop] at this
 omega
theorem Ot {p : UInt8 -> Bool} {s : SZ} {i : Nat} {c : UInt8} (hc : s[i]? = some c) (hp : p c = true) : i < EF p s i := by
 unfold EF
 have h : (s.drop i)[0]? = some c := by rw [List.getElem?_drop]; simpa using hc
 cases hd : s.drop i with
 | nil => rw [hd] at h; cases h
 | cons a l => rw [hd] at h; simp at h; subst h; rw [List.takeWhile_cons, hp]; simp
theorem Ll {ρ : Type} (p : UInt8 -> Bool) (s : SZ) {body : Int -> Option (Bn ρ Int)} (hb : ∀ k : Nat, k <= s.length -> body (k : Int) = bif (s[k]?.map p).getD false then some (.next (W64 ((k : Int) + 1))) else some (.done (k : Int)))
  {i N : Nat} (hi : i <= s.length) (hN : s.length < N) (hL : s.length < 4611686018427387904) : AX body N (i : Int) = some (.done ((EF p s i : Nat) : Int)) := by
 obtain ⟨o, ho, rfl⟩ := Ik (body := body) ((s.drop i).takeWhile p).length (fun j st => st = ((i + j : Nat) : Int)) (fun o => o = .done ((EF p s i : Nat) : Int)) (by
  rintro j st hj rfl
  have hle := (HD (p := p) (s := s) hi).2
  unfold EF at hle
  by_cases h : j < ((s.drop i).takeWhile p).length
  ·have := Hz h
   rw [List.getElem?_drop] at this
   exact .inl ⟨_, by rw [hb _ (by omega), this, cond_true, CI (by omega)]; rfl, rfl, h⟩
  ·have : j = ((s.drop i).takeWhile p).length := by omega
   subst this
   have := G6 (p := p) (s.drop i)
   rw [List.getElem?_drop] at this
   exact .inr ⟨_, by rw [hb _ (by omega), this, cond_false]; rfl, fun _ h => (by cases h), rfl⟩) ((s.drop i).takeWhile p).length N 0 (i : Int) (by omega) rfl (by
  have hle := (HD (p := p) (s := s) hi).2
  unfold EF at hle
  omega)
 exact ho
def seeR (a : Ah) (t : SZ) : Bool := (a.kind_ == 2 || a.kind_ == 3) && a.text_ == t
def seeF (b : Ae) (t : SZ) : Bool := (b.Kind == 2 || b.Kind == 3) && b.Text == t
structure NH (a : Ah) (b : Ae) : Prop where
 at_ : a.at_ = b.At
 k : (a.kind_ = 1 /\ b.Kind = 1 /\ a.text_ = b.Text /\ b.Text ≠ [] /\ b.Text.length <= 1000000 /\ ∀ c, c ∈ b.Text -> 48 <= c.toNat /\ c.toNat <= 57) \/ (a.kind_ = 2 /\ b.Kind = 2 /\ a.text_ = b.Text /\ b.Text ≠ [10]) \/ (a.kind_ = 3 /\ b.Kind = 3 /\ a.text_ = b.Text /\ b.Text ≠ [10]) \/ (a.kind_ = 3 /\ b.Kind = 4 /\ a.text_ = [10] /\ b.Text = [10]) \/ (a.kind_ = 4 /\ b.Kind = 0)
structure OT (a : Ah) (b : Ae) : Prop where
 at_ : a.at_ = b.At
 a0 : a.kind_ = 0
 b5 : b.Kind = 5
theorem NH.see {a : Ah} {b : Ae} (h : NH a b) {t : SZ} (ht : t ≠ [10]) : seeR a t = seeF b t := by
 unfold seeR seeF
 rcases h.k with ⟨h1, h2, h3, _⟩ | ⟨h1, h2, h3, _⟩ | ⟨h1, h2, h3, _⟩ | ⟨h1, h2, h3, h4⟩ | ⟨h1, h2⟩
 ·rw [h1, h2]; rfl
 ·rw [h1, h2, h3]
 ·rw [h1, h2, h3]
 ·rw [h1, h2, h3]
  have : (([10] : SZ) == t) = false := by simpa using fun h => ht h.symm
  rw [this]; rfl
 ·rw [h1, h2]; rfl
theorem OT.seeR {a : Ah} {b : Ae} (h : OT a b) (t : SZ) : seeR a t = false := by unfold Go.Proofs.YtaihlcdkcampbaaGreatDoor.seeR; rw [h.a0]; rfl
theorem OT.seeF {a : Ah} {b : Ae} (h : OT a b) (t : SZ) : seeF b t = false := by unfold Go.Proofs.YtaihlcdkcampbaaGreatDoor.seeF; rw [h.b5]; rfl
def C2 (c : UInt8) : Bool := decide (48 <= c.toNat) && decide (c.toNat <= 57)
def CZ (c : UInt8) : Bool := decide (97 <= c.toNat) && decide (c.toNat <= 122)
def sg9 : SZ := [40, 41, 44, 58, 61, 60, 43, 45, 42]
theorem OH {a b : Nat} : ((a : Int) == (b : Int)) = decide (a = b) := by
 by_cases h : a = b
 ·subst h; simp
 ·simp [h]; omega
theorem NU {p : UInt8 -> Bool} : ∀ l : SZ, l.take (l.takeWhile p).length = l.takeWhile p
 | [] => rfl
 | a :: l => by
  rw [List.takeWhile_cons]
  cases p a with
  | false => rfl
  | true => simp [NU l]
def run (p : UInt8 -> Bool) (s : SZ) (k : Nat) : SZ := (s.drop k).takeWhile p
theorem JS {p : UInt8 -> Bool} {s : SZ} {k : Nat} (hk : k <= s.length) : FV s (k : Int) ((EF p s k : Nat) : Int) = some (run p s k) := by
 have h := HD (p := p) hk
 unfold FV run
 rw [if_pos ⟨by omega, by omega, by omega⟩]
 have e : ((EF p s k : Nat) : Int).toNat - (k : Int).toNat = ((s.drop k).takeWhile p).length := by unfold EF; omega
 rw [e, Int.toNat_natCast, NU]
theorem LJ {p : UInt8 -> Bool} {s : SZ} {k : Nat} : EF p s k = k + (run p s k).length := rfl
section
variable {N : Nat} {s : SZ}
theorem El {k : Nat} {c : UInt8} (h : s[k]? = some c) : ET s (k : Int) = some (c.toNat : Int) := by
 unfold ET; rw [if_pos (by omega), Int.toNat_natCast, h]; rfl
theorem JT {k : Nat} {c : UInt8} (h : s[k]? = some c) : FV s (k : Int) ((k + 1 : Nat) : Int) = some [c] := by
 have hk : k < s.length := by
  rcases Nat.lt_or_ge k s.length with h' | h'
  ·exact h'
  ·rw [List.getElem?_eq_none h'] at h; cases h
 unfold FV
 rw [if_pos ⟨by omega, by omega, by omega⟩]
 have e : ((k + 1 : Nat) : Int).toNat - (k : Int).toNat = 1 := by omega
 rw [e, Int.toNat_natCast]
 cases hd : s.drop k with
 | nil =>
  have : (s.drop k)[0]? = some c := by rw [List.getElem?_drop]; simpa using h
  rw [hd] at this; cases this
 | cons a l =>
  have : (s.drop k)[0]? = some c := by rw [List.getElem?_drop]; simpa using h
  rw [hd] at this; simp at this; subst this; rfl
theorem Oh {a b : Nat} : decide ((a : Int) <= (b : Int)) = decide (a <= b) := by
 by_cases h : a <= b
 ·rw [decide_eq_true h, decide_eq_true (by omega)]
 ·rw [decide_eq_false h, decide_eq_false (by omega)]
theorem QN {lo hi : Nat} {p : UInt8 -> Bool} (hp : ∀ c : UInt8, p c = (decide (lo <= c.toNat) && decide (c.toNat <= hi))) {k : Nat} (hk : k <= s.length) (hN : s.length < N) (hL : s.length < 4611686018427387904) :
  B0 N (k : Int) (lo : Int) (hi : Int) s = some (run p s k) := by
 unfold B0
 rw [Ll p s (fun j hj => by
  unfold C9
  by_cases h : j < s.length
  ·rw [HO h, cond_true, List.getElem?_eq_getElem h, El (List.getElem?_eq_getElem h), Option.bind_some]
   simp only [Option.map_some, Option.getD_some, hp]
   rw [Oh, Option.bind_some, Oh]
   cases decide (lo <= s[j].toNat) <;> rfl
  ·have : j = s.length := by omega
   subst this
   rw [Jx, cond_false, List.getElem?_eq_none (Nat.le_refl _)]; rfl) hk hN hL]
 simp only [Option.bind_some, Bn.k]
 rw [JS hk]; rfl
theorem Rk {k : Nat} {c : UInt8} (h : s[k]? = some c) : Go.Lib.hasPrefix (s.drop k) [61, 62] = (decide (c = 61) && ((s[k + 1]?.map fun d => decide (d = 62)).getD false)) := by
 unfold Go.Lib.hasPrefix
 cases hd : s.drop k with
 | nil =>
  have : (s.drop k)[0]? = some c := by rw [List.getElem?_drop]; simpa using h
  rw [hd] at this; cases this
 | cons a l =>
  have h0 : (s.drop k)[0]? = some c := by rw [List.getElem?_drop]; simpa using h
  have h1 : (s.drop k)[1]? = s[k + 1]? := by rw [List.getElem?_drop]
  rw [hd] at h0 h1
  simp at h0; subst h0
  simp only [List.getElem?_cons_succ] at h1
  rw [<- h1]
  cases l with
  | nil => simp [List.isPrefixOf]
  | cons b l =>
   simp only [List.isPrefixOf, List.getElem?_cons_zero, Option.map_some, Option.getD_some, Bool.and_true]
   congr 1
   ·rw [Bool.eq_iff_iff]; simp; exact eq_comm
   ·rw [Bool.eq_iff_iff]; simp; exact eq_comm
theorem RL {l : SZ} {c : UInt8} : decide (Go.Lib.indexByte l c >= 0) = l.contains c := by
 induction l with
 | nil => rfl
 | cons b l ih =>
  rw [Go.Lib.indexByte, List.contains_cons]
  have hge := Go.Lib.indexByte_ge l c
  by_cases hb : b = c
  ·subst hb; simp
  ·have e1 : (b == c) = false := by simpa using hb
   have e2 : (c == b) = false := by simpa using fun h => hb h.symm
   rw [e1, e2, Bool.false_or, <- ih]
   simp only [Bool.false_eq_true, if_false]
   by_cases hm : Go.Lib.indexByte l c = -1
   ·rw [hm]; rfl
   ·have e3 : (Go.Lib.indexByte l c == -1) = false := by simpa using hm
    rw [e3]; simp only [Bool.false_eq_true, if_false]
    rw [decide_eq_true (by omega), decide_eq_true (by omega)]
def LA (s : SZ) (k : Nat) (c : UInt8) : Ah :=
 if C2 c then ⟨1, k, run C2 s k⟩ else if CZ c then ⟨2, k, run CZ s k⟩ else if Go.Lib.hasPrefix (s.drop k) [61, 62] then ⟨3, k, [61, 62]⟩ else if (sg9 ++ [10]).contains c then ⟨3, k, [c]⟩ else ⟨4, k, [c]⟩
def E7 (s : SZ) (k : Nat) (c : UInt8) : Ae :=
 if C2 c then ⟨1, k, run C2 s k⟩ else if CZ c then ⟨2, k, run CZ s k⟩ else if c = 10 then ⟨4, k, [10]⟩ else if Go.Lib.hasPrefix (s.drop k) [61, 62] then ⟨3, k, [61, 62]⟩ else if sg9.contains c then ⟨3, k, [c]⟩ else ⟨0, k, [c]⟩
theorem M2 {p : UInt8 -> Bool} : ∀ {l : SZ} {c : UInt8}, c ∈ l.takeWhile p -> p c = true
 | [], c, h => by cases h
 | a :: l, c, h => by
  rw [List.takeWhile_cons] at h
  cases hp : p a with
  | false => rw [hp] at h; cases h
  | true =>
   rw [hp] at h
   rcases List.mem_cons.1 h with rfl | h
   ·exact hp
   ·exact M2 h
theorem OY {k : Nat} {c : UInt8} (h : s[k]? = some c) (hL : s.length <= 1000000) : NH (LA s k c) (E7 s k c) /\ (LA s k c).text_.length = (E7 s k c).Text.length /\ 0 < (E7 s k c).Text.length /\ k + (E7 s k c).Text.length <= s.length := by
 have hk : k < s.length := by
  rcases Nat.lt_or_ge k s.length with h' | h'
  ·exact h'
  ·rw [List.getElem?_eq_none h'] at h; cases h
 have hrun : ∀ p : UInt8 -> Bool, p c = true -> 0 < (run p s k).length /\ k + (run p s k).length <= s.length := fun p hp => by
  have h1 := Ot h hp
  have h2 := (HD (p := p) (s := s) (i := k) (by omega)).2
  rw [LJ] at h1 h2
  omega
 unfold LA E7
 by_cases h1 : C2 c = true
 ·rw [if_pos h1, if_pos h1]
  have hr := hrun _ h1
  refine ⟨⟨rfl, .inl ⟨rfl, rfl, rfl, fun e => ?_, ?_, fun d hd => ?_⟩⟩, rfl, hr.1, hr.2⟩
  ·have e' : run C2 s k = [] := e
   rw [e'] at hr; simp at hr
  ·show (run C2 s k).length <= 1000000
   omega
  ·have := M2 (show d ∈ (s.drop k).takeWhile C2 from hd)
   unfold C2 at this; simpa using this
 rw [if_neg h1, if_neg h1]
 by_cases h2 : CZ c = true
 ·rw [if_pos h2, if_pos h2]; exact ⟨⟨rfl, .inr (.inl ⟨rfl, rfl, rfl, fun e => absurd (M2 (p := CZ) (c := 10) (l := s.drop k) (by rw [show (s.drop k).takeWhile CZ = [10] from e]; simp)) (by decide)⟩)⟩, rfl, (hrun _ h2).1, (hrun _ h2).2⟩
 rw [if_neg h2, if_neg h2]
 by_cases h3 : c = 10
 ·subst h3
  have hp : Go.Lib.hasPrefix (s.drop k) [61, 62] = false := by rw [Rk h]; rfl
  rw [hp]
  simp only [Bool.false_eq_true, if_false, if_true]
  have : (sg9 ++ [10]).contains (10 : UInt8) = true := by decide
  rw [this]
  exact ⟨⟨rfl, .inr (.inr (.inr (.inl ⟨rfl, rfl, rfl, rfl⟩)))⟩, rfl, by simp, by simp; omega⟩
 rw [if_neg h3]
 by_cases h4 : Go.Lib.hasPrefix (s.drop k) [61, 62] = true
 ·rw [if_pos h4, if_pos h4]
  refine ⟨⟨rfl, .inr (.inr (.inl ⟨rfl, rfl, rfl, by simp⟩))⟩, rfl, by simp, ?_⟩
  rw [Rk h, Bool.and_eq_true] at h4
  have : k + 1 < s.length := by
   rcases Nat.lt_or_ge (k + 1) s.length with h' | h'
   ·exact h'
   ·rw [List.getElem?_eq_none h'] at h4; cases h4.2
  simp; omega
 rw [if_neg h4, if_neg h4]
 have hc : (sg9 ++ [10]).contains c = sg9.contains c := by
  rw [Bool.eq_iff_iff]; simp [h3]
 rw [hc]
 by_cases h5 : sg9.contains c = true
 ·rw [if_pos h5, if_pos h5]; exact ⟨⟨rfl, .inr (.inr (.inl ⟨rfl, rfl, rfl, by simpa using h3⟩))⟩, rfl, by simp, by simp; omega⟩
 ·rw [if_neg h5, if_neg h5]; exact ⟨⟨rfl, .inr (.inr (.inr (.inr ⟨rfl, rfl⟩)))⟩, rfl, by simp, by simp; omega⟩
theorem LQ (c : UInt8) : CY N (c.toNat : Int) = some (C2 c) := by
 unfold CY C2
 congr 2
 ·rw [Bool.eq_iff_iff]; simp; omega
 ·rw [Bool.eq_iff_iff]; simp; omega
theorem LP (c : UInt8) : CX N (c.toNat : Int) = some (CZ c) := by
 unfold CX CZ
 congr 2
 ·rw [Bool.eq_iff_iff]; simp; omega
 ·rw [Bool.eq_iff_iff]; simp; omega
theorem FE (b c : UInt8) : ((b.toNat : Int) == (c.toNat : Int)) = decide (b = c) := by
 rw [OH]
 by_cases h : b = c
 ·subst h; simp
 ·have : ¬ b.toNat = c.toNat := fun e => h (UInt8.toNat_inj.1 e)
  simp [h, this]
theorem Rb (hN : 20 < N) (c : UInt8) : Hl N (c.toNat : Int) = some (sg9.contains c) := by
 unfold Hl
 rw [Ew sg9 (fun x => decide (x = c)) (fun _ => true) (fun i hi => by
  unfold EX
  rw [show ((9 : Int)) = ((9 : Nat) : Int) from rfl, HO (show i < 9 from hi), cond_true]
  rw [show ([40, 41, 44, 58, 61, 60, 43, 45, 42] : SZ) = sg9 from rfl, El (s := sg9) (List.getElem?_eq_getElem hi), Option.bind_some, FE]) (by
  unfold EX
  rw [show ((9 : Int)) = ((9 : Nat) : Int) from rfl, show (sg9.length : Int) = ((9 : Nat) : Int) from rfl, Jx, cond_false]) (show 9 < N by omega) (by decide)]
 have : (sg9.any fun x => decide (x = c)) = sg9.contains c := by
  rw [Bool.eq_iff_iff, List.any_eq_true, List.contains_iff_mem]
  simp
 rw [this]
 cases sg9.contains c <;> rfl
end
abbrev yc : List Ah -> Ah -> Option (Bool × List Ah) := fun st x => (C4 st [x]).map fun t => (true, t)
abbrev z1 (N : Nat) (s : SZ) : Int -> Int -> Int -> Option SZ := fun y0 y1 y2 => B0 N y0 y1 y2 s
def Df (c : UInt8) : Bool := decide (c = 32) || decide (c = 9)
section
variable {N : Nat} {s : SZ}
theorem Rn (c : UInt8) : (decide ((c.toNat : Int) >= 48) && decide ((c.toNat : Int) <= 57)) = C2 c := by
 have := LQ (N := 0) c
 unfold CY at this
 exact Option.some.inj this
theorem QY (c : UInt8) : (decide ((c.toNat : Int) >= 97) && decide ((c.toNat : Int) <= 122)) = CZ c := by
 have := LP (N := 0) c
 unfold CX at this
 exact Option.some.inj this
theorem OV (c : UInt8) : (((c.toNat : Int) == 32) || ((c.toNat : Int) == 9)) = Df c := by
 unfold Df
 rw [show ((32 : Int)) = (((32 : UInt8).toNat : Nat) : Int) from rfl, show ((9 : Int)) = (((9 : UInt8).toNat : Nat) : Int) from rfl, FE, FE]
theorem RE {k : Nat} {c : UInt8} (h : s[k]? = some c) (hN : s.length < N) (hL : s.length < 1000000) (acc : List Ah) (ha : acc.length <= 1000000) (s0 : List Ah) :
  Br N yc s (z1 N s) s0 ((k : Int), acc) = some (.next (if Df c then (((k + 1 : Nat) : Int), acc) else (((k + (LA s k c).text_.length : Nat) : Int), acc ++ [LA s k c]))) := by
 have hk : k < s.length := by
  rcases Nat.lt_or_ge k s.length with h' | h'
  ·exact h'
  ·rw [List.getElem?_eq_none h'] at h; cases h
 have ht := (OY h (by omega)).2
 unfold Br
 simp only
 rw [HO hk, cond_true, CI (by omega), JT h, Option.bind_some, El h, Option.bind_some, OV, Rn, QY]
 cases hw : Df c with
 | true => rfl
 | false =>
  simp only [cond_false, Bool.false_eq_true, if_false]
  have fin : ∀ (o : Option (Int × SZ)) (kd : Int) (tx : SZ), o = some (kd, tx) -> LA s k c = ⟨kd, (k : Int), tx⟩ ->
    (o.bind fun j75 => ((yc acc ({ kind_ := j75.1, at_ := (k : Int), text_ := j75.2 } : Ah)).bind fun q193 => (bif (!q193.1) then some (Bn.ret q193.2) else some (.next ((W64 ((k : Int) + (j75.2.length : Int))), q193.2))))) = some (.next (((k + (LA s k c).text_.length : Nat) : Int), acc ++ [LA s k c])) := by
   rintro _ kd tx rfl e
   rw [Option.bind_some, e]
   have hl : k + tx.length <= s.length := by have := ht.2.2; rw [<- ht.1, e] at this; exact this
   unfold yc
   rw [IE (by simp; omega)]
   simp only [Option.map_some, Option.bind_some, Bool.not_true, cond_false]
   rw [<- Int.natCast_add, Om (by omega)]
  unfold LA at fin ⊢
  by_cases h1 : C2 c = true
  ·refine fin _ 1 (run C2 s k) ?_ (by rw [if_pos h1])
   rw [h1, cond_true]
   unfold z1
   rw [show ((48 : Int)) = ((48 : Nat) : Int) from rfl, show ((57 : Int)) = ((57 : Nat) : Int) from rfl, QN (p := C2) (fun _ => rfl) (by omega) hN (by omega)]; rfl
  rw [Bool.not_eq_true] at h1
  by_cases h2 : CZ c = true
  ·refine fin _ 2 (run CZ s k) ?_ (by rw [h1, h2]; rfl)
   rw [h1, cond_false, h2, cond_true]
   unfold z1
   rw [show ((97 : Int)) = ((97 : Nat) : Int) from rfl, show ((122 : Int)) = ((122 : Nat) : Int) from rfl, QN (p := CZ) (fun _ => rfl) (by omega) hN (by omega)]; rfl
  rw [Bool.not_eq_true] at h2
  have hd : FV s (k : Int) (s.length : Int) = some (s.drop k) := by
   unfold FV
   rw [if_pos ⟨by omega, by omega, by omega⟩, Int.toNat_natCast, Int.toNat_natCast, <- List.length_drop, List.take_length]
  by_cases h3 : Go.Lib.hasPrefix (s.drop k) [61, 62] = true
  ·refine fin _ 3 [61, 62] ?_ (by rw [h1, h2, h3]; rfl)
   rw [h1, cond_false, h2, cond_false, hd]
   simp only [Option.bind_some, strings_HasPrefix, h3, cond_true]
  rw [Bool.not_eq_true] at h3
  have hx : strings_IndexByte N ([40, 41, 44, 58, 61, 60, 43, 45, 42, 10] : SZ) (c.toNat : Int) = some (Go.Lib.indexByte (sg9 ++ [10]) c) := by
   unfold strings_IndexByte
   simp
   rfl
  by_cases h4 : (sg9 ++ [10]).contains c = true
  ·refine fin _ 3 [c] ?_ (by rw [h1, h2, h3, h4]; rfl)
   rw [h1, cond_false, h2, cond_false, hd]
   simp only [Option.bind_some, strings_HasPrefix, h3, cond_false]
   rw [hx, Option.bind_some, RL, h4]; rfl
  rw [Bool.not_eq_true] at h4
  ·refine fin _ 4 [c] ?_ (by rw [h1, h2, h3, h4]; rfl)
   rw [h1, cond_false, h2, cond_false, hd]
   simp only [Option.bind_some, strings_HasPrefix, h3, cond_false]
   rw [hx, Option.bind_some, RL, h4]; rfl
theorem O6 {k : Nat} {c : UInt8} (h : s[k]? = some c) (hN : s.length + 20 < N) (hL : s.length < 1000000) (acc : List Ae) (ha : acc.length <= 1000000) :
  Bg N s (acc, (k : Int)) = some (.next (if Df c then (acc, ((k + 1 : Nat) : Int)) else (acc ++ [E7 s k c], ((k + (E7 s k c).Text.length : Nat) : Int)))) := by
 have hk : k < s.length := by
  rcases Nat.lt_or_ge k s.length with h' | h'
  ·exact h'
  ·rw [List.getElem?_eq_none h'] at h; cases h
 unfold Bg
 simp only
 rw [HO hk, cond_true]
 simp only [El h, Option.bind_some, LQ, LP]
 have hws : (bif ((c.toNat : Int) == 32) then some true else some ((c.toNat : Int) == 9)) = some (Df c) := by
  rw [<- OV]; cases ((c.toNat : Int) == 32) <;> rfl
 rw [hws, Option.bind_some]
 have hap : ∀ t, C4 acc [t] = some (acc ++ [t]) := fun t => IE (by simp; omega)
 cases hw : Df c with
 | true => simp only [cond_true, if_true]; rw [CI (by omega)]
 | false =>
  simp only [cond_false, Bool.false_eq_true, if_false]
  unfold E7
  have scan : ∀ (p : UInt8 -> Bool) (q : Int -> Option Bool) (hq : ∀ c : UInt8, q (c.toNat : Int) = some (p c)) (body : Int -> Option (Bn (List Ae) Int)),
    (∀ s100, body s100 = ((bif (decide (s100 < (s.length : Int))) then ((ET s s100).bind fun c138 => ((q c138).bind fun r141 => some r141)) else some false).bind fun j127 => (bif j127 then some (.next (W64 (s100 + 1))) else some (.done s100)))) -> AX body N (k : Int) = some (.done ((EF p s k : Nat) : Int)) := by
   intro p q hq body hb
   refine Ll p s (fun j hj => ?_) (by omega) (by omega) (by omega)
   rw [hb]
   by_cases h : j < s.length
   ·rw [HO h, cond_true, List.getElem?_eq_getElem h, El (List.getElem?_eq_getElem h), Option.bind_some, hq, Option.bind_some, Option.bind_some]; rfl
   ·have : j = s.length := by omega
    subst this
    rw [Jx, cond_false, List.getElem?_eq_none (Nat.le_refl _)]; rfl
  by_cases h1 : C2 c = true
  ·rw [h1, cond_true, if_pos rfl, scan C2 (CY N) (fun c => LQ c) (FL N s (acc, (k : Int)) false (c.toNat : Int) true) (fun _ => rfl)]
   simp only [Option.bind_some, Bn.k]
   rw [JS (by omega), Option.bind_some, hap, Option.bind_some, LJ]; rfl
  rw [Bool.not_eq_true] at h1
  rw [h1, cond_false]
  simp only [Bool.false_eq_true, if_false]
  by_cases h2 : CZ c = true
  ·rw [h2, cond_true, if_pos rfl, scan CZ (CX N) (fun c => LP c) (FK N s (acc, (k : Int)) false (c.toNat : Int) false (c.toNat : Int) true) (fun _ => rfl)]
   simp only [Option.bind_some, Bn.k]
   rw [JS (by omega), Option.bind_some, hap, Option.bind_some, LJ]; rfl
  rw [Bool.not_eq_true] at h2
  rw [h2, cond_false]
  simp only [Bool.false_eq_true, if_false]
  rw [show (((c.toNat : Int)) == 10) = decide (c = 10) from by rw [show ((10 : Int)) = (((10 : UInt8).toNat : Nat) : Int) from rfl, FE]]
  by_cases h3 : c = 10
  ·rw [decide_eq_true h3, cond_true, if_pos h3, hap, CI (by omega)]; rfl
  rw [decide_eq_false h3, cond_false, if_neg h3]
  have hpre : (bif ((c.toNat : Int) == 61) then (bif (decide ((W64 ((k : Int) + 1)) < (s.length : Int))) then ((ET s (W64 ((k : Int) + 1))).bind fun c326 => some (c326 == 62)) else some false) else some false) = some (Go.Lib.hasPrefix (s.drop k) [61, 62]) := by
   rw [Rk h, show (((c.toNat : Int)) == 61) = decide (c = 61) from by rw [show ((61 : Int)) = (((61 : UInt8).toNat : Nat) : Int) from rfl, FE]]
   cases decide (c = 61) with
   | false => rfl
   | true =>
    rw [cond_true, CI (by omega)]
    by_cases h5 : k + 1 < s.length
    ·rw [HO h5, cond_true, El (List.getElem?_eq_getElem h5), Option.bind_some, List.getElem?_eq_getElem h5]
     rw [show ((62 : Int)) = (((62 : UInt8).toNat : Nat) : Int) from rfl, FE]; rfl
    ·rw [decide_eq_false (by omega), cond_false, List.getElem?_eq_none (by omega)]; rfl
  rw [hpre]
  simp only [Option.bind_some]
  by_cases h4 : Go.Lib.hasPrefix (s.drop k) [61, 62] = true
  ·rw [h4, cond_true, if_pos rfl, hap]
   simp only [Option.bind_some]
   rw [show ((k : Int) + 2) = ((k + 2 : Nat) : Int) from by omega, Om (by omega)]; rfl
  rw [Bool.not_eq_true] at h4
  rw [h4, cond_false, Rb (by omega), CI (by omega), JT h]
  simp only [Option.bind_some, Bool.false_eq_true, if_false, hap]
  cases sg9.contains c <;> rfl
structure JN (n : Nat) (Lr : List Ah) (Lf : List Ae) : Prop where
 lr : Lr.length = n
 lf : Lf.length = n
 pos : 0 < n
 small : n <= 1000000
 c : ∀ (i : Nat) (hr : i < Lr.length) (hf : i < Lf.length), i + 1 < n -> NH Lr[i] Lf[i]
 e : ∀ (i : Nat) (hr : i < Lr.length) (hf : i < Lf.length), i + 1 = n -> OT Lr[i] Lf[i]
theorem P8 (hL : s.length <= 200000) (hN : 1000000 < N) : ∃ n Lr Lf, CD N s = some Lr /\ Fv N s = some Lf /\ JN n Lr Lf /\ n <= s.length + 1 := by
 have hsim := Pv (b1 := Br N yc s (z1 N s) ([] : List Ah)) (b2 := Bg N s)
  (fun m (x : Int × List Ah) (y : List Ae × Int) => ∃ k : Nat, k <= s.length /\ m = s.length - k /\ x.1 = (k : Int) /\ y.2 = (k : Int) /\ x.2.length = y.1.length /\ x.2.length <= k /\ ∀ (i : Nat) (hr : i < x.2.length) (hf : i < y.1.length), NH x.2[i] y.1[i])
  (fun o1 o2 => ∃ (Lr : List Ah) (Lf : List Ae), o1 = .done ((s.length : Int), Lr) /\ o2 = .done (Lf, (s.length : Int)) /\ Lr.length = Lf.length /\ Lr.length <= s.length /\ ∀ (i : Nat) (hr : i < Lr.length) (hf : i < Lf.length), NH Lr[i] Lf[i])
  (by
   rintro m ⟨i1, a1⟩ ⟨a2, i2⟩ ⟨k, hk, rfl, h1, h2, h3, h4, h5⟩
   simp only at h1 h2 h3 h4 h5
   subst h1 h2
   by_cases hlt : k < s.length
   ·left
    have hc := List.getElem?_eq_getElem hlt
    rw [RE hc (by omega) (by omega) a1 (by omega) [], O6 hc (by omega) (by omega) a2 (by omega)]
    obtain ⟨t1, t2, t3, t4⟩ := OY hc (by omega)
    cases hw : Df s[k] with
    | true => exact ⟨s.length - (k + 1), _, _, by omega, rfl, rfl, k + 1, by omega, rfl, rfl, rfl, h3, Nat.le_succ_of_le h4, h5⟩
    | false =>
     refine ⟨s.length - (k + (E7 s k s[k]).Text.length), _, _, by omega, rfl, rfl, k + (E7 s k s[k]).Text.length, t4, rfl, ?_, rfl, ?_, ?_, ?_⟩
     ·simp only [Bool.false_eq_true, if_false]; rw [t2]
     ·simp [h3]
     ·simp; omega
     ·intro i hr hf
      simp only [Bool.false_eq_true, if_false] at hr hf ⊢
      by_cases hi : i < a1.length
      ·rw [List.getElem_append_left hi, List.getElem_append_left (by omega)]
       exact h5 i hi (by omega)
      ·have e1 : i = a1.length := by simp at hr; omega
       subst e1
       rw [List.getElem_append_right (by omega), List.getElem_append_right (by omega)]
       simpa [h3] using t1
   ·right; left
    have : k = s.length := by omega
    subst this
    refine ⟨.done ((s.length : Int), a1), .done (a2, (s.length : Int)), ?_, (fun _ h => by cases h), ?_, (fun _ h => by cases h), a1, a2, rfl, rfl, h3, h4, h5⟩
    ·unfold Br; simp only; rw [Jx, cond_false]
    ·unfold Bg; simp only; rw [Jx, cond_false])
  s.length N N ((0 : Int), []) ([], (0 : Int)) ⟨0, by omega, by omega, rfl, rfl, rfl, by simp, fun i hr => by simp at hr⟩ (by omega) (by omega)
 obtain ⟨o1, o2, e1, e2, Lr, Lf, rfl, rfl, h3, h4, h5⟩ := hsim
 refine ⟨Lr.length + 1, Lr ++ [⟨0, (s.length : Int), []⟩], Lf ++ [⟨5, (s.length : Int), []⟩], ?_, ?_, ⟨by simp, by simp [h3], by omega, by omega, ?_, ?_⟩, by omega⟩
 ·show ((AX (Br N yc s (z1 N s) ([] : List Ah)) N ((0 : Int), [])).bind fun o => o.k (fun r => some r) (fun s15 => ((yc s15.2 ({ kind_ := 0, at_ := (s.length : Int), text_ := [] } : Ah)).bind fun q211 => some q211.2))) = _
  rw [e1]
  simp only [Option.bind_some, Bn.k]
  unfold yc
  rw [IE (by simp; omega)]; rfl
 ·unfold Fv
  rw [e2]
  simp only [Option.bind_some, Bn.k]
  rw [IE (by simp; omega)]; rfl
 ·intro i hr hf hi
  rw [List.getElem_append_left (by omega), List.getElem_append_left (by omega)]
  exact h5 i (by omega) (by omega)
 ·intro i hr hf hi
  have e1 : i = Lr.length := by omega
  subst e1
  rw [List.getElem_append_right (by omega), List.getElem_append_right (by omega)]
  simp [h3]
  exact ⟨rfl, rfl, rfl⟩
end

def dv (acc : Nat) : SZ -> Nat
 | [] => acc
 | c :: r => dv (10 * acc + (c.toNat - 48)) r
def Dig (l : SZ) : Prop := ∀ c, c ∈ l -> 48 <= c.toNat /\ c.toNat <= 57
def p10 : Nat -> Nat
 | 0 => 1
 | n + 1 => p10 n * 10
theorem RW {l : SZ} : ∀ {acc : Nat}, Dig l -> dv acc l < (acc + 1) * p10 l.length := by
 induction l with
 | nil => intro acc _; show acc < (acc + 1) * 1; omega
 | cons c r ih =>
  intro acc h
  have hc := h c (List.mem_cons_self ..)
  have h1 := ih (acc := 10 * acc + (c.toNat - 48)) (fun d hd => h d (List.mem_cons_of_mem _ hd))
  have e : dv acc (c :: r) = dv (10 * acc + (c.toNat - 48)) r := rfl
  rw [e, List.length_cons]
  show _ < (acc + 1) * (p10 r.length * 10)
  generalize p10 r.length = q at h1
  have h2 : (10 * acc + (c.toNat - 48) + 1) * q <= (10 * (acc + 1)) * q := Nat.mul_le_mul_right _ (by omega)
  have h3 : (acc + 1) * (q * 10) = (10 * (acc + 1)) * q := by rw [Nat.mul_comm q 10, <- Nat.mul_assoc, Nat.mul_comm (acc + 1) 10]
  omega
theorem Q7 : ∀ {n : Nat}, n <= 7 -> p10 n <= 10000000 := by
 intro n h
 have : n = 0 \/ n = 1 \/ n = 2 \/ n = 3 \/ n = 4 \/ n = 5 \/ n = 6 \/ n = 7 := by omega
 rcases this with rfl | rfl | rfl | rfl | rfl | rfl | rfl | rfl <;> decide
theorem QO : ∀ {l : SZ} {acc : Nat}, acc <= dv acc l
 | [], acc => Nat.le_refl _
 | c :: r, acc => by unfold dv; exact Nat.le_trans (by omega) (QO (l := r))
theorem Lj : ∀ {l : SZ} {acc : Nat}, Dig l -> Go.Lib.parseUint10 acc l = .ok (dv acc l) \/ Go.Lib.parseUint10 acc l = .range
 | [], acc, _ => .inl rfl
 | c :: r, acc, h => by
  have hc := h c (List.mem_cons_self ..)
  unfold Go.Lib.parseUint10 dv
  rw [if_pos hc]
  split
  ·exact .inr rfl
  ·split
   ·exact .inr rfl
   ·rw [Nat.mul_comm 10 acc]; exact Lj fun d hd => h d (List.mem_cons_of_mem _ hd)
theorem Jo : ∀ {l : SZ} {acc : Nat}, Dig l -> dv acc l < 10000000 -> Go.Lib.parseUint10 acc l = .ok (dv acc l)
 | [], acc, _, _ => rfl
 | c :: r, acc, h, hs => by
  have hc := h c (List.mem_cons_self ..)
  unfold dv at hs
  have hge := QO (l := r) (acc := 10 * acc + (c.toNat - 48))
  unfold Go.Lib.parseUint10 dv
  rw [if_pos hc, if_neg (by omega), if_neg (by omega), Nat.mul_comm acc 10]
  exact Jo (fun d hd => h d (List.mem_cons_of_mem _ hd)) hs
theorem PZ {l : SZ} (h : Dig l) (hne : l ≠ []) : Go.Lib.atoiAll l = .range \/ ∃ v, Go.Lib.atoiAll l = .ok v := by
 cases l with
 | nil => exact absurd rfl hne
 | cons c r =>
  have hc := h c (List.mem_cons_self ..)
  unfold Go.Lib.atoiAll
  simp only
  rw [if_neg (by omega)]
  unfold Go.Lib.parseMag
  rw [if_neg (by simp)]
  rcases Lj (acc := 0) h with e | e <;> rw [e]
  ·simp only
   split
   ·exact .inl rfl
   ·split
    ·exact .inl rfl
    ·exact .inr ⟨_, rfl⟩
  ·exact .inl rfl
theorem NF {l : SZ} (h : Dig l) (hne : l ≠ []) (hl : l.length <= 7) : Go.Lib.atoiAll l = .ok (dv 0 l : Int) := by
 have hlt := RW (acc := 0) h
 have h7 := Q7 hl
 cases l with
 | nil => exact absurd rfl hne
 | cons c r =>
  have hc := h c (List.mem_cons_self ..)
  unfold Go.Lib.atoiAll
  simp only
  rw [if_neg (by omega)]
  unfold Go.Lib.parseMag
  rw [if_neg (by simp), Jo h (by omega)]
  simp only
  rw [if_neg (by omega), if_neg (by omega), if_neg (by omega)]
def fig (l : SZ) : Int := if l.length > 7 then -1 else if dv 0 l > 1000000 then -1 else dv 0 l
section
variable {N : Nat}
theorem Rc {l : SZ} (h : Dig l) (hne : l ≠ []) (hl : l.length <= 1000000) : ∃ r, Cj N l = some r /\
  (r.2 || (decide ((l.length : Int) > 7) || decide (r.1 > 1000000))) = decide (fig l < 0) /\ (0 <= fig l -> r.1 = fig l) := by
 unfold Cj
 rw [if_pos (by omega)]
 by_cases h7 : l.length > 7
 ·have hf : fig l = -1 := by unfold fig; rw [if_pos h7]
  rw [hf]
  rcases PZ h hne with e | ⟨v, e⟩ <;> rw [e] <;> exact ⟨_, rfl, by rw [decide_eq_true (show (l.length : Int) > 7 by omega)]; simp, by omega⟩
 ·rw [NF h hne (by omega)]
  refine ⟨_, rfl, ?_, fun h0 => ?_⟩
  ·unfold fig
   rw [if_neg h7]
   rw [decide_eq_false (by omega), Bool.false_or, Bool.false_or]
   by_cases h6 : dv 0 l > 1000000
   ·rw [if_pos h6, decide_eq_true (by omega)]; rfl
   ·rw [if_neg h6, decide_eq_false (by omega), decide_eq_false (by omega)]
  ·unfold fig at h0 ⊢
   rw [if_neg h7] at h0 ⊢
   by_cases h6 : dv 0 l > 1000000
   ·rw [if_pos h6] at h0; omega
   ·rw [if_neg h6]
end
def brk (s : SZ) : Bool := match s with
 | [] => true
 | c :: _ => !(C2 c) && !(CZ c)
def kt (b : Ae) : Int × SZ := (b.Kind, b.Text)
inductive Tz : SZ -> List (Int × SZ) -> Prop
 | nil : Tz [] []
 | ws {c : UInt8} {s : SZ} {l : List (Int × SZ)} (h : Df c = true) (k : Tz s l) : Tz (c :: s) l
 | num {w s : SZ} {l : List (Int × SZ)} (hn : w ≠ []) (hw : ∀ c, c ∈ w -> C2 c = true) (hb : brk s = true) (k : Tz s l) : Tz (w ++ s) ((1, w) :: l)
 | word {w s : SZ} {l : List (Int × SZ)} (hn : w ≠ []) (hw : ∀ c, c ∈ w -> CZ c = true) (hb : brk s = true) (k : Tz s l) : Tz (w ++ s) ((2, w) :: l)
 | arrow {s : SZ} {l : List (Int × SZ)} (k : Tz s l) : Tz (61 :: 62 :: s) ((3, [61, 62]) :: l)
 | sign {c : UInt8} {s : SZ} {l : List (Int × SZ)} (h : sg9.contains c = true) (hp : c ≠ 61 \/ s.head? ≠ some 62) (k : Tz s l) : Tz (c :: s) ((3, [c]) :: l)
 | line {s : SZ} {l : List (Int × SZ)} (k : Tz s l) : Tz (10 :: s) ((4, [10]) :: l)
theorem PY {s : SZ} (h : brk s = true) : s.takeWhile C2 = [] /\ s.takeWhile CZ = [] := by
 cases s with
 | nil => exact ⟨rfl, rfl⟩
 | cons c s =>
  simp only [brk, Bool.and_eq_true, Bool.not_eq_true'] at h
  simp [List.takeWhile_cons, h.1, h.2]
theorem RX {c : UInt8} (h : CZ c = true) : C2 c = false := by
 simp only [CZ, C2, Bool.and_eq_true, decide_eq_true_eq] at h ⊢
 rw [Bool.and_eq_false_iff]
 right; rw [decide_eq_false_iff_not]; omega
theorem QQ {c : UInt8} (h : C2 c = true) : Df c = false := by
 simp only [C2, Bool.and_eq_true, decide_eq_true_eq] at h
 cases hw : Df c with
 | false => rfl
 | true =>
  simp only [Df, Bool.or_eq_true, decide_eq_true_eq] at hw
  rcases hw with rfl | rfl <;> exact absurd h (by decide)
theorem QK {c : UInt8} (h : CZ c = true) : Df c = false := by
 simp only [CZ, Bool.and_eq_true, decide_eq_true_eq] at h
 cases hw : Df c with
 | false => rfl
 | true =>
  simp only [Df, Bool.or_eq_true, decide_eq_true_eq] at hw
  rcases hw with rfl | rfl <;> exact absurd h (by decide)
section
variable {N : Nat} {s : SZ}
theorem Og {k : Nat} {c : UInt8} {t : SZ} (h : s.drop k = c :: t) : s[k]? = some c /\ k < s.length /\ s.drop (k + 1) = t := by
 have h0 : (s.drop k)[0]? = some c := by rw [h]; rfl
 rw [List.getElem?_drop, Nat.add_zero] at h0
 refine ⟨h0, ?_, ?_⟩
 ·rcases Nat.lt_or_ge k s.length with h' | h'
  ·exact h'
  ·rw [List.getElem?_eq_none h'] at h0; cases h0
 ·rw [<- List.drop_drop, h]; rfl
theorem P7 (hL : s.length < 1000000) (hN : s.length + 20 < N) : ∀ {t : SZ} {l : List (Int × SZ)}, Tz t l -> ∀ (k M : Nat) (acc : List Ae), s.drop k = t -> k <= s.length -> acc.length <= k -> s.length - k < M ->
  ∃ r, r.map kt = l /\ AX (Bg N s) M (acc, (k : Int)) = some (.done (acc ++ r, (s.length : Int))) := by
 have one : ∀ {c : UInt8} {t u : SZ} {l : List (Int × SZ)} {q : Int × SZ}, (∀ (k M : Nat) (acc : List Ae), s.drop k = u -> k <= s.length -> acc.length <= k -> s.length - k < M -> ∃ r, r.map kt = l /\ AX (Bg N s) M (acc, (k : Int)) = some (.done (acc ++ r, (s.length : Int)))) ->
   ∀ (k M : Nat) (acc : List Ae), s.drop k = c :: t -> k <= s.length -> acc.length <= k -> s.length - k < M -> Df c = false -> kt (E7 s k c) = q -> (c :: t).drop q.2.length = u -> 
   ∃ r, r.map kt = q :: l /\ AX (Bg N s) M (acc, (k : Int)) = some (.done (acc ++ r, (s.length : Int))) := by
  intro c t u l q ih k M acc hd hk ha hM hw hq hu
  obtain ⟨hc, hlt, _⟩ := Og hd
  obtain ⟨M, rfl⟩ : ∃ m, M = m + 1 := ⟨M - 1, by omega⟩
  have htok := (OY hc (by omega)).2
  have h2 : (E7 s k c).Text = q.2 := by rw [<- hq]; rfl
  have hst := O6 hc hN (by omega) acc (by omega)
  rw [hw] at hst
  simp only [Bool.false_eq_true, if_false] at hst
  obtain ⟨r, hr, hi⟩ := ih (k + (E7 s k c).Text.length) M (acc ++ [E7 s k c]) (by rw [<- List.drop_drop, hd, h2]; exact hu) htok.2.2 (by simp; omega) (by omega)
  refine ⟨E7 s k c :: r, by rw [List.map_cons, hq, hr], ?_⟩
  rw [AX, hst]
  simp only
  rw [hi]; simp
 have hdrop : ∀ (w u : SZ), (w ++ u).drop w.length = u := fun w u => by simp
 intro t l h
 induction h with
 | nil =>
  intro k M acc hd hk ha hM
  have : k = s.length := by
   have := congrArg List.length hd
   simp at this; omega
  subst this
  obtain ⟨M, rfl⟩ : ∃ m, M = m + 1 := ⟨M - 1, by omega⟩
  refine ⟨[], rfl, ?_⟩
  rw [AX]
  unfold Bg
  simp only
  rw [Jx, cond_false, List.append_nil]
 | @ws c t l hw _ ih =>
  intro k M acc hd hk ha hM
  obtain ⟨hc, hlt, hd'⟩ := Og hd
  obtain ⟨M, rfl⟩ : ∃ m, M = m + 1 := ⟨M - 1, by omega⟩
  have hst := O6 hc hN (by omega) acc (by omega)
  rw [hw] at hst
  simp only [if_true] at hst
  obtain ⟨r, hr, hi⟩ := ih (k + 1) M acc hd' (by omega) (by omega) (by omega)
  refine ⟨r, hr, ?_⟩
  rw [AX, hst]
  simp only
  rw [hi]
 | @num w u l hn hw hb _ ih =>
  intro k M acc hd hk ha hM
  cases w with
  | nil => exact absurd rfl hn
  | cons c w =>
   have hc := hw c (List.mem_cons_self ..)
   refine one (q := (1, c :: w)) ih k M acc hd hk ha hM (QQ hc) ?_ (hdrop (c :: w) u)
   unfold E7 kt
   rw [if_pos hc]
   unfold run
   rw [hd, List.takeWhile_append_of_pos hw, (PY hb).1, List.append_nil]
 | @word w u l hn hw hb _ ih =>
  intro k M acc hd hk ha hM
  cases w with
  | nil => exact absurd rfl hn
  | cons c w =>
   have hc := hw c (List.mem_cons_self ..)
   refine one (q := (2, c :: w)) ih k M acc hd hk ha hM (QK hc) ?_ (hdrop (c :: w) u)
   unfold E7 kt
   rw [if_neg (by rw [RX hc]; decide), if_pos hc]
   unfold run
   rw [hd, List.takeWhile_append_of_pos hw, (PY hb).2, List.append_nil]
 | @arrow u l _ ih =>
  intro k M acc hd hk ha hM
  refine one (q := (3, [61, 62])) ih k M acc hd hk ha hM (by decide) ?_ rfl
  unfold E7 kt
  rw [if_neg (by decide), if_neg (by decide), if_neg (by decide), if_pos (by rw [hd]; simp [Go.Lib.hasPrefix, List.isPrefixOf])]
 | @sign c u l hs hp _ ih =>
  intro k M acc hd hk ha hM
  have hall : ∀ c : UInt8, sg9.contains c = true -> Df c = false /\ C2 c = false /\ CZ c = false /\ c ≠ 10 := by
   intro c hc
   have hm : c ∈ sg9 := by simpa using hc
   have : ∀ c ∈ sg9, Df c = false /\ C2 c = false /\ CZ c = false /\ c ≠ 10 := by decide
   exact this c hm
  obtain ⟨h1, h2, h3, h4⟩ := hall c hs
  refine one (q := (3, [c])) ih k M acc hd hk ha hM h1 ?_ rfl
  have hnp : Go.Lib.hasPrefix (s.drop k) [61, 62] = false := by
   rw [hd]
   cases u with
   | nil => simp [Go.Lib.hasPrefix, List.isPrefixOf]
   | cons d u =>
    simp only [Go.Lib.hasPrefix, List.isPrefixOf, Bool.and_true, Bool.and_eq_false_iff, beq_eq_false_iff_ne]
    rcases hp with hp | hp
    ·exact .inl (fun e => hp e.symm)
    ·right; intro e; exact hp (by rw [<- e]; rfl)
  unfold E7 kt
  rw [if_neg (by rw [h2]; decide), if_neg (by rw [h3]; decide), if_neg h4, if_neg (by rw [hnp]; decide), if_pos hs]
 | @line u l _ ih =>
  intro k M acc hd hk ha hM
  refine one (q := (4, [10])) ih k M acc hd hk ha hM (by decide) ?_ rfl
  unfold E7 kt
  rw [if_neg (by decide), if_neg (by decide), if_pos rfl]
theorem NT (hL : s.length <= 200000) (hN : 1000000 < N) {l : List (Int × SZ)} (h : Tz s l) : ∃ n Lr Lf, CD N s = some Lr /\ JN n Lr Lf /\ n <= s.length + 1 /\ Lf.map kt = l ++ [(5, [])] := by
 obtain ⟨n, Lr, Lf, e1, e2, T, hn⟩ := P8 (N := N) (s := s) hL hN
 refine ⟨n, Lr, Lf, e1, T, hn, ?_⟩
 obtain ⟨r, hr, hi⟩ := P7 (s := s) (N := N) (by omega) (by omega) h 0 N [] rfl (by omega) (by simp) (by omega)
 unfold Fv at e2
 rw [show (([] : List Ae), (0 : Int)) = ([], ((0 : Nat) : Int)) from rfl, hi] at e2
 simp only [Option.bind_some, Bn.k, List.nil_append] at e2
 have hrl : r.length <= 1000000 := by
  have hTl := T.lf
  by_cases hb : r.length <= 1000000
  ·exact hb
  ·exfalso
   cases ha : C4 r [(⟨5, (s.length : Int), []⟩ : Ae)] with
   | none => rw [ha] at e2; cases e2
   | some q =>
    rw [ha] at e2
    have hq : q = r ++ [⟨5, (s.length : Int), []⟩] := by
     unfold C4 at ha
     split at ha
     ·exact (Option.some.inj ha).symm
     ·cases ha
    simp only [Option.bind_some, Option.some.injEq] at e2
    have := T.small
    rw [<- e2, hq] at hTl
    simp at hTl; omega
 rw [IE (by simp; omega)] at e2
 simp only [Option.bind_some, Option.some.injEq] at e2
 rw [<- e2, List.map_append, hr]; rfl
end
def TzS (s : SZ) (l : List (Int × SZ)) : Prop := ∀ rest m, Tz rest m -> Tz (s ++ rest) (l ++ m)
def TzK (s : SZ) (l : List (Int × SZ)) : Prop := ∀ rest m, brk rest = true -> Tz rest m -> Tz (s ++ rest) (l ++ m)
theorem TzS.k {s l} (h : TzS s l) : TzK s l := fun r m _ hr => h r m hr
theorem TzS.app {a b la lb} (h1 : TzS a la) (h2 : TzS b lb) : TzS (a ++ b) (la ++ lb) := fun r m hr => by rw [List.append_assoc, List.append_assoc]; exact h1 _ _ (h2 _ _ hr)
theorem TzS.appK {a b la lb} (h1 : TzS a la) (h2 : TzK b lb) : TzK (a ++ b) (la ++ lb) := fun r m hb hr => by rw [List.append_assoc, List.append_assoc]; exact h1 _ _ (h2 _ _ hb hr)
theorem QG {b : SZ} (h : brk b = true) (hn : b ≠ []) (r : SZ) : brk (b ++ r) = true := by
 cases b with
 | nil => exact absurd rfl hn
 | cons c b => exact h
theorem TzK.app {a b la lb} (h1 : TzK a la) (h2 : TzS b lb) (hb : brk b = true) (hn : b ≠ []) : TzS (a ++ b) (la ++ lb) := fun r m hr => by rw [List.append_assoc, List.append_assoc]; exact h1 _ _ (QG hb hn r) (h2 _ _ hr)
theorem TzS.tz {s l} (h : TzS s l) : Tz s l := by have := h [] [] .nil; simpa using this
theorem TzS.nil : TzS [] [] := fun _ _ h => h
theorem TzS.ws {c : UInt8} (h : Df c = true) : TzS [c] [] := fun _ _ k => .ws h k
theorem TzS.sign {c : UInt8} (h : sg9.contains c = true) (hp : c ≠ 61) : TzS [c] [(3, [c])] := fun _ _ k => .sign h (.inl hp) k
theorem TzS.eq : TzS [61, 32] [(3, [61])] := fun _ _ k => .sign (by decide) (.inr (by simp)) (.ws (by decide) k)
theorem TzK.word {w : SZ} (hn : w ≠ []) (hw : ∀ c, c ∈ w -> CZ c = true) : TzK w [(2, w)] := fun _ _ hb k => .word hn hw hb k
theorem TzK.num {w : SZ} (hn : w ≠ []) (hw : ∀ c, c ∈ w -> C2 c = true) : TzK w [(1, w)] := fun _ _ hb k => .num hn hw hb k
inductive Wd : SZ -> SZ -> Prop
 | nil : Wd [] []
 | cons {s t : SZ} (c : UInt8) (h : Wd s t) : Wd (c :: s) (c :: t)
 | more {s t : SZ} (u : SZ) (hu : ∀ c, c ∈ u -> Df c = true) (h : Wd s t) : Wd (32 :: s) (u ++ 32 :: t)
theorem QV {u : SZ} (hu : ∀ c, c ∈ u -> Df c = true) {s : SZ} {l : List (Int × SZ)} (h : Tz s l) : Tz (u ++ s) l := by
 induction u with
 | nil => exact h
 | cons c u ih => exact .ws (hu c (List.mem_cons_self ..)) (ih fun d hd => hu d (List.mem_cons_of_mem _ hd))
theorem Hy : ∀ {w s t : SZ}, (∀ c, c ∈ w -> Df c = false) -> Wd (w ++ s) t -> ∃ t', t = w ++ t' /\ Wd s t'
 | [], s, t, _, h => ⟨t, rfl, h⟩
 | c :: w, s, t, hw, h => by
  have hc := hw c (List.mem_cons_self ..)
  rw [List.cons_append] at h
  generalize hx : c :: (w ++ s) = x at h
  cases h with
  | nil => cases hx
  | cons d h =>
   cases hx
   obtain ⟨t', rfl, h'⟩ := Hy (fun d hd => hw d (List.mem_cons_of_mem _ hd)) h
   exact ⟨t', rfl, h'⟩
  | more u hu h => cases hx; exact absurd hc (by decide)
theorem NR {s t : SZ} (h : Wd s t) : t.head? = s.head? \/ ∃ c, t.head? = some c /\ Df c = true := by
 cases h with
 | nil => exact .inl rfl
 | cons c h => exact .inl rfl
 | more u hu h =>
  cases u with
  | nil => exact .inl rfl
  | cons c u => exact .inr ⟨c, rfl, hu c (List.mem_cons_self ..)⟩
theorem MY {c : UInt8} (h : Df c = true) : C2 c = false /\ CZ c = false /\ c ≠ 62 := by
 simp only [Df, Bool.or_eq_true, decide_eq_true_eq] at h
 rcases h with rfl | rfl <;> decide
theorem OW {s t : SZ} (h : Wd s t) (hb : brk s = true) : brk t = true := by
 have e : ∀ x : SZ, brk x = match x.head? with | none => true | some c => !(C2 c) && !(CZ c) := fun x => by cases x <;> rfl
 rw [e] at hb ⊢
 rcases NR h with h | ⟨c, h, hc⟩
 ·rw [h]; exact hb
 ·rw [h]; simp [(MY hc).1, (MY hc).2.1]
theorem Rz {s : SZ} {l : List (Int × SZ)} (h : Tz s l) : ∀ {t : SZ}, Wd s t -> Tz t l := by
 have Du : ∀ {c : UInt8} {s t : SZ}, Df c = false -> Wd (c :: s) t -> ∃ t', t = c :: t' /\ Wd s t' := fun hc h => by
  rename_i c s t
  exact Hy (w := [c]) (s := s) (fun d hd => by rw [List.mem_singleton.1 hd]; exact hc) h
 induction h with
 | nil => intro t h; cases h; exact .nil
 | @ws c s l hw _ ih =>
  intro t h
  generalize hx : c :: s = x at h
  cases h with
  | nil => cases hx
  | cons d h => cases hx; exact .ws hw (ih h)
  | more u hu h => cases hx; exact QV hu (.ws (by decide) (ih h))
 | num hn hw hb _ ih =>
  intro t h
  obtain ⟨t', rfl, h'⟩ := Hy (fun c hc => QQ (hw c hc)) h
  exact .num hn hw (OW h' hb) (ih h')
 | word hn hw hb _ ih =>
  intro t h
  obtain ⟨t', rfl, h'⟩ := Hy (fun c hc => QK (hw c hc)) h
  exact .word hn hw (OW h' hb) (ih h')
 | @arrow s l _ ih =>
  intro t h
  obtain ⟨t', rfl, h'⟩ := Hy (w := [61, 62]) (s := s) (by decide) h
  exact .arrow (ih h')
 | @sign c s l hs hp _ ih =>
  intro t h
  have hw : Df c = false := by
   have hm : c ∈ sg9 := by simpa using hs
   have : ∀ c ∈ sg9, Df c = false := by decide
   exact this c hm
  obtain ⟨t', rfl, h'⟩ := Du hw h
  refine .sign hs ?_ (ih h')
  rcases hp with hp | hp
  ·exact .inl hp
  ·right
   rcases NR h' with e | ⟨d, e, hd⟩
   ·rw [e]; exact hp
   ·rw [e]; intro e2; exact (MY hd).2.2 (Option.some.inj e2)
 | line _ ih =>
  intro t h
  obtain ⟨t', rfl, h'⟩ := Du (by decide) h
  exact .line (ih h')
def Dc (N : Nat) (x0 : Int) : Option Expr :=
 some ({ Op := 1, Value := x0, Kids := ([] : List Expr) } : Expr)
theorem Dh : Aq Tryz.prog 191 := fun _ _ => by kernel_rfl
theorem DE (N : Nat) (w0 : World) (F0 : Mem) (hF : S1 w0 F0) (x0 : Int) (r : Expr) (h : Dc N x0 = some r) :
  Calls Tryz.prog 191 ([(vi x0)] : List Value).toArray w0 (AV w0 F0 fun F' v => ∃ (aq0_2 : S0) (nq0_2 : Nat), v = (.agg (Ai r aq0_2 nq0_2)) /\ LC r.Kids.length nq0_2 /\ SlA Ar F' aq0_2 r.Kids) := by
 have hs0 := SI hF
 refine Go 5 Tryz.func191 ?_
 refine Sq (Rg [0] ?_)
 refine Al' 33 #[(vi 0), (vi 0), (.slice none ([] : List Expr).length 0)] hs0 (fun b21 w22 hs23 => ?_)
 refine Nss (Rg [0, 1, 2] ?_)
 refine Vs 2 ?_
 refine St0 #[(vi 1), (vi x0), (.slice none ([] : List Expr).length 0)] hs23 (fun w24 hs25 => ?_)
 refine Nt ?_
 refine Rt ?_
 obtain rfl := Ab h
 exact ⟨rfl, (.agg #[(vi 1), (vi x0), (.slice none ([] : List Expr).length 0)]), AB (l := [.cell 2 33]) (by kernel_rfl) (vs := [(.agg #[(vi 1), (vi x0), (.slice none ([] : List Expr).length 0)])]) ⟨b21, 0, rfl, Ak (t := 33) (g := true) (s := 3) (by kernel_rfl) hs25.at0 rfl (by decide), trivial⟩, (.agg #[(vi 1), (vi x0), (.slice none ([] : List Expr).length 0)]), F0, rfl, hs25.clear, ⟨none, 0, rfl, SK, (.inl rfl)⟩⟩
def EU (N : Nat) (x0 : Bool) : Option Expr :=
 ((Dc N 0).bind fun r31 => ((Dc N 0).bind fun r39 => some ({ Op := (bif x0 then 6 else 7), Value := 0, Kids := [r31, r39] } : Expr)))
theorem Fh : Aq Tryz.prog 188 := fun _ _ => by kernel_rfl
theorem FN (N : Nat) (w0 : World) (F0 : Mem) (hF : S1 w0 F0) (x0 : Bool) (r : Expr) (h : EU N x0 = some r) :
  Calls Tryz.prog 188 ([(.bool x0)] : List Value).toArray w0 (AV w0 F0 fun F' v => ∃ (aq0_2 : S0) (nq0_2 : Nat), v = (.agg (Ai r aq0_2 nq0_2)) /\ LC r.Kids.length nq0_2 /\ SlA Ar F' aq0_2 r.Kids) := by
 have hs0 := SI hF
 refine Go 10 Tryz.func188 ?_
 refine Sq (Rg [0] ?_)
 refine Al' 33 #[(vi 0), (vi 0), (.slice none ([] : List Expr).length 0)] hs0 (fun b21 w22 hs23 => ?_)
 refine Nss (Rg [0] ?_)
 refine Vs 1 ?_
 refine Nss ?_
 refine Sq (Rg [0] ?_)
 refine Vs 1 ?_
 refine Nt ?_
 refine SN (fun f w => ∃ (F1 : Mem), HS w0 F0 w F1 [(sb b21 #[(vi 0), (vi 0), (.slice none ([] : List Expr).length 0)] 33)] /\ SG F0 F1 /\ FI f [] [(2, (pt b21 0)), (3, (vi (bif x0 then 6 else 7)))]) ?_ ?_
 ·refine Cp x0 (fun hb30 => ?_) (fun hb30 => ?_)
  ·refine Rg [0] ?_
   refine Vs 1 ?_
   refine SC ?_
   exact .inl ⟨rfl, F0, hs23, (SH _), (fJ ⟨rfl, (congrArg (Value.int .i64) (IC hb30 rfl)), trivial⟩)⟩
  ·refine Sc ?_
   exact .inl ⟨rfl, F0, hs23, (SH _), (fJ ⟨rfl, (congrArg (Value.int .i64) (ID hb30 rfl)), trivial⟩)⟩
 ·rintro f w24 ⟨F1, hs25, le26, ⟨_, rfl⟩⟩
  refine Ac ?_
  refine Sq (Rg [0, 1, 2, 3, 4, 5] ?_)
  refine Vs 1 ?_
  obtain ⟨r31, hr32, h33⟩ := bind_some h
  refine Cl' Dh hs25 (DE N w24 F1 hs25.pers 0 _ hr32) ?_
  rintro _ F2 w35 hs36 le37 ⟨ar31_0_2, nr31_0_2, rfl, hbr31_0_2, hsr31_0_2⟩
  obtain ⟨r39, hr40, h41⟩ := bind_some h33
  refine Cl' Dh hs36 (DE N w35 F2 hs36.pers 0 _ hr40) ?_
  rintro _ F3 w43 hs44 le45 ⟨ar39_0_2, nr39_0_2, rfl, hbr39_0_2, hsr39_0_2⟩
  refine Bs 33 [(vi r31.Op), (vi r31.Value), (.slice ar31_0_2 r31.Kids.length nr31_0_2), (vi r39.Op), (vi r39.Value), (.slice ar39_0_2 r39.Kids.length nr39_0_2)] hs44 (fun b47 w48 hs49 => ?_)
  have hr51 : Av Ar 33 F3 (some ⟨b47, 0, none⟩) 2 [r31, r39] (some b47, .cells ([(vi r31.Op), (vi r31.Value), (.slice ar31_0_2 r31.Kids.length nr31_0_2), (vi r39.Op), (vi r39.Value), (.slice ar39_0_2 r39.Kids.length nr39_0_2)] : List Value).toArray 33 (0, 0)) := SX ⟨(A6 ⟨ar31_0_2, nr31_0_2, rfl, hbr31_0_2, (SJ hsr31_0_2 le45)⟩), ⟨(A6 ⟨ar39_0_2, nr39_0_2, rfl, hbr39_0_2, hsr39_0_2⟩), rfl⟩⟩ (by simp)
  refine Vs 1 ?_
  refine St1 #[(vi (bif x0 then 6 else 7)), (vi 0), (.slice (some ⟨b47, 0, none⟩) [r31, r39].length 2)] hs49 (fun w52 hs53 => ?_)
  refine Nt ?_
  refine Rt ?_
  have hb57 := SW hr51
  obtain ⟨F4, hs54, le55, hs56⟩ := hs53.fr0 hr51
  obtain rfl := Ab h41
  exact ⟨rfl, (.agg #[(vi (bif x0 then 6 else 7)), (vi 0), (.slice (some ⟨b47, 0, none⟩) [r31, r39].length 2)]), AB (l := [.cell 2 33]) (by kernel_rfl) (vs := [(.agg #[(vi (bif x0 then 6 else 7)), (vi 0), (.slice (some ⟨b47, 0, none⟩) [r31, r39].length 2)])]) ⟨b21, 0, rfl, Ak (t := 33) (g := true) (s := 3) (by kernel_rfl) hs54.at0 rfl (by decide), trivial⟩, (.agg #[(vi (bif x0 then 6 else 7)), (vi 0), (.slice (some ⟨b47, 0, none⟩) [r31, r39].length 2)]), F4, rfl, hs54.clear, ⟨(some ⟨b47, 0, none⟩), 2, rfl, hb57, hs56⟩⟩
def EV (N : Nat) (x0 : Expr) (x1 : Bool) : Option Bool :=
 (((EU N x1).bind fun r34 => ((Ep N x0 r34).bind fun r42 => some r42)).bind fun j29 => some j29)
theorem Fi : Aq Tryz.prog 187 := fun _ _ => by kernel_rfl
theorem FO (N : Nat) (w0 : World) (F0 : Mem) (hF : S1 w0 F0) (x0 : Expr) (a0_2 : S0) (n0_2 : Nat) (hb0_2 : LC x0.Kids.length n0_2) (hs0_2 : SlA Ar F0 a0_2 x0.Kids) (x1 : Bool) (r : Bool) (h : EV N x0 x1 = some r) :
  Calls Tryz.prog 187 ([(.agg (Ai x0 a0_2 n0_2)), (.bool x1)] : List Value).toArray w0 (AV w0 F0 fun F' v => v = (.bool r)) := by
 have hs0 := SI hF
 refine Go 9 Tryz.func187 ?_
 refine Sq (Rg [0, 1] ?_)
 refine Bx' 33 (Ai x0 a0_2 n0_2) hs0 (fun b21 w22 hs23 => ?_)
 refine Vs 1 ?_
 refine Nss ?_
 obtain ⟨j29, hj32, h33⟩ := bind_some h
 refine RD 5 5 [(sb b21 (Ai x0 a0_2 n0_2) 33)] [] hs23 (fun f w => ∃ (F1 : Mem), HS w0 F0 w F1 [] /\ SG F0 F1 /\ FI f [] [(4, (.bool j29))]) (fun wd24 hw25 => ?_) ?_
 ·refine Dl 0 (fun _ hq => (hq.1.2 0 _ _ rfl)) ?_
  refine Dv [1] ?_
  refine D1 2 ?_
  obtain ⟨r34, hr35, h36⟩ := bind_some hj32
  refine DCl Fh hw25 (FN N wd24 F0 hw25.pers x1 _ hr35) ?_
  rintro _ F2 w38 hs39 le40 ⟨ar34_0_2, nr34_0_2, rfl, hbr34_0_2, hsr34_0_2⟩
  refine D1 3 ?_
  obtain ⟨r42, hr43, h44⟩ := bind_some h36
  refine DCl CQ hs39 (Ej N w38 F2 hs39.pers x0 a0_2 n0_2 hb0_2 (SJ hs0_2 le40) r34 ar34_0_2 nr34_0_2 hbr34_0_2 hsr34_0_2 _ hr43) ?_
  rintro _ F3 w46 hs47 le48 rfl
  refine Dv [4] ?_
  obtain rfl := Ab h44
  exact SV (by kernel_rfl) ⟨F3, hs47.dr0, (le40.trans le48), fI⟩
 ·rintro f w26 ⟨F1, hs27, le28, ⟨_, rfl⟩⟩
  refine Ac ?_
  refine Rt ?_
  obtain rfl := Ab h33
  exact Re [(.bool j29)] hs27 rfl

def Dz (N : Nat) (x0 : Expr) (x1 : Int) : Option Bool :=
 some ((x0.Op == 1) && (x0.Value == x1))
theorem Ec : Aq Tryz.prog 215 := fun _ _ => by kernel_rfl
theorem EE (N : Nat) (w0 : World) (F0 : Mem) (hF : S1 w0 F0) (x0 : Expr) (a0_2 : S0) (n0_2 : Nat) (hb0_2 : LC x0.Kids.length n0_2) (hs0_2 : SlA Ar F0 a0_2 x0.Kids) (x1 : Int) (r : Bool) (h : Dz N x0 x1 = some r) :
  Calls Tryz.prog 215 ([(.agg (Ai x0 a0_2 n0_2)), (vi x1)] : List Value).toArray w0 (AV w0 F0 fun F' v => v = (.bool r)) := by
 have hs0 := SI hF
 refine Go 14 Tryz.func215 ?_
 refine Sq (Rg [0, 1] ?_)
 refine Bx' 33 (Ai x0 a0_2 n0_2) hs0 (fun b21 w22 hs23 => ?_)
 refine Vs 1 ?_
 refine Nss (Rg [0, 1, 2, 3, 4, 5, 6, 7, 8, 9] ?_)
 refine SM (fun f w => ∃ (F1 : Mem), HS w0 F0 w F1 [] /\ SG F0 F1 /\ FI f [] [(4, (.bool ((x0.Op == 1) && (x0.Value == x1))))]) ?_ ?_
 ·refine Vs 1 ?_
  refine Ld hs23.at0 ?_
  refine Vs 2 ?_
  refine SL (x0.Op == 1) (fun hb29 => ?_) (fun hb29 => ?_)
  ·refine Vgs hb29 1 ?_
   refine Lg hb29 hs23.at0 ?_
   refine Vgs hb29 2 ?_
   refine Pk1 hb29 ?_
   refine Vs 1 ?_
   exact SC ⟨rfl, F0, hs23.dr0, (SH _), (fJ ⟨(congrArg Value.bool (D0 hb29 rfl)), trivial⟩)⟩
  ·refine Ss hb29 4 ?_
   refine Pk0 hb29 ?_
   refine Vs 1 ?_
   exact SC ⟨rfl, F0, hs23.dr0, (SH _), (fJ ⟨(congrArg Value.bool (GI hb29 rfl)), trivial⟩)⟩
 ·rintro f w24 ⟨F1, hs25, le26, ⟨_, rfl⟩⟩
  refine Ac ?_
  refine Rt ?_
  obtain rfl := Ab h
  exact Re [(.bool ((x0.Op == 1) && (x0.Value == x1)))] hs25 rfl
def Gb (N : Nat) (x0 : Expr) (x1 : Expr) (x2 : Expr) : Option Expr :=
 (bif (x0.Op == 8) then ((Dz N x1 0).bind fun r36 => (bif r36 then some x2 else ((Dz N x2 0).bind fun r49 => (bif r49 then some x1 else some x0)))) else none)
theorem Iu : Aq Tryz.prog 192 := fun _ _ => by kernel_rfl
theorem I8 (N : Nat) (w0 : World) (F0 : Mem) (hF : S1 w0 F0) (x0 : Expr) (a0_2 : S0) (n0_2 : Nat) (hb0_2 : LC x0.Kids.length n0_2) (hs0_2 : SlA Ar F0 a0_2 x0.Kids) (x1 : Expr) (a1_2 : S0) (n1_2 : Nat) (hb1_2 : LC x1.Kids.length n1_2) (hs1_2 : SlA Ar F0 a1_2 x1.Kids) (x2 : Expr) (a2_2 : S0) (n2_2 : Nat) (hb2_2 : LC x2.Kids.length n2_2) (hs2_2 : SlA Ar F0 a2_2 x2.Kids) (r : Expr) (h : Gb N x0 x1 x2 = some r) :
  Calls Tryz.prog 192 ([(.agg (Ai x0 a0_2 n0_2)), (.agg (Ai x1 a1_2 n1_2)), (.agg (Ai x2 a2_2 n2_2))] : List Value).toArray w0 (AV w0 F0 fun F' v => ∃ (aq0_2 : S0) (nq0_2 : Nat), v = (.agg (Ai r aq0_2 nq0_2)) /\ LC r.Kids.length nq0_2 /\ SlA Ar F' aq0_2 r.Kids) := by
 have hs0 := SI hF
 refine Go 49 Tryz.func192 ?_
 refine Sq (Rg [0, 1, 2, 3] ?_)
 refine Bx' 33 (Ai x0 a0_2 n0_2) hs0 (fun b21 w22 hs23 => ?_)
 refine Bx' 33 (Ai x1 a1_2 n1_2) hs23 (fun b24 w25 hs26 => ?_)
 refine Bx' 33 (Ai x2 a2_2 n2_2) hs26 (fun b27 w28 hs29 => ?_)
 refine Al' 33 #[(vi 0), (vi 0), (.slice none ([] : List Expr).length 0)] hs29 (fun b30 w31 hs32 => ?_)
 refine Nss ?_
 refine Sq (Rg [0, 1] ?_)
 refine Vs 1 ?_
 refine Ld hs32.at3 ?_
 refine Nt ?_
 refine Bk ?_
 refine Sq (Rg [0, 1] ?_)
 refine Vs 2 ?_
 refine Nt ?_
 refine Cd h (fun hb33 h34 => ?_) (fun hb33 h35 => ?_)
 ·refine Bk ?_
  refine Sq (Rg [0, 1, 2] ?_)
  refine Ld hs32.at2 ?_
  obtain ⟨r36, hr37, h38⟩ := bind_some h34
  refine Cl' Ec hs32 (EE N w31 F0 hs32.pers x1 a1_2 n1_2 hb1_2 hs1_2 0 _ hr37) ?_
  rintro _ F1 w40 hs41 le42 rfl
  refine Vs 1 ?_
  refine Nt ?_
  refine Cd h38 (fun hb44 h45 => ?_) (fun hb44 h46 => ?_)
  ·refine Sq (Rg [0, 1] ?_)
   refine Ld hs41.at1 ?_
   refine St0 (Ai x2 a2_2 n2_2) hs41 (fun w47 hs48 => ?_)
   refine Nt ?_
   refine Rt ?_
   refine Al ?_
   refine Al ?_
   refine Aj ?_
   obtain rfl := Ab h45
   exact ⟨rfl, (.agg (Ai x2 a2_2 n2_2)), AB (l := [.cell 6 33]) (by kernel_rfl) (vs := [(.agg (Ai x2 a2_2 n2_2))]) ⟨b30, 0, rfl, Ak (t := 33) (g := true) (s := 3) (by kernel_rfl) hs48.at0 rfl (by decide), trivial⟩, (.agg (Ai x2 a2_2 n2_2)), F1, rfl, hs48.clear, ⟨a2_2, n2_2, rfl, hb2_2, (SJ hs2_2 le42)⟩⟩
  ·refine Sq (Rg [0, 1, 2] ?_)
   refine Ld hs41.at1 ?_
   obtain ⟨r49, hr50, h51⟩ := bind_some h46
   refine Cl' Ec hs41 (EE N w40 F1 hs41.pers x2 a2_2 n2_2 hb2_2 (SJ hs2_2 le42) 0 _ hr50) ?_
   rintro _ F2 w53 hs54 le55 rfl
   refine Vs 1 ?_
   refine Nt ?_
   refine Cd h51 (fun hb57 h58 => ?_) (fun hb57 h59 => ?_)
   ·refine Sq (Rg [0, 1] ?_)
    refine Ld hs54.at2 ?_
    refine St0 (Ai x1 a1_2 n1_2) hs54 (fun w60 hs61 => ?_)
    refine Nt ?_
    refine Rt ?_
    refine Al ?_
    refine Al ?_
    refine Aj ?_
    obtain rfl := Ab h58
    exact ⟨rfl, (.agg (Ai x1 a1_2 n1_2)), AB (l := [.cell 6 33]) (by kernel_rfl) (vs := [(.agg (Ai x1 a1_2 n1_2))]) ⟨b30, 0, rfl, Ak (t := 33) (g := true) (s := 3) (by kernel_rfl) hs61.at0 rfl (by decide), trivial⟩, (.agg (Ai x1 a1_2 n1_2)), F2, rfl, hs61.clear, ⟨a1_2, n1_2, rfl, hb1_2, (SJ hs1_2 (le42.trans le55))⟩⟩
   ·refine Sc ?_
    refine Ax ?_
    refine Ax ?_
    refine Ac ?_
    refine Sq (Rg [0, 1] ?_)
    refine Ld hs54.at3 ?_
    refine St0 (Ai x0 a0_2 n0_2) hs54 (fun w62 hs63 => ?_)
    refine Nt ?_
    refine Rt ?_
    obtain rfl := Ab h59
    exact ⟨rfl, (.agg (Ai x0 a0_2 n0_2)), AB (l := [.cell 6 33]) (by kernel_rfl) (vs := [(.agg (Ai x0 a0_2 n0_2))]) ⟨b30, 0, rfl, Ak (t := 33) (g := true) (s := 3) (by kernel_rfl) hs63.at0 rfl (by decide), trivial⟩, (.agg (Ai x0 a0_2 n0_2)), F2, rfl, hs63.clear, ⟨a0_2, n0_2, rfl, hb0_2, (SJ hs0_2 (le42.trans le55))⟩⟩
 ·cases h35
def Ha (N : Nat) (x0 : Expr) : Option Expr :=
 (bif ((x0.Kids.length : Int) == 0) then some x0 else ((idx x0.Kids 0).bind fun x32 => (bif (x0.Op == 3) then none else ((idx x0.Kids 1).bind fun x54 => (bif (bif (x0.Op == 6) then (x0.Op == 6) else (x0.Op == 7)) then ((bif ((x32.Op == 1) && (x54.Op == 1)) then some true else ((Ep N x32 x54).bind fun r106 => some r106)).bind fun j93 => (bif j93 then (bif (x0.Op == 6) then ((Ep N x32 x54).bind fun r120 => (bif r120 then ((EU N true).bind fun r131 => some r131) else (bif (x0.Op == 7) then none else none))) else (bif (x0.Op == 7) then none else none)) else some x0)) else (bif (bif (x0.Op == 4) then (x0.Op == 4) else (x0.Op == 5)) then none else (bif (bif (x0.Op == 8) then (x0.Op == 8) else (bif (x0.Op == 9) then (x0.Op == 9) else (x0.Op == 10))) then (((mk0 0 14).bind fun r206 => ((EH N x0 r206).bind fun r220 => some r220)).bind fun j196 => (bif (((x32.Op == 1) && (x54.Op == 1)) && (decide (j196 >= 0))) then ((Dc N j196).bind fun r242 => some r242) else ((Gb N x0 x32 x54).bind fun r252 => some r252))) else (bif (x0.Op == 11) then ((EV N x32 true).bind fun r265 => (bif r265 then some x54 else ((EV N x32 false).bind fun r278 => (bif r278 then ((idx x0.Kids 2).bind fun x289 => some x289) else (((idx x0.Kids 2).bind fun x310 => ((Ep N x54 x310).bind fun r316 => some r316)).bind fun j302 => (bif j302 then some x54 else some x0)))))) else none))))))))
theorem I2 : Aq Tryz.prog 148 := fun _ _ => by kernel_rfl
theorem JH (N : Nat) (w0 : World) (F0 : Mem) (hF : S1 w0 F0) (x0 : Expr) (a0_2 : S0) (n0_2 : Nat) (hb0_2 : LC x0.Kids.length n0_2) (hs0_2 : SlA Ar F0 a0_2 x0.Kids) (r : Expr) (h : Ha N x0 = some r) :
  Calls Tryz.prog 148 ([(.agg (Ai x0 a0_2 n0_2))] : List Value).toArray w0 (AV w0 F0 fun F' v => ∃ (aq0_2 : S0) (nq0_2 : Nat), v = (.agg (Ai r aq0_2 nq0_2)) /\ LC r.Kids.length nq0_2 /\ SlA Ar F' aq0_2 r.Kids) := by
 have hs0 := SI hF
 refine Go 130 Tryz.func148 ?_
 refine Sq (Rg [0, 1] ?_)
 refine Bx' 33 (Ai x0 a0_2 n0_2) hs0 (fun b21 w22 hs23 => ?_)
 refine Al' 33 #[(vi 0), (vi 0), (.slice none ([] : List Expr).length 0)] hs23 (fun b24 w25 hs26 => ?_)
 refine Nss ?_
 refine Sq (Rg [0, 1, 2, 3] ?_)
 refine Vs 1 ?_
 refine Ld hs26.at1 ?_
 refine Vs 2 ?_
 refine Nt ?_
 refine Cd h (fun hb27 h28 => ?_) (fun hb27 h29 => ?_)
 ·refine Sq (Rg [0, 1] ?_)
  refine Ld hs26.at1 ?_
  refine St0 (Ai x0 a0_2 n0_2) hs26 (fun w30 hs31 => ?_)
  refine Nt ?_
  refine Rt ?_
  refine Aj ?_
  obtain rfl := Ab h28
  exact ⟨rfl, (.agg (Ai x0 a0_2 n0_2)), AB (l := [.cell 2 33]) (by kernel_rfl) (vs := [(.agg (Ai x0 a0_2 n0_2))]) ⟨b24, 0, rfl, Ak (t := 33) (g := true) (s := 3) (by kernel_rfl) hs31.at0 rfl (by decide), trivial⟩, (.agg (Ai x0 a0_2 n0_2)), F0, rfl, hs31.clear, ⟨a0_2, n0_2, rfl, hb0_2, hs0_2⟩⟩
 ·refine Sc ?_
  refine Ac ?_
  refine Sq (Rg [0, 1, 2, 3, 4, 5] ?_)
  refine Vs 1 ?_
  refine Ld hs26.at1 ?_
  obtain ⟨x32, hx33, h35⟩ := bind_some h29
  obtain ⟨hi34, hx33'⟩ := Aw hx33
  obtain ⟨b36, o37, C38, E39, fz40, rfl, hF42, hE43⟩ := SQ hs0_2 hx33'
  obtain ⟨ae44_2, ne44_2, hc45, hbe44_2, hse44_2⟩ := (AR (hE43 _ _ hx33'))
  refine Ix hi34 ?_
  refine Lx 0 (hs26.pers _ _ hF42) hc45 ?_
  refine Al' 33 #[(vi 0), (vi 0), (.slice none ([] : List Expr).length 0)] hs26 (fun b46 w47 hs48 => ?_)
  refine St0 (Ai x32 ae44_2 ne44_2) hs48 (fun w49 hs50 => ?_)
  refine Nss ?_
  refine Sq (Rg [0, 1, 2] ?_)
  refine Vs 1 ?_
  refine Ld hs50.at2 ?_
  refine Vs 1 ?_
  refine Nt ?_
  refine Cd h35 (fun hb51 h52 => ?_) (fun hb51 h53 => ?_)
  ·cases h52
  ·refine Sc ?_
   refine Ac ?_
   refine Sq (Rg [0, 1, 2, 3, 4, 5] ?_)
   refine Vs 1 ?_
   refine Ld hs50.at2 ?_
   obtain ⟨x54, hx55, h57⟩ := bind_some h53
   obtain ⟨hi56, hx55'⟩ := Aw hx55
   obtain ⟨ae58_2, ne58_2, hc59, hbe58_2, hse58_2⟩ := (AR (hE43 _ _ hx55'))
   refine Ix hi56 ?_
   refine Lx 0 (hs50.pers _ _ hF42) hc59 ?_
   refine Al' 33 #[(vi 0), (vi 0), (.slice none ([] : List Expr).length 0)] hs50 (fun b60 w61 hs62 => ?_)
   refine St0 (Ai x54 ae58_2 ne58_2) hs62 (fun w63 hs64 => ?_)
   refine Nss (Rg [0, 1, 2, 3, 4, 5, 6, 7, 8] ?_)
   refine SM (fun f w => ∃ (F1 : Mem), HS w0 F0 w F1 [(sb b60 (Ai x54 ae58_2 ne58_2) 33), (sb b46 (Ai x32 ae44_2 ne44_2) 33), (sb b24 #[(vi 0), (vi 0), (.slice none ([] : List Expr).length 0)] 33), (sb b21 (Ai x0 (some ⟨b36, o37, none⟩) n0_2) 33)] /\ SG F0 F1 /\ FI f [] [(1, (pt b21 0)), (2, (pt b24 0)), (3, (pt b46 0)), (4, (pt b60 0)), (5, (.bool ((x32.Op == 1) && (x54.Op == 1))))]) ?_ ?_
   ·refine Vs 1 ?_
    refine Ld hs64.at1 ?_
    refine Vs 2 ?_
    refine SL (x32.Op == 1) (fun hb74 => ?_) (fun hb74 => ?_)
    ·refine Vgs hb74 1 ?_
     refine Lg hb74 hs64.at0 ?_
     refine Vgs hb74 1 ?_
     refine Pk1 hb74 ?_
     refine Vs 1 ?_
     exact SC ⟨rfl, F0, hs64, (SH _), (fJ ⟨rfl, rfl, rfl, rfl, (congrArg Value.bool (D0 hb74 rfl)), trivial⟩)⟩
    ·refine Ss hb74 3 ?_
     refine Pk0 hb74 ?_
     refine Vs 1 ?_
     exact SC ⟨rfl, F0, hs64, (SH _), (fJ ⟨rfl, rfl, rfl, rfl, (congrArg Value.bool (GI hb74 rfl)), trivial⟩)⟩
   ·rintro f w65 ⟨F1, hs66, le67, ⟨_, rfl⟩⟩
    refine Ac ?_
    refine Sq ?_
    refine Sq (Rg [0, 1] ?_)
    refine Vs 1 ?_
    refine Ld hs66.at3 ?_
    refine Nt ?_
    refine Bk ?_
    refine Sq ?_
    refine Sq (Rg [0, 1] ?_)
    refine Vs 2 ?_
    refine Nt ?_
    refine SN (fun f w => ∃ (F2 : Mem), HS w0 F0 w F2 [(sb b60 (Ai x54 ae58_2 ne58_2) 33), (sb b46 (Ai x32 ae44_2 ne44_2) 33), (sb b24 #[(vi 0), (vi 0), (.slice none ([] : List Expr).length 0)] 33), (sb b21 (Ai x0 (some ⟨b36, o37, none⟩) n0_2) 33)] /\ SG F1 F2 /\ FI f [] [(1, (pt b21 0)), (2, (pt b24 0)), (3, (pt b46 0)), (4, (pt b60 0)), (5, (.bool ((x32.Op == 1) && (x54.Op == 1)))), (49, (vi x0.Op)), (50, (.bool (bif (x0.Op == 6) then (x0.Op == 6) else (x0.Op == 7))))]) ?_ ?_
    ·refine Cp (x0.Op == 6) (fun hb86 => ?_) (fun hb86 => ?_)
     ·refine Sc ?_
      exact .inl ⟨rfl, F1, hs66, (SH _), (fJ ⟨rfl, rfl, rfl, rfl, rfl, rfl, (congrArg Value.bool (IC hb86 rfl)), trivial⟩)⟩
     ·refine Rg [0, 1] ?_
      refine Vs 2 ?_
      refine SC ?_
      exact .inl ⟨rfl, F1, hs66, (SH _), (fJ ⟨rfl, rfl, rfl, rfl, rfl, rfl, (congrArg Value.bool (ID hb86 rfl)), trivial⟩)⟩
    ·rintro f w75 ⟨F2, hs76, le77, ⟨_, rfl⟩⟩
     refine Ac ?_
     refine Cd h57 (fun hb87 h88 => ?_) (fun hb87 h89 => ?_)
     ·refine Sq (Rg [0, 1, 2, 3, 4, 5] ?_)
      obtain ⟨j93, hj101, h102⟩ := bind_some h88
      refine SM (fun f w => ∃ (F3 : Mem), HS w0 F0 w F3 [(sb b60 (Ai x54 ae58_2 ne58_2) 33), (sb b46 (Ai x32 ae44_2 ne44_2) 33), (sb b24 #[(vi 0), (vi 0), (.slice none ([] : List Expr).length 0)] 33), (sb b21 (Ai x0 (some ⟨b36, o37, none⟩) n0_2) 33)] /\ SG F2 F3 /\ FI f [] [(1, (pt b21 0)), (2, (pt b24 0)), (3, (pt b46 0)), (4, (pt b60 0)), (5, (.bool ((x32.Op == 1) && (x54.Op == 1)))), (58, (.bool j93))]) ?_ ?_
      ·refine Vs 2 ?_
       refine Sp hj101 (fun hb103 h104 => ?_) (fun hb103 h105 => ?_)
       ·refine Ss hb103 3 ?_
        refine Pk1 hb103 ?_
        obtain rfl := Ab h104
        exact SC ⟨rfl, F2, hs76, (SH _), fI⟩
       ·refine Lg hb103 hs76.at1 ?_
        refine Lg hb103 hs76.at0 ?_
        obtain ⟨r106, hr107, h108⟩ := bind_some h105
        refine Cg hb103 CQ hs76 (Ej N w75 F2 hs76.pers x32 ae44_2 ne44_2 hbe44_2 (SJ hse44_2 (le67.trans le77)) x54 ae58_2 ne58_2 hbe58_2 (SJ hse58_2 (le67.trans le77)) _ hr107) ?_
        rintro _ F4 w110 hs111 le112 rfl
        refine Pk0 hb103 ?_
        obtain rfl := Ab h108
        exact SC ⟨rfl, F4, hs111, le112, fI⟩
      ·rintro f w90 ⟨F3, hs91, le92, ⟨_, rfl⟩⟩
       refine Ac ?_
       refine Cd h102 (fun hb114 h115 => ?_) (fun hb114 h116 => ?_)
       ·refine Sq (Rg [0, 1, 2, 3, 4, 5, 6, 7, 8, 9, 10, 11, 12, 13, 14, 15, 16, 17, 18, 19, 20, 21, 22, 23, 24] ?_)
        refine Vs 1 ?_
        refine Ld hs91.at3 ?_
        refine Vs 2 ?_
        refine Sp h115 (fun hb117 h118 => ?_) (fun hb117 h119 => ?_)
        ·refine Lg hb117 hs91.at1 ?_
         refine Lg hb117 hs91.at0 ?_
         obtain ⟨r120, hr121, h122⟩ := bind_some h118
         refine Cg hb117 CQ hs91 (Ej N w90 F3 hs91.pers x32 ae44_2 ne44_2 hbe44_2 (SJ hse44_2 ((le67.trans le77).trans le92)) x54 ae58_2 ne58_2 hbe58_2 (SJ hse58_2 ((le67.trans le77).trans le92)) _ hr121) ?_
         rintro _ F5 w124 hs125 le126 rfl
         refine Pk1 hb117 ?_
         refine Vs 1 ?_
         refine Sp h122 (fun hb128 h129 => ?_) (fun hb128 h130 => ?_)
         ·refine Ss hb128 4 ?_
          refine Su' 1 ?_
          refine Ss hb128 2 ?_
          refine Su' 5 ?_
          refine Ss hb128 1 ?_
          refine Pk1 hb128 ?_
          obtain ⟨r131, hr132, h133⟩ := bind_some h129
          refine Cl' Fh hs125 (FN N w124 F5 hs125.pers true _ hr132) ?_
          rintro _ F6 w135 hs136 le137 ⟨ar131_0_2, nr131_0_2, rfl, hbr131_0_2, hsr131_0_2⟩
          refine St2 (Ai r131 ar131_0_2 nr131_0_2) hs136 (fun w139 hs140 => ?_)
          refine Nt ?_
          refine Rt ?_
          refine Al ?_
          refine Aj ?_
          obtain rfl := Ab h133
          exact ⟨rfl, (.agg (Ai r131 ar131_0_2 nr131_0_2)), AB (l := [.cell 2 33]) (by kernel_rfl) (vs := [(.agg (Ai r131 ar131_0_2 nr131_0_2))]) ⟨b24, 0, rfl, Ak (t := 33) (g := true) (s := 3) (by kernel_rfl) hs140.at2 rfl (by decide), trivial⟩, (.agg (Ai r131 ar131_0_2 nr131_0_2)), F6, rfl, hs140.clear, ⟨ar131_0_2, nr131_0_2, rfl, hbr131_0_2, hsr131_0_2⟩⟩
         ·refine Vgs hb128 1 ?_
          refine Lg hb128 hs125.at3 ?_
          refine Vgs hb128 2 ?_
          refine Sp h130 (fun hb141 h142 => ?_) (fun hb141 h143 => ?_)
          ·cases h142
          ·cases h143
        ·refine Ss hb117 3 ?_
         refine Pk0 hb117 ?_
         refine Vs 1 ?_
         refine Vg 68 0 8 false 67 rfl (fa 33 1 0 0 1 b21 0 0) ?_
         refine Vg 69 3 8 false 67 rfl (ld 3 68 b21 0 false 1 (vi x0.Op) hs91.at3) ?_
         refine Vg 70 4 8 false 67 rfl (NY (t := 3) (t' := 3) (x := (.tmp 69)) (y := (.const (vi 7))) (k := .i64) (a := x0.Op) (b := 7) rfl rfl) ?_
         refine Vg 71 4 8 false 67 rfl (mv 70 (.bool (x0.Op == 7))) ?_
         refine Sp h119 (fun hb144 h145 => ?_) (fun hb144 h146 => ?_)
         ·cases h145
         ·cases h146
       ·refine Sc ?_
        refine Ax ?_
        refine Ac ?_
        refine Sq (Rg [0, 1] ?_)
        refine Ld hs91.at3 ?_
        refine St2 (Ai x0 (some ⟨b36, o37, none⟩) n0_2) hs91 (fun w147 hs148 => ?_)
        refine Nt ?_
        refine Rt ?_
        obtain rfl := Ab h116
        exact ⟨rfl, (.agg (Ai x0 (some ⟨b36, o37, none⟩) n0_2)), AB (l := [.cell 2 33]) (by kernel_rfl) (vs := [(.agg (Ai x0 (some ⟨b36, o37, none⟩) n0_2))]) ⟨b24, 0, rfl, Ak (t := 33) (g := true) (s := 3) (by kernel_rfl) hs148.at2 rfl (by decide), trivial⟩, (.agg (Ai x0 (some ⟨b36, o37, none⟩) n0_2)), F3, rfl, hs148.clear, ⟨(some ⟨b36, o37, none⟩), n0_2, rfl, hb0_2, (SJ hs0_2 ((le67.trans le77).trans le92))⟩⟩
     ·refine Sq ?_
      refine Sq (Rg [0, 1] ?_)
      refine Vs 2 ?_
      refine Nt ?_
      refine SN (fun f w => ∃ (F7 : Mem), HS w0 F0 w F7 [(sb b60 (Ai x54 ae58_2 ne58_2) 33), (sb b46 (Ai x32 ae44_2 ne44_2) 33), (sb b24 #[(vi 0), (vi 0), (.slice none ([] : List Expr).length 0)] 33), (sb b21 (Ai x0 (some ⟨b36, o37, none⟩) n0_2) 33)] /\ SG F2 F7 /\ FI f [] [(1, (pt b21 0)), (2, (pt b24 0)), (3, (pt b46 0)), (4, (pt b60 0)), (5, (.bool ((x32.Op == 1) && (x54.Op == 1)))), (49, (vi x0.Op)), (83, (.bool (bif (x0.Op == 4) then (x0.Op == 4) else (x0.Op == 5))))]) ?_ ?_
      ·refine Cp (x0.Op == 4) (fun hb160 => ?_) (fun hb160 => ?_)
       ·refine Sc ?_
        exact .inl ⟨rfl, F2, hs76, (SH _), (fJ ⟨rfl, rfl, rfl, rfl, rfl, rfl, (congrArg Value.bool (IC hb160 rfl)), trivial⟩)⟩
       ·refine Rg [0, 1] ?_
        refine Vs 2 ?_
        refine SC ?_
        exact .inl ⟨rfl, F2, hs76, (SH _), (fJ ⟨rfl, rfl, rfl, rfl, rfl, rfl, (congrArg Value.bool (ID hb160 rfl)), trivial⟩)⟩
      ·rintro f w149 ⟨F7, hs150, le151, ⟨_, rfl⟩⟩
       refine Ac ?_
       refine Cd h89 (fun hb161 h162 => ?_) (fun hb161 h163 => ?_)
       ·cases h162
       ·refine Sq ?_
        refine Sq (Rg [0, 1] ?_)
        refine Vs 2 ?_
        refine Nt ?_
        refine SN (fun f w => ∃ (F8 : Mem), HS w0 F0 w F8 [(sb b60 (Ai x54 ae58_2 ne58_2) 33), (sb b46 (Ai x32 ae44_2 ne44_2) 33), (sb b24 #[(vi 0), (vi 0), (.slice none ([] : List Expr).length 0)] 33), (sb b21 (Ai x0 (some ⟨b36, o37, none⟩) n0_2) 33)] /\ SG F7 F8 /\ FI f [] [(1, (pt b21 0)), (2, (pt b24 0)), (3, (pt b46 0)), (4, (pt b60 0)), (5, (.bool ((x32.Op == 1) && (x54.Op == 1)))), (49, (vi x0.Op)), (90, (.bool (bif (x0.Op == 8) then (x0.Op == 8) else (bif (x0.Op == 9) then (x0.Op == 9) else (x0.Op == 10)))))]) ?_ ?_
        ·refine Cp (x0.Op == 8) (fun hb175 => ?_) (fun hb175 => ?_)
         ·refine Sc ?_
          exact .inl ⟨rfl, F7, hs150, (SH _), (fJ ⟨rfl, rfl, rfl, rfl, rfl, rfl, (congrArg Value.bool (IC hb175 rfl)), trivial⟩)⟩
         ·refine Sq (Rg [0, 1] ?_)
          refine Vs 2 ?_
          refine Nt ?_
          refine SN (fun f w => ∃ (F9 : Mem), HS w0 F0 w F9 [(sb b60 (Ai x54 ae58_2 ne58_2) 33), (sb b46 (Ai x32 ae44_2 ne44_2) 33), (sb b24 #[(vi 0), (vi 0), (.slice none ([] : List Expr).length 0)] 33), (sb b21 (Ai x0 (some ⟨b36, o37, none⟩) n0_2) 33)] /\ SG F7 F9 /\ FI f [] [(1, (pt b21 0)), (2, (pt b24 0)), (3, (pt b46 0)), (4, (pt b60 0)), (5, (.bool ((x32.Op == 1) && (x54.Op == 1)))), (49, (vi x0.Op)), (90, (.bool (bif (x0.Op == 9) then (x0.Op == 9) else (x0.Op == 10))))]) ?_ ?_
          ·refine Cp (x0.Op == 9) (fun hb187 => ?_) (fun hb187 => ?_)
           ·refine Sc ?_
            exact .inl ⟨rfl, F7, hs150, (SH _), (fJ ⟨rfl, rfl, rfl, rfl, rfl, rfl, (congrArg Value.bool (IC hb187 rfl)), trivial⟩)⟩
           ·refine Rg [0, 1] ?_
            refine Vs 2 ?_
            refine SC ?_
            exact .inl ⟨rfl, F7, hs150, (SH _), (fJ ⟨rfl, rfl, rfl, rfl, rfl, rfl, (congrArg Value.bool (ID hb187 rfl)), trivial⟩)⟩
          ·rintro f w176 ⟨F9, hs177, le178, ⟨_, rfl⟩⟩
           exact .inl ⟨rfl, F9, hs177, le178, (fJ ⟨rfl, rfl, rfl, rfl, rfl, rfl, (congrArg Value.bool (ID hb175 rfl)), trivial⟩)⟩
        ·rintro f w164 ⟨F8, hs165, le166, ⟨_, rfl⟩⟩
         refine Ac ?_
         refine Cd h163 (fun hb188 h189 => ?_) (fun hb188 h190 => ?_)
         ·refine Sq ?_
          refine Sq ?_
          obtain ⟨j196, hj204, h205⟩ := bind_some h189
          refine RD 4 4 [(sb b60 (Ai x54 ae58_2 ne58_2) 33), (sb b46 (Ai x32 ae44_2 ne44_2) 33), (sb b24 #[(vi 0), (vi 0), (.slice none ([] : List Expr).length 0)] 33), (sb b21 (Ai x0 (some ⟨b36, o37, none⟩) n0_2) 33)] [] hs165 (fun f w => ∃ (F10 : Mem), HS w0 F0 w F10 [(sb b60 (Ai x54 ae58_2 ne58_2) 33), (sb b46 (Ai x32 ae44_2 ne44_2) 33), (sb b24 #[(vi 0), (vi 0), (.slice none ([] : List Expr).length 0)] 33), (sb b21 (Ai x0 (some ⟨b36, o37, none⟩) n0_2) 33)] /\ SG F8 F10 /\ FI f [] [(1, (pt b21 0)), (2, (pt b24 0)), (3, (pt b46 0)), (4, (pt b60 0)), (5, (.bool ((x32.Op == 1) && (x54.Op == 1)))), (6, (vi j196))]) (fun wd191 hw192 => ?_) ?_
          ·refine Dl 0 (fun _ hq => (hq.1.2 3 _ _ rfl)) ?_
           refine D1 1 ?_
           obtain ⟨r206, hm207, h208⟩ := bind_some hj204
           refine Ay.makeSlice (l' := [true, true, false, false]) (zd := true) (by kernel_rfl) (by kernel_rfl) (dst := (some 95)) (ty := 47) (g := none) (by kernel_rfl) rfl (x := (.const (vi 14))) (y := (.const (vi 14))) (t := 47) (by_ := 8) (z := (vi 0)) (T := Ci) (E := 3) rfl rfl (by kernel_rfl) (by decide) (by kernel_rfl) (z0 := 0) (fun _ => rfl) (by decide) hw192 hm207 (SH _) (by simp) (fun e => by cases e) (fun b209 n210 C211 w212 (hs213 : HS w0 F0 w212 F8 [(some b209, .cells C211 3 (0, 0)), (sb b60 (Ai x54 ae58_2 ne58_2) 33), (sb b46 (Ai x32 ae44_2 ne44_2) 33), (sb b24 #[(vi 0), (vi 0), (.slice none ([] : List Expr).length 0)] 33), (sb b21 (Ai x0 (some ⟨b36, o37, none⟩) n0_2) 33)]) hr214 => ?_)
           refine D1 2 ?_
           have hb219 := SW hr214
           obtain ⟨F11, hs216, le217, hs218⟩ := hs213.fr0 hr214
           obtain ⟨r220, hr221, h222⟩ := bind_some h208
           refine DCl Dg hs216 (E3 N w212 F11 hs216.pers x0 (some ⟨b36, o37, none⟩) n0_2 hb0_2 (SJ hs0_2 ((((le67.trans le77).trans le151).trans le166).trans le217)) r206 (some ⟨b209, 0, none⟩) n210 hb219 hs218 _ hr221) ?_
           rintro _ F12 w224 hs225 le226 rfl
           refine Dv [3] ?_
           obtain rfl := Ab h222
           exact SV (by kernel_rfl) ⟨F12, hs225, (le217.trans le226), fI⟩
          ·rintro f w193 ⟨F10, hs194, le195, ⟨_, rfl⟩⟩
           refine Ac ?_
           refine Sq (Rg [0, 1, 2, 3, 4] ?_)
           refine SM (fun f w => ∃ (F13 : Mem), HS w0 F0 w F13 [(sb b60 (Ai x54 ae58_2 ne58_2) 33), (sb b46 (Ai x32 ae44_2 ne44_2) 33), (sb b24 #[(vi 0), (vi 0), (.slice none ([] : List Expr).length 0)] 33), (sb b21 (Ai x0 (some ⟨b36, o37, none⟩) n0_2) 33)] /\ SG F10 F13 /\ FI f [] [(1, (pt b21 0)), (2, (pt b24 0)), (3, (pt b46 0)), (4, (pt b60 0)), (6, (vi j196)), (101, (.bool (((x32.Op == 1) && (x54.Op == 1)) && (decide (j196 >= 0)))))]) ?_ ?_
           ·refine Vs 2 ?_
            refine SL ((x32.Op == 1) && (x54.Op == 1)) (fun hb238 => ?_) (fun hb238 => ?_)
            ·refine Vgs hb238 2 ?_
             refine Pk1 hb238 ?_
             exact SC ⟨rfl, F10, hs194, (SH _), (fJ ⟨rfl, rfl, rfl, rfl, rfl, (congrArg Value.bool (D0 hb238 rfl)), trivial⟩)⟩
            ·refine Ss hb238 2 ?_
             refine Pk0 hb238 ?_
             exact SC ⟨rfl, F10, hs194, (SH _), (fJ ⟨rfl, rfl, rfl, rfl, rfl, (congrArg Value.bool (GI hb238 rfl)), trivial⟩)⟩
           ·rintro f w228 ⟨F13, hs229, le230, ⟨_, rfl⟩⟩
            refine Ac ?_
            refine Cd h205 (fun hb239 h240 => ?_) (fun hb239 h241 => ?_)
            ·refine Sq (Rg [0, 1, 2] ?_)
             refine Vs 1 ?_
             obtain ⟨r242, hr243, h244⟩ := bind_some h240
             refine Cl' Dh hs229 (DE N w228 F13 hs229.pers j196 _ hr243) ?_
             rintro _ F14 w246 hs247 le248 ⟨ar242_0_2, nr242_0_2, rfl, hbr242_0_2, hsr242_0_2⟩
             refine St2 (Ai r242 ar242_0_2 nr242_0_2) hs247 (fun w250 hs251 => ?_)
             refine Nt ?_
             refine Rt ?_
             refine Aj ?_
             refine Al ?_
             refine Aj ?_
             obtain rfl := Ab h244
             exact ⟨rfl, (.agg (Ai r242 ar242_0_2 nr242_0_2)), AB (l := [.cell 2 33]) (by kernel_rfl) (vs := [(.agg (Ai r242 ar242_0_2 nr242_0_2))]) ⟨b24, 0, rfl, Ak (t := 33) (g := true) (s := 3) (by kernel_rfl) hs251.at2 rfl (by decide), trivial⟩, (.agg (Ai r242 ar242_0_2 nr242_0_2)), F14, rfl, hs251.clear, ⟨ar242_0_2, nr242_0_2, rfl, hbr242_0_2, hsr242_0_2⟩⟩
            ·refine Sc ?_
             refine Ac ?_
             refine Sq (Rg [0, 1, 2, 3, 4] ?_)
             refine Ld hs229.at3 ?_
             refine Ld hs229.at1 ?_
             refine Ld hs229.at0 ?_
             obtain ⟨r252, hr253, h254⟩ := bind_some h241
             refine Cl' Iu hs229 (I8 N w228 F13 hs229.pers x0 (some ⟨b36, o37, none⟩) n0_2 hb0_2 (SJ hs0_2 (((((le67.trans le77).trans le151).trans le166).trans le195).trans le230)) x32 ae44_2 ne44_2 hbe44_2 (SJ hse44_2 (((((le67.trans le77).trans le151).trans le166).trans le195).trans le230)) x54 ae58_2 ne58_2 hbe58_2 (SJ hse58_2 (((((le67.trans le77).trans le151).trans le166).trans le195).trans le230)) _ hr253) ?_
             rintro _ F15 w256 hs257 le258 ⟨ar252_0_2, nr252_0_2, rfl, hbr252_0_2, hsr252_0_2⟩
             refine St2 (Ai r252 ar252_0_2 nr252_0_2) hs257 (fun w260 hs261 => ?_)
             refine Nt ?_
             refine Rt ?_
             refine Al ?_
             refine Aj ?_
             obtain rfl := Ab h254
             exact ⟨rfl, (.agg (Ai r252 ar252_0_2 nr252_0_2)), AB (l := [.cell 2 33]) (by kernel_rfl) (vs := [(.agg (Ai r252 ar252_0_2 nr252_0_2))]) ⟨b24, 0, rfl, Ak (t := 33) (g := true) (s := 3) (by kernel_rfl) hs261.at2 rfl (by decide), trivial⟩, (.agg (Ai r252 ar252_0_2 nr252_0_2)), F15, rfl, hs261.clear, ⟨ar252_0_2, nr252_0_2, rfl, hbr252_0_2, hsr252_0_2⟩⟩
         ·refine Sq (Rg [0, 1] ?_)
          refine Vs 2 ?_
          refine Nt ?_
          refine Cd h190 (fun hb262 h263 => ?_) (fun hb262 h264 => ?_)
          ·refine Bk ?_
           refine Sq (Rg [0, 1, 2] ?_)
           refine Ld hs165.at1 ?_
           obtain ⟨r265, hr266, h267⟩ := bind_some h263
           refine Cl' Fi hs165 (FO N w164 F8 hs165.pers x32 ae44_2 ne44_2 hbe44_2 (SJ hse44_2 (((le67.trans le77).trans le151).trans le166)) true _ hr266) ?_
           rintro _ F16 w269 hs270 le271 rfl
           refine Vs 1 ?_
           refine Nt ?_
           refine Cd h267 (fun hb273 h274 => ?_) (fun hb273 h275 => ?_)
           ·refine Sq (Rg [0, 1] ?_)
            refine Ld hs270.at0 ?_
            refine St2 (Ai x54 ae58_2 ne58_2) hs270 (fun w276 hs277 => ?_)
            refine Nt ?_
            refine Rt ?_
            refine Al ?_
            refine Al ?_
            refine Aj ?_
            obtain rfl := Ab h274
            exact ⟨rfl, (.agg (Ai x54 ae58_2 ne58_2)), AB (l := [.cell 2 33]) (by kernel_rfl) (vs := [(.agg (Ai x54 ae58_2 ne58_2))]) ⟨b24, 0, rfl, Ak (t := 33) (g := true) (s := 3) (by kernel_rfl) hs277.at2 rfl (by decide), trivial⟩, (.agg (Ai x54 ae58_2 ne58_2)), F16, rfl, hs277.clear, ⟨ae58_2, ne58_2, rfl, hbe58_2, (SJ hse58_2 ((((le67.trans le77).trans le151).trans le166).trans le271))⟩⟩
           ·refine Sq (Rg [0, 1, 2] ?_)
            refine Ld hs270.at1 ?_
            obtain ⟨r278, hr279, h280⟩ := bind_some h275
            refine Cl' Fi hs270 (FO N w269 F16 hs270.pers x32 ae44_2 ne44_2 hbe44_2 (SJ hse44_2 ((((le67.trans le77).trans le151).trans le166).trans le271)) false _ hr279) ?_
            rintro _ F17 w282 hs283 le284 rfl
            refine Vs 1 ?_
            refine Nt ?_
            refine Cd h280 (fun hb286 h287 => ?_) (fun hb286 h288 => ?_)
            ·refine Sq (Rg [0, 1, 2, 3, 4] ?_)
             refine Vs 1 ?_
             refine Ld hs283.at3 ?_
             obtain ⟨x289, hx290, h292⟩ := bind_some h287
             obtain ⟨hi291, hx290'⟩ := Aw hx290
             obtain ⟨ae293_2, ne293_2, hc294, hbe293_2, hse293_2⟩ := (AR (hE43 _ _ hx290'))
             refine Ix hi291 ?_
             refine Lx 0 (hs283.pers _ _ ((((((le67.trans le77).trans le151).trans le166).trans le271).trans le284) _ _ hF42)) hc294 ?_
             refine St2 (Ai x289 ae293_2 ne293_2) hs283 (fun w295 hs296 => ?_)
             refine Nt ?_
             refine Rt ?_
             refine Al ?_
             refine Al ?_
             refine Aj ?_
             obtain rfl := Ab h292
             exact ⟨rfl, (.agg (Ai x289 ae293_2 ne293_2)), AB (l := [.cell 2 33]) (by kernel_rfl) (vs := [(.agg (Ai x289 ae293_2 ne293_2))]) ⟨b24, 0, rfl, Ak (t := 33) (g := true) (s := 3) (by kernel_rfl) hs296.at2 rfl (by decide), trivial⟩, (.agg (Ai x289 ae293_2 ne293_2)), F17, rfl, hs296.clear, ⟨ae293_2, ne293_2, rfl, hbe293_2, (SJ hse293_2 (((((le67.trans le77).trans le151).trans le166).trans le271).trans le284))⟩⟩
            ·refine Sq ?_
             obtain ⟨j302, hj308, h309⟩ := bind_some h288
             refine RD 7 7 [(sb b60 (Ai x54 ae58_2 ne58_2) 33), (sb b46 (Ai x32 ae44_2 ne44_2) 33), (sb b24 #[(vi 0), (vi 0), (.slice none ([] : List Expr).length 0)] 33), (sb b21 (Ai x0 (some ⟨b36, o37, none⟩) n0_2) 33)] [] hs283 (fun f w => ∃ (F18 : Mem), HS w0 F0 w F18 [(sb b60 (Ai x54 ae58_2 ne58_2) 33), (sb b24 #[(vi 0), (vi 0), (.slice none ([] : List Expr).length 0)] 33), (sb b21 (Ai x0 (some ⟨b36, o37, none⟩) n0_2) 33)] /\ SG F17 F18 /\ FI f [] [(1, (pt b21 0)), (2, (pt b24 0)), (4, (pt b60 0)), (121, (.bool j302))]) (fun wd297 hw298 => ?_) ?_
             ·refine Dl 0 (fun _ hq => (hq.1.2 0 _ _ rfl)) ?_
              refine Dv [1] ?_
              refine Dl 2 (fun _ hq => (hq.1.2 3 _ _ rfl)) ?_
              obtain ⟨x310, hx311, h313⟩ := bind_some hj308
              obtain ⟨hi312, hx311'⟩ := Aw hx311
              obtain ⟨ae314_2, ne314_2, hc315, hbe314_2, hse314_2⟩ := (AR (hE43 _ _ hx311'))
              refine Di 3 hi312 ?_
              refine Dx 4 0 (fun _ hq => hq.1.1 _ _ ((((((le67.trans le77).trans le151).trans le166).trans le271).trans le284) _ _ hF42)) hc315 ?_
              refine D1 5 ?_
              obtain ⟨r316, hr317, h318⟩ := bind_some h313
              refine DCl CQ hw298 (Ej N wd297 F17 hw298.pers x54 ae58_2 ne58_2 hbe58_2 (SJ hse58_2 (((((le67.trans le77).trans le151).trans le166).trans le271).trans le284)) x310 ae314_2 ne314_2 hbe314_2 (SJ hse314_2 (((((le67.trans le77).trans le151).trans le166).trans le271).trans le284)) _ hr317) ?_
              rintro _ F19 w320 hs321 le322 rfl
              refine Dv [6] ?_
              obtain rfl := Ab h318
              exact SV (by kernel_rfl) ⟨F19, hs321.dr1, le322, fI⟩
             ·rintro f w299 ⟨F18, hs300, le301, ⟨_, rfl⟩⟩
              refine Ac ?_
              refine Cd h309 (fun hb324 h325 => ?_) (fun hb324 h326 => ?_)
              ·refine Sq (Rg [0, 1] ?_)
               refine Ld hs300.at0 ?_
               refine St1 (Ai x54 ae58_2 ne58_2) hs300 (fun w327 hs328 => ?_)
               refine Nt ?_
               refine Rt ?_
               refine Al ?_
               refine Al ?_
               refine Aj ?_
               obtain rfl := Ab h325
               exact ⟨rfl, (.agg (Ai x54 ae58_2 ne58_2)), AB (l := [.cell 2 33]) (by kernel_rfl) (vs := [(.agg (Ai x54 ae58_2 ne58_2))]) ⟨b24, 0, rfl, Ak (t := 33) (g := true) (s := 3) (by kernel_rfl) hs328.at1 rfl (by decide), trivial⟩, (.agg (Ai x54 ae58_2 ne58_2)), F18, rfl, hs328.clear, ⟨ae58_2, ne58_2, rfl, hbe58_2, (SJ hse58_2 ((((((le67.trans le77).trans le151).trans le166).trans le271).trans le284).trans le301))⟩⟩
              ·refine Sc ?_
               refine Ax ?_
               refine Ax ?_
               refine Ac ?_
               refine Sq (Rg [0, 1] ?_)
               refine Ld hs300.at2 ?_
               refine St1 (Ai x0 (some ⟨b36, o37, none⟩) n0_2) hs300 (fun w329 hs330 => ?_)
               refine Nt ?_
               refine Rt ?_
               obtain rfl := Ab h326
               exact ⟨rfl, (.agg (Ai x0 (some ⟨b36, o37, none⟩) n0_2)), AB (l := [.cell 2 33]) (by kernel_rfl) (vs := [(.agg (Ai x0 (some ⟨b36, o37, none⟩) n0_2))]) ⟨b24, 0, rfl, Ak (t := 33) (g := true) (s := 3) (by kernel_rfl) hs330.at1 rfl (by decide), trivial⟩, (.agg (Ai x0 (some ⟨b36, o37, none⟩) n0_2)), F18, rfl, hs330.clear, ⟨(some ⟨b36, o37, none⟩), n0_2, rfl, hb0_2, (SJ hs0_2 ((((((le67.trans le77).trans le151).trans le166).trans le271).trans le284).trans le301))⟩⟩
          ·cases h264






def upto (a b : Int) : List Int := (List.range (b + 1 - a).toNat).map fun k : Nat => a + (k : Int)
def Rp : List QH -> List (List Int)
 | [] => [[]]
 | s :: d => (upto s.Lo s.Hi).flatMap fun v => (Rp d).map (v :: ·)
def box : List QH -> List Int -> Prop
 | [], [] => True
 | s :: d, v :: f => (s.Lo <= v /\ v <= s.Hi) /\ box d f
 | _, _ => False
def HK (N : Nat) (x0 : C6) (x1 : (List Int)) : Option (Int × Int) :=
 ((Ji N x0 x1).bind fun r24 => (bif (r24 != 0) then some (0, r24) else ((Jj N x0.Points x1).bind fun r35 => (bif (decide (r35 < 0)) then some (0, 70) else ((idx x0.Points r35).bind fun x46 => ((EH N x46.Then x1).bind fun r60 => some (r60, 0)))))))
theorem JD : Aq Tryz.prog 41 := fun _ _ => by kernel_rfl
theorem KB (N : Nat) (w0 : World) (F0 : Mem) (hF : S1 w0 F0) (x0 : C6) (a0_0 : S0) (n0_0 : Nat) (hb0_0 : LC x0.Points.length n0_0) (hs0_0 : SlA AC F0 a0_0 x0.Points) (a0_1 : S0) (n0_1 : Nat) (hb0_1 : LC x0.Multipliers.length n0_1) (hs0_1 : SlA AC F0 a0_1 x0.Multipliers) (a0_2 : S0) (n0_2 : Nat) (hb0_2 : LC x0.Penalties.length n0_2) (hs0_2 : SlA AC F0 a0_2 x0.Penalties) (a0_3 : S0) (n0_3 : Nat) (hb0_3 : LC x0.Repeats.length n0_3) (hs0_3 : SlA Ar F0 a0_3 x0.Repeats) (x1 : (List Int)) (a1_0 : S0) (n1_0 : Nat) (hb1_0 : LC x1.length n1_0) (hs1_0 : SlA Ci F0 a1_0 x1) (r : (Int × Int)) (h : HK N x0 x1 = some r) :
  Calls Tryz.prog 41 ([(.agg (BC x0 a0_0 n0_0 a0_1 n0_1 a0_2 n0_2 a0_3 n0_3)), (.slice a1_0 x1.length n1_0)] : List Value).toArray w0 (AV w0 F0 fun F' v => v = (.tuple #[(vi r.1), (vi r.2)])) := by
 have hs0 := SI hF
 refine Go 28 Tryz.func41 ?_
 refine Sq (Rg [0, 1, 2] ?_)
 refine Bx' 26 (BC x0 a0_0 n0_0 a0_1 n0_1 a0_2 n0_2 a0_3 n0_3) hs0 (fun b21 w22 hs23 => ?_)
 refine Vs 2 ?_
 refine Nss ?_
 refine Sq (Rg [0, 1, 2, 3] ?_)
 refine Ld hs23.at0 ?_
 refine Vs 1 ?_
 obtain ⟨r24, hr25, h26⟩ := bind_some h
 refine Cl' Kq hs23 (KU N w22 F0 hs23.pers x0 a0_0 n0_0 hb0_0 hs0_0 a0_1 n0_1 hb0_1 hs0_1 a0_2 n0_2 hb0_2 hs0_2 a0_3 n0_3 hb0_3 hs0_3 x1 a1_0 n1_0 hb1_0 hs1_0 _ hr25) ?_
 rintro _ F1 w28 hs29 le30 rfl
 refine Vs 1 ?_
 refine Nss (Rg [0, 1] ?_)
 refine Vs 2 ?_
 refine Nt ?_
 refine Cd h26 (fun hb32 h33 => ?_) (fun hb32 h34 => ?_)
 ·refine Sq (Rg [0, 1, 2] ?_)
  refine Vs 3 ?_
  refine Nt ?_
  refine Rt ?_
  refine Aj ?_
  obtain rfl := Ab h33
  exact Re [(vi 0), (vi r24)] hs29 rfl
 ·refine Sc ?_
  refine Ac ?_
  refine Sq (Rg [0, 1, 2, 3, 4] ?_)
  refine Vs 1 ?_
  refine Ld hs29.at0 ?_
  refine Vs 1 ?_
  obtain ⟨r35, hr36, h37⟩ := bind_some h34
  refine Cl' Kr hs29 (KV N w28 F1 hs29.pers x0.Points a0_0 n0_0 hb0_0 (SJ hs0_0 le30) x1 a1_0 n1_0 hb1_0 (SJ hs1_0 le30) _ hr36) ?_
  rintro _ F2 w39 hs40 le41 rfl
  refine Vs 1 ?_
  refine Nss ?_
  refine Sq (Rg [0, 1] ?_)
  refine Vs 2 ?_
  refine Nt ?_
  refine Cd h37 (fun hb43 h44 => ?_) (fun hb43 h45 => ?_)
  ·refine Sq (Rg [0, 1] ?_)
   refine Vs 2 ?_
   refine Nt ?_
   refine Rt ?_
   refine Aj ?_
   obtain rfl := Ab h44
   exact Re [(vi 0), (vi 70)] hs40 rfl
  ·refine Sc ?_
   refine Ac ?_
   refine Sq (Rg [0, 1, 2, 3, 4, 5, 6, 7, 8, 9] ?_)
   refine Vs 1 ?_
   refine Ld hs40.at0 ?_
   refine Vs 1 ?_
   obtain ⟨x46, hx47, h49⟩ := bind_some h45
   obtain ⟨hi48, hx47'⟩ := Aw hx47
   obtain ⟨b50, o51, C52, E53, fz54, rfl, hF56, hE57⟩ := SQ (SJ hs0_0 (le30.trans le41)) hx47'
   obtain ⟨ae58_2, ne58_2, ae58_5, ne58_5, hc59, hbe58_2, hse58_2, hbe58_5, hse58_5⟩ := hE57 _ _ hx47'
   refine Ix hi48 ?_
   refine Vs 1 ?_
   refine Lx 3 (hs40.pers _ _ hF56) hc59 ?_
   refine Vs 1 ?_
   obtain ⟨r60, hr61, h62⟩ := bind_some h49
   refine Cl' Dg hs40 (E3 N w39 F2 hs40.pers x46.Then ae58_5 ne58_5 hbe58_5 hse58_5 x1 a1_0 n1_0 hb1_0 (SJ hs1_0 (le30.trans le41)) _ hr61) ?_
   rintro _ F3 w64 hs65 le66 rfl
   refine Vs 2 ?_
   refine Nt ?_
   refine Rt ?_
   obtain rfl := Ab h62
   exact Re [(vi r60), (vi 0)] hs65 rfl


































def NK (sR94 : Expr -> Option Expr) : Prop := ∀ (w0 : World) (F0 : Mem) (hF : S1 w0 F0) (x0 : Expr) (a0_2 : S0) (n0_2 : Nat) (hb0_2 : LC x0.Kids.length n0_2) (hs0_2 : SlA Ar F0 a0_2 x0.Kids) (r : Expr), sR94 x0 = some r -> Calls Tryz.prog 94 ([(.agg #[(.int .i64 x0.Op), (.int .i64 x0.Value), (.slice a0_2 x0.Kids.length n0_2)])] : List Value).toArray w0 (AV w0 F0 fun F' v => ∃ (aq0_2 : S0) (nq0_2 : Nat), v = (.agg #[(.int .i64 r.Op), (.int .i64 r.Value), (.slice aq0_2 r.Kids.length nq0_2)]) /\ LC r.Kids.length nq0_2 /\ SlA Ar F' aq0_2 r.Kids)
theorem Eb : Aq Tryz.prog 94 := fun _ _ => by kernel_rfl
def D6 (N : Nat) (sR94 : Expr -> Option Expr) (x0 : Expr) : (Int × List Expr) -> Option (Bn Expr (Int × List Expr)) := fun s37 =>
 (bif (decide (s37.1 < (x0.Kids.length : Int))) then ((idx x0.Kids s37.1).bind fun x63 => (((sR94 x63).bind fun r96 => ((C4 s37.2 [r96]).bind fun r109 => some r109)).bind fun j87 => some (.next ((W64 (s37.1 + 1)), j87)))) else some (.done (s37.1, s37.2)))
def Eo (N : Nat) (sR94 : Expr -> Option Expr) (x0 : Expr) : Option Expr :=
 ((AX (D6 N sR94 x0) N (0, ([] : List Expr))).bind fun o => o.k (fun r => some r) (fun s47 => ((Ha N ({ Op := x0.Op, Value := x0.Value, Kids := s47.2 } : Expr)).bind fun r127 => some r127)))
theorem GX (N : Nat) (sR94 : Expr -> Option Expr) (hsR94 : NK sR94) (w0 : World) (F0 : Mem) (hF : S1 w0 F0) (x0 : Expr) (a0_2 : S0) (n0_2 : Nat) (hb0_2 : LC x0.Kids.length n0_2) (hs0_2 : SlA Ar F0 a0_2 x0.Kids) (r : Expr) (h : Eo N sR94 x0 = some r) :
  Calls Tryz.prog 94 ([(.agg (Ai x0 a0_2 n0_2))] : List Value).toArray w0 (AV w0 F0 fun F' v => ∃ (aq0_2 : S0) (nq0_2 : Nat), v = (.agg (Ai r aq0_2 nq0_2)) /\ LC r.Kids.length nq0_2 /\ SlA Ar F' aq0_2 r.Kids) := by
 have hs0 := SI hF
 refine Go 28 Tryz.func94 ?_
 refine Sq (Rg [0, 1] ?_)
 refine Bx' 33 (Ai x0 a0_2 n0_2) hs0 (fun b21 w22 hs23 => ?_)
 refine Al' 33 #[(vi 0), (vi 0), (.slice none ([] : List Expr).length 0)] hs23 (fun b24 w25 hs26 => ?_)
 refine Nss (Rg [0, 1, 2, 3, 4, 5, 6] ?_)
 refine Vs 1 ?_
 refine Ld hs26.at1 ?_
 refine Vs 1 ?_
 refine Ld hs26.at1 ?_
 refine Vs 1 ?_
 refine Al' 33 #[(vi 0), (vi 0), (.slice none ([] : List Expr).length 0)] hs26 (fun b27 w28 hs29 => ?_)
 refine St0 #[(vi x0.Op), (vi x0.Value), (.slice none ([] : List Expr).length 0)] hs29 (fun w30 hs31 => ?_)
 refine Nss ?_
 refine Sq (Rg [0, 1, 2, 3] ?_)
 refine Vs 1 ?_
 refine Ld hs31.at2 ?_
 refine Vs 2 ?_
 refine Nt ?_
 have hs32 := hs31.dr2.dummy (oc #[] 0)
 obtain ⟨o34, ho35, h36⟩ := bind_some h
 refine SN (fun f w => ∃ (s47 : (Int × List Expr)) (F2 : Mem) (as47_1 : S0) (ns47_1 : Nat) (es47_1 : Option Nat × Obj), o34 = .done s47 /\ HS w0 F0 w F2 [es47_1, (sb b27 #[(vi x0.Op), (vi x0.Value), (.slice as47_1 s47.2.length ns47_1)] 33), (sb b24 #[(vi 0), (vi 0), (.slice none ([] : List Expr).length 0)] 33)] /\ SG F0 F2 /\ FI f [] [(2, (pt b24 0)), (3, (pt b27 0))] /\ Av Ar 33 F2 as47_1 ns47_1 s47.2 es47_1) ?_ ?_
 ·refine Bk ?_
  refine SF (by kernel_rfl) (fun m f w => ∃ (s37 : (Int × List Expr)) (F1 : Mem) (as37_1 : S0) (ns37_1 : Nat) (es37_1 : Option Nat × Obj), AX (D6 N sR94 x0) m s37 = some o34 /\ HS w0 F0 w F1 [es37_1, (sb b27 #[(vi x0.Op), (vi x0.Value), (.slice as37_1 s37.2.length ns37_1)] 33), (sb b24 #[(vi 0), (vi 0), (.slice none ([] : List Expr).length 0)] 33)] /\ SG F0 F1 /\ FI f [] [(2, (pt b24 0)), (3, (pt b27 0)), (12, (.slice a0_2 x0.Kids.length n0_2)), (13, (vi (x0.Kids.length : Int))), (14, (vi s37.1))] /\ Av Ar 33 F1 as37_1 ns37_1 s37.2 es37_1) N ⟨(0, ([] : List Expr)), F0, none, 0, (none, .cells #[] 0 (0, 0)), ho35, hs32, (SH _), fI, (Av.nil Ar 33 F0 _)⟩ ?_
  rintro m54 f w38 ⟨s37, F1, as37_1, ns37_1, es37_1, hit55, hs39, le40, ⟨_, rfl⟩, hrs37_1⟩
  obtain ⟨m56, fl57, rfl, hb58, hnx59⟩ := Bf hit55
  refine Sq (Rg [0] ?_)
  refine Vs 1 ?_
  refine Nss ?_
  refine Cd hb58 (fun hb60 h61 => ?_) (fun hb60 h62 => ?_)
  ·refine Sc ?_
   refine Ac ?_
   refine Sq ?_
   refine Bk ?_
   refine Sq (Rg [0, 1, 2, 3] ?_)
   obtain ⟨x63, hx64, h66⟩ := bind_some h61
   obtain ⟨hi65, hx64'⟩ := Aw hx64
   obtain ⟨b67, o68, C69, E70, fz71, rfl, hF73, hE74⟩ := SQ (SJ hs0_2 le40) hx64'
   obtain ⟨ae75_2, ne75_2, hc76, hbe75_2, hse75_2⟩ := (AR (hE74 _ _ hx64'))
   refine Ix hi65 ?_
   refine Lx 0 (hs39.pers _ _ hF73) hc76 ?_
   refine Al' 33 #[(vi 0), (vi 0), (.slice none ([] : List Expr).length 0)] hs39 (fun b77 w78 hs79 => ?_)
   refine St0 (Ai x63 ae75_2 ne75_2) hs79 (fun w80 hs81 => ?_)
   refine Nt ?_
   obtain ⟨j87, hj94, h95⟩ := bind_some h66
   refine RD 7 8 [(sb b77 (Ai x63 ae75_2 ne75_2) 33), (sb b24 #[(vi 0), (vi 0), (.slice none ([] : List Expr).length 0)] 33)] [(sb b27 #[(vi x0.Op), (vi x0.Value), (.slice as37_1 s37.2.length ns37_1)] 33)] hs81 (fun f w => ∃ (F3 : Mem) (aj87_0 : S0) (nj87_0 : Nat) (ej87_0 : Option Nat × Obj), HS w0 F0 w F3 [ej87_0, (sb b27 #[(vi x0.Op), (vi x0.Value), (.slice aj87_0 j87.length nj87_0)] 33), (sb b24 #[(vi 0), (vi 0), (.slice none ([] : List Expr).length 0)] 33)] /\ SG F1 F3 /\ FI f [] [(2, (pt b24 0)), (3, (pt b27 0)), (12, (.slice (some ⟨b67, o68, none⟩) x0.Kids.length n0_2)), (13, (vi (x0.Kids.length : Int))), (14, (vi s37.1))] /\ Av Ar 33 F3 aj87_0 nj87_0 j87 ej87_0) (fun wd82 hw83 => ?_) ?_
   ·refine Dv [0] ?_
    refine Dl 1 (fun _ hq => ((hq.2 rfl).2 0 _ _ rfl)) ?_
    refine Dl 2 (fun _ hq => (hq.1.2 0 _ _ rfl)) ?_
    refine D1 3 ?_
    obtain ⟨r96, hr97, h98⟩ := bind_some hj94
    refine DCl Eb hw83 (hsR94 wd82 F1 hw83.pers x63 ae75_2 ne75_2 hbe75_2 hse75_2 _ hr97) ?_
    rintro _ F4 w100 hs101 le102 ⟨ar96_0_2, nr96_0_2, rfl, hbr96_0_2, hsr96_0_2⟩
    refine D1 4 ?_
    refine DBs 33 [(vi r96.Op), (vi r96.Value), (.slice ar96_0_2 r96.Kids.length nr96_0_2)] hs101 le102 (fun b104 w105 hs106 => ?_)
    have hr108 : Av Ar 33 F4 (some ⟨b104, 0, none⟩) 1 [r96] (some b104, .cells ([(vi r96.Op), (vi r96.Value), (.slice ar96_0_2 r96.Kids.length nr96_0_2)] : List Value).toArray 33 (0, 0)) := SX ⟨(A6 ⟨ar96_0_2, nr96_0_2, rfl, hbr96_0_2, hsr96_0_2⟩), rfl⟩ (by simp)
    refine D1 5 ?_
    obtain ⟨r109, hap110, h111⟩ := bind_some h98
    refine Sy Pn hs106 (hrs37_1.mono le102) (hs106.rd0 hr108) hap110 le102 (fun a112 n113 e114 w115 hs116 hr117 => ?_)
    refine Dv [6] ?_
    refine D1 7 ?_
    refine Rx #[(vi x0.Op), (vi x0.Value), (.slice a112 r109.length n113)] hs116 le102 (fun w118 hs119 => ?_)
    obtain rfl := Ab h111
    exact SV (by kernel_rfl) ⟨F4, a112, n113, e114, hs119.dr0.dr0, le102, fI, hr117⟩
   ·rintro f w84 ⟨F3, aj87_0, nj87_0, ej87_0, hs85, le86, ⟨_, rfl⟩, hrj87_0⟩
    refine Ax ?_
    refine Ac ?_
    refine Rg [0, 1] ?_
    refine Vs 2 ?_
    refine SC ?_
    have hn120 := A8 h95 hnx59
    exact ⟨m56, Nat.lt_succ_self _, ((W64 (s37.1 + 1)), j87), F3, aj87_0, nj87_0, ej87_0, hn120, hs85, (le40.trans le86), fI, hrj87_0⟩
  ·refine Ex ?_
   refine AF ?_
   refine AF ?_
   refine AZ rfl ?_
   have ho121 := Bm h62 hnx59
   exact .inl ⟨rfl, (s37.1, s37.2), F1, as37_1, ns37_1, es37_1, ho121, hs39, le40, fI, hrs37_1⟩
 ·rintro f w48 ⟨s47, F2, as47_1, ns47_1, es47_1, rfl, hs49, le50, ⟨_, rfl⟩, hrs47_1⟩
  have h122 := Cu h36
  refine Ac ?_
  refine Sq (Rg [0, 1, 2] ?_)
  refine Ld hs49.at1 ?_
  have hb126 := SW hrs47_1
  obtain ⟨F5, hs123, le124, hs125⟩ := hs49.fr0 hrs47_1
  obtain ⟨r127, hr128, h129⟩ := bind_some h122
  refine Cl' I2 hs123 (JH N w48 F5 hs123.pers (({ Op := x0.Op, Value := x0.Value, Kids := s47.2 } : Expr)) as47_1 ns47_1 hb126 hs125 _ hr128) ?_
  rintro _ F6 w131 hs132 le133 ⟨ar127_0_2, nr127_0_2, rfl, hbr127_0_2, hsr127_0_2⟩
  refine St1 (Ai r127 ar127_0_2 nr127_0_2) hs132 (fun w135 hs136 => ?_)
  refine Nt ?_
  refine Rt ?_
  obtain rfl := Ab h129
  exact ⟨rfl, (.agg (Ai r127 ar127_0_2 nr127_0_2)), AB (l := [.cell 2 33]) (by kernel_rfl) (vs := [(.agg (Ai r127 ar127_0_2 nr127_0_2))]) ⟨b24, 0, rfl, Ak (t := 33) (g := true) (s := 3) (by kernel_rfl) hs136.at1 rfl (by decide), trivial⟩, (.agg (Ai r127 ar127_0_2 nr127_0_2)), F6, rfl, hs136.clear, ⟨ar127_0_2, nr127_0_2, rfl, hbr127_0_2, hsr127_0_2⟩⟩
structure R5 where
 q94 : Expr -> Option Expr
def NZ (N : Nat) : Nat -> R5
 | 0 => ⟨fun _ => none⟩
 | k + 1 => ⟨Eo N (NZ N k).q94⟩
theorem Mw (N : Nat) : ∀ k, NK (NZ N k).q94
 | 0 => (by unfold NK; intros; rename_i h; cases h)
 | k + 1 => by
  have ih := Mw N k
  exact @GX N (NZ N k).q94 ih
def Fc (N : Nat) (x0 : Expr) : Option Expr := (NZ N N).q94 x0
theorem Hv (N : Nat) (w0 : World) (F0 : Mem) (hF : S1 w0 F0) (x0 : Expr) (a0_2 : S0) (n0_2 : Nat) (hb0_2 : LC x0.Kids.length n0_2) (hs0_2 : SlA Ar F0 a0_2 x0.Kids) (r : Expr) (h : Fc N x0 = some r) :
  Calls Tryz.prog 94 ([(.agg #[(.int .i64 x0.Op), (.int .i64 x0.Value), (.slice a0_2 x0.Kids.length n0_2)])] : List Value).toArray w0 (AV w0 F0 fun F' v => ∃ (aq0_2 : S0) (nq0_2 : Nat), v = (.agg #[(.int .i64 r.Op), (.int .i64 r.Value), (.slice aq0_2 r.Kids.length nq0_2)]) /\ LC r.Kids.length nq0_2 /\ SlA Ar F' aq0_2 r.Kids) := (Mw N N) w0 F0 hF x0 a0_2 n0_2 hb0_2 hs0_2 r h
def Gc (N : Nat) (x0 : Expr) : Option (Expr × Int) :=
 ((CW N x0).bind fun r27 => (bif (!r27) then some (({ Op := 0, Value := 0, Kids := ([] : List Expr) } : Expr), 61) else ((Fc N x0).bind fun r40 => some (r40, 0))))
theorem Iw : Aq Tryz.prog 30 := fun _ _ => by kernel_rfl
theorem I9 (N : Nat) (w0 : World) (F0 : Mem) (hF : S1 w0 F0) (x0 : Expr) (a0_2 : S0) (n0_2 : Nat) (hb0_2 : LC x0.Kids.length n0_2) (hs0_2 : SlA Ar F0 a0_2 x0.Kids) (r : (Expr × Int)) (h : Gc N x0 = some r) :
  Calls Tryz.prog 30 ([(.agg (Ai x0 a0_2 n0_2))] : List Value).toArray w0 (AV w0 F0 fun F' v => ∃ (aq0_2 : S0) (nq0_2 : Nat), v = (.tuple #[(.agg (Ai r.1 aq0_2 nq0_2)), (vi r.2)]) /\ LC r.1.Kids.length nq0_2 /\ SlA Ar F' aq0_2 r.1.Kids) := by
 have hs0 := SI hF
 refine Go 10 Tryz.func30 ?_
 refine Sq (Rg [0, 1, 2] ?_)
 refine Bx' 33 (Ai x0 a0_2 n0_2) hs0 (fun b21 w22 hs23 => ?_)
 refine Al' 33 #[(vi 0), (vi 0), (.slice none ([] : List Expr).length 0)] hs23 (fun b24 w25 hs26 => ?_)
 refine Vs 1 ?_
 refine Nss ?_
 refine Sq (Rg [0, 1, 2] ?_)
 refine Ld hs26.at1 ?_
 obtain ⟨r27, hr28, h29⟩ := bind_some h
 refine Cl' Ey hs26 (E4 N w25 F0 hs26.pers x0 a0_2 n0_2 hb0_2 hs0_2 _ hr28) ?_
 rintro _ F1 w31 hs32 le33 rfl
 refine Vs 1 ?_
 refine Nt ?_
 refine Cd h29 (fun hb35 h36 => ?_) (fun hb35 h37 => ?_)
 ·refine Sq (Rg [0, 1, 2] ?_)
  refine Vs 1 ?_
  refine St0 #[(vi 0), (vi 0), (.slice none ([] : List Expr).length 0)] hs32 (fun w38 hs39 => ?_)
  refine Vs 1 ?_
  refine Nt ?_
  refine Rt ?_
  refine Aj ?_
  obtain rfl := Ab h36
  exact ⟨rfl, (.tuple #[(.agg #[(vi 0), (vi 0), (.slice none ([] : List Expr).length 0)]), (vi 61)]), AB (l := [.cell 2 33, .tmp 3]) (by kernel_rfl) (vs := [(.agg #[(vi 0), (vi 0), (.slice none ([] : List Expr).length 0)]), (vi 61)]) ⟨b24, 0, rfl, Ak (t := 33) (g := true) (s := 3) (by kernel_rfl) hs39.at0 rfl (by decide), ⟨rfl, trivial⟩⟩, (.tuple #[(.agg #[(vi 0), (vi 0), (.slice none ([] : List Expr).length 0)]), (vi 61)]), F1, rfl, hs39.clear, ⟨none, 0, rfl, SK, (.inl rfl)⟩⟩
 ·refine Sc ?_
  refine Ac ?_
  refine Sq (Rg [0, 1, 2, 3] ?_)
  refine Ld hs32.at1 ?_
  obtain ⟨r40, hr41, h42⟩ := bind_some h37
  refine Cl' Eb hs32 (Hv N w31 F1 hs32.pers x0 a0_2 n0_2 hb0_2 (SJ hs0_2 le33) _ hr41) ?_
  rintro _ F2 w44 hs45 le46 ⟨ar40_0_2, nr40_0_2, rfl, hbr40_0_2, hsr40_0_2⟩
  refine St0 (Ai r40 ar40_0_2 nr40_0_2) hs45 (fun w48 hs49 => ?_)
  refine Vs 1 ?_
  refine Nt ?_
  refine Rt ?_
  obtain rfl := Ab h42
  exact ⟨rfl, (.tuple #[(.agg (Ai r40 ar40_0_2 nr40_0_2)), (vi 0)]), AB (l := [.cell 2 33, .tmp 3]) (by kernel_rfl) (vs := [(.agg (Ai r40 ar40_0_2 nr40_0_2)), (vi 0)]) ⟨b24, 0, rfl, Ak (t := 33) (g := true) (s := 3) (by kernel_rfl) hs49.at0 rfl (by decide), ⟨rfl, trivial⟩⟩, (.tuple #[(.agg (Ai r40 ar40_0_2 nr40_0_2)), (vi 0)]), F2, rfl, hs49.clear, ⟨ar40_0_2, nr40_0_2, rfl, hbr40_0_2, hsr40_0_2⟩⟩
def Ck (N : Nat) (x0 : Int) : Option (B1 × Bool) :=
 (bif (x0 == 5) then some (({ text_ := ([111, 114] : SZ), rank_ := 1, left_ := 1, right_ := 2 } : B1), true) else (bif (x0 == 4) then some (({ text_ := ([97, 110, 100] : SZ), rank_ := 2, left_ := 2, right_ := 3 } : B1), true) else (bif (x0 == 6) then some (({ text_ := ([61] : SZ), rank_ := 4, left_ := 5, right_ := 5 } : B1), true) else (bif (x0 == 7) then some (({ text_ := ([60] : SZ), rank_ := 4, left_ := 5, right_ := 5 } : B1), true) else (bif (x0 == 8) then some (({ text_ := ([43] : SZ), rank_ := 5, left_ := 5, right_ := 6 } : B1), true) else (bif (x0 == 9) then some (({ text_ := ([45] : SZ), rank_ := 5, left_ := 5, right_ := 6 } : B1), true) else (bif (x0 == 10) then some (({ text_ := ([42] : SZ), rank_ := 6, left_ := 6, right_ := 7 } : B1), true) else some (({ text_ := ([] : SZ), rank_ := 0, left_ := 0, right_ := 0 } : B1), false))))))))
theorem JB : Aq Tryz.prog 150 := fun _ _ => by kernel_rfl
theorem Kz (N : Nat) (w0 : World) (F0 : Mem) (hF : S1 w0 F0) (x0 : Int) (r : (B1 × Bool)) (h : Ck N x0 = some r) :
  Calls Tryz.prog 150 ([(vi x0)] : List Value).toArray w0 (AV w0 F0 fun F' v => v = (.tuple #[(.agg (DP r.1)), (.bool r.2)])) := by
 have hs0 := SI hF
 refine Go 27 Tryz.func150 ?_
 refine Sq (Rg [0, 1] ?_)
 refine Al' 173 #[(.string ⟨(([] : SZ)).toArray⟩), (vi 0), (vi 0), (vi 0)] hs0 (fun b21 w22 hs23 => ?_)
 refine Vs 1 ?_
 refine Nss ?_
 refine Sq (Rg [0] ?_)
 refine Vs 1 ?_
 refine Nt ?_
 refine Bk ?_
 refine Sq (Rg [0, 1] ?_)
 refine Vs 2 ?_
 refine Nt ?_
 refine Cd h (fun hb24 h25 => ?_) (fun hb24 h26 => ?_)
 ·refine Sq (Rg [0, 1, 2] ?_)
  refine Vs 1 ?_
  refine St0 #[(.string ⟨(([111, 114] : SZ)).toArray⟩), (vi 1), (vi 1), (vi 2)] hs23 (fun w27 hs28 => ?_)
  refine Vs 1 ?_
  refine Nt ?_
  refine Rt ?_
  refine Al ?_
  refine Aj ?_
  obtain rfl := Ab h25
  exact ⟨rfl, (.tuple #[(.agg #[(.string ⟨(([111, 114] : SZ)).toArray⟩), (vi 1), (vi 1), (vi 2)]), (.bool true)]), AB (l := [.cell 2 173, .tmp 3]) (by kernel_rfl) (vs := [(.agg #[(.string ⟨(([111, 114] : SZ)).toArray⟩), (vi 1), (vi 1), (vi 2)]), (.bool true)]) ⟨b21, 0, rfl, Ak (t := 173) (g := true) (s := 4) (by kernel_rfl) hs28.at0 rfl (by decide), ⟨rfl, trivial⟩⟩, (.tuple #[(.agg #[(.string ⟨(([111, 114] : SZ)).toArray⟩), (vi 1), (vi 1), (vi 2)]), (.bool true)]), F0, rfl, hs28.clear, rfl⟩
 ·refine Sq (Rg [0, 1] ?_)
  refine Vs 2 ?_
  refine Nt ?_
  refine Cd h26 (fun hb29 h30 => ?_) (fun hb29 h31 => ?_)
  ·refine Sq (Rg [0, 1, 2] ?_)
   refine Vs 1 ?_
   refine St0 #[(.string ⟨(([97, 110, 100] : SZ)).toArray⟩), (vi 2), (vi 2), (vi 3)] hs23 (fun w32 hs33 => ?_)
   refine Vs 1 ?_
   refine Nt ?_
   refine Rt ?_
   refine Al ?_
   refine Aj ?_
   obtain rfl := Ab h30
   exact ⟨rfl, (.tuple #[(.agg #[(.string ⟨(([97, 110, 100] : SZ)).toArray⟩), (vi 2), (vi 2), (vi 3)]), (.bool true)]), AB (l := [.cell 2 173, .tmp 3]) (by kernel_rfl) (vs := [(.agg #[(.string ⟨(([97, 110, 100] : SZ)).toArray⟩), (vi 2), (vi 2), (vi 3)]), (.bool true)]) ⟨b21, 0, rfl, Ak (t := 173) (g := true) (s := 4) (by kernel_rfl) hs33.at0 rfl (by decide), ⟨rfl, trivial⟩⟩, (.tuple #[(.agg #[(.string ⟨(([97, 110, 100] : SZ)).toArray⟩), (vi 2), (vi 2), (vi 3)]), (.bool true)]), F0, rfl, hs33.clear, rfl⟩
  ·refine Sq (Rg [0, 1] ?_)
   refine Vs 2 ?_
   refine Nt ?_
   refine Cd h31 (fun hb34 h35 => ?_) (fun hb34 h36 => ?_)
   ·refine Sq (Rg [0, 1, 2] ?_)
    refine Vs 1 ?_
    refine St0 #[(.string ⟨(([61] : SZ)).toArray⟩), (vi 4), (vi 5), (vi 5)] hs23 (fun w37 hs38 => ?_)
    refine Vs 1 ?_
    refine Nt ?_
    refine Rt ?_
    refine Al ?_
    refine Aj ?_
    obtain rfl := Ab h35
    exact ⟨rfl, (.tuple #[(.agg #[(.string ⟨(([61] : SZ)).toArray⟩), (vi 4), (vi 5), (vi 5)]), (.bool true)]), AB (l := [.cell 2 173, .tmp 3]) (by kernel_rfl) (vs := [(.agg #[(.string ⟨(([61] : SZ)).toArray⟩), (vi 4), (vi 5), (vi 5)]), (.bool true)]) ⟨b21, 0, rfl, Ak (t := 173) (g := true) (s := 4) (by kernel_rfl) hs38.at0 rfl (by decide), ⟨rfl, trivial⟩⟩, (.tuple #[(.agg #[(.string ⟨(([61] : SZ)).toArray⟩), (vi 4), (vi 5), (vi 5)]), (.bool true)]), F0, rfl, hs38.clear, rfl⟩
   ·refine Sq (Rg [0, 1] ?_)
    refine Vs 2 ?_
    refine Nt ?_
    refine Cd h36 (fun hb39 h40 => ?_) (fun hb39 h41 => ?_)
    ·refine Sq (Rg [0, 1, 2] ?_)
     refine Vs 1 ?_
     refine St0 #[(.string ⟨(([60] : SZ)).toArray⟩), (vi 4), (vi 5), (vi 5)] hs23 (fun w42 hs43 => ?_)
     refine Vs 1 ?_
     refine Nt ?_
     refine Rt ?_
     refine Al ?_
     refine Aj ?_
     obtain rfl := Ab h40
     exact ⟨rfl, (.tuple #[(.agg #[(.string ⟨(([60] : SZ)).toArray⟩), (vi 4), (vi 5), (vi 5)]), (.bool true)]), AB (l := [.cell 2 173, .tmp 3]) (by kernel_rfl) (vs := [(.agg #[(.string ⟨(([60] : SZ)).toArray⟩), (vi 4), (vi 5), (vi 5)]), (.bool true)]) ⟨b21, 0, rfl, Ak (t := 173) (g := true) (s := 4) (by kernel_rfl) hs43.at0 rfl (by decide), ⟨rfl, trivial⟩⟩, (.tuple #[(.agg #[(.string ⟨(([60] : SZ)).toArray⟩), (vi 4), (vi 5), (vi 5)]), (.bool true)]), F0, rfl, hs43.clear, rfl⟩
    ·refine Sq (Rg [0, 1] ?_)
     refine Vs 2 ?_
     refine Nt ?_
     refine Cd h41 (fun hb44 h45 => ?_) (fun hb44 h46 => ?_)
     ·refine Sq (Rg [0, 1, 2] ?_)
      refine Vs 1 ?_
      refine St0 #[(.string ⟨(([43] : SZ)).toArray⟩), (vi 5), (vi 5), (vi 6)] hs23 (fun w47 hs48 => ?_)
      refine Vs 1 ?_
      refine Nt ?_
      refine Rt ?_
      refine Al ?_
      refine Aj ?_
      obtain rfl := Ab h45
      exact ⟨rfl, (.tuple #[(.agg #[(.string ⟨(([43] : SZ)).toArray⟩), (vi 5), (vi 5), (vi 6)]), (.bool true)]), AB (l := [.cell 2 173, .tmp 3]) (by kernel_rfl) (vs := [(.agg #[(.string ⟨(([43] : SZ)).toArray⟩), (vi 5), (vi 5), (vi 6)]), (.bool true)]) ⟨b21, 0, rfl, Ak (t := 173) (g := true) (s := 4) (by kernel_rfl) hs48.at0 rfl (by decide), ⟨rfl, trivial⟩⟩, (.tuple #[(.agg #[(.string ⟨(([43] : SZ)).toArray⟩), (vi 5), (vi 5), (vi 6)]), (.bool true)]), F0, rfl, hs48.clear, rfl⟩
     ·refine Sq (Rg [0, 1] ?_)
      refine Vs 2 ?_
      refine Nt ?_
      refine Cd h46 (fun hb49 h50 => ?_) (fun hb49 h51 => ?_)
      ·refine Sq (Rg [0, 1, 2] ?_)
       refine Vs 1 ?_
       refine St0 #[(.string ⟨(([45] : SZ)).toArray⟩), (vi 5), (vi 5), (vi 6)] hs23 (fun w52 hs53 => ?_)
       refine Vs 1 ?_
       refine Nt ?_
       refine Rt ?_
       refine Al ?_
       refine Aj ?_
       obtain rfl := Ab h50
       exact ⟨rfl, (.tuple #[(.agg #[(.string ⟨(([45] : SZ)).toArray⟩), (vi 5), (vi 5), (vi 6)]), (.bool true)]), AB (l := [.cell 2 173, .tmp 3]) (by kernel_rfl) (vs := [(.agg #[(.string ⟨(([45] : SZ)).toArray⟩), (vi 5), (vi 5), (vi 6)]), (.bool true)]) ⟨b21, 0, rfl, Ak (t := 173) (g := true) (s := 4) (by kernel_rfl) hs53.at0 rfl (by decide), ⟨rfl, trivial⟩⟩, (.tuple #[(.agg #[(.string ⟨(([45] : SZ)).toArray⟩), (vi 5), (vi 5), (vi 6)]), (.bool true)]), F0, rfl, hs53.clear, rfl⟩
      ·refine Sq (Rg [0, 1] ?_)
       refine Vs 2 ?_
       refine Nt ?_
       refine Cd h51 (fun hb54 h55 => ?_) (fun hb54 h56 => ?_)
       ·refine Sq (Rg [0, 1, 2] ?_)
        refine Vs 1 ?_
        refine St0 #[(.string ⟨(([42] : SZ)).toArray⟩), (vi 6), (vi 6), (vi 7)] hs23 (fun w57 hs58 => ?_)
        refine Vs 1 ?_
        refine Nt ?_
        refine Rt ?_
        refine Al ?_
        refine Aj ?_
        obtain rfl := Ab h55
        exact ⟨rfl, (.tuple #[(.agg #[(.string ⟨(([42] : SZ)).toArray⟩), (vi 6), (vi 6), (vi 7)]), (.bool true)]), AB (l := [.cell 2 173, .tmp 3]) (by kernel_rfl) (vs := [(.agg #[(.string ⟨(([42] : SZ)).toArray⟩), (vi 6), (vi 6), (vi 7)]), (.bool true)]) ⟨b21, 0, rfl, Ak (t := 173) (g := true) (s := 4) (by kernel_rfl) hs58.at0 rfl (by decide), ⟨rfl, trivial⟩⟩, (.tuple #[(.agg #[(.string ⟨(([42] : SZ)).toArray⟩), (vi 6), (vi 6), (vi 7)]), (.bool true)]), F0, rfl, hs58.clear, rfl⟩
       ·refine Sc ?_
        refine Ax ?_
        refine Ac ?_
        refine Sq (Rg [0, 1, 2] ?_)
        refine Vs 1 ?_
        refine St0 #[(.string ⟨(([] : SZ)).toArray⟩), (vi 0), (vi 0), (vi 0)] hs23 (fun w59 hs60 => ?_)
        refine Vs 1 ?_
        refine Nt ?_
        refine Rt ?_
        obtain rfl := Ab h56
        exact ⟨rfl, (.tuple #[(.agg #[(.string ⟨(([] : SZ)).toArray⟩), (vi 0), (vi 0), (vi 0)]), (.bool false)]), AB (l := [.cell 2 173, .tmp 3]) (by kernel_rfl) (vs := [(.agg #[(.string ⟨(([] : SZ)).toArray⟩), (vi 0), (vi 0), (vi 0)]), (.bool false)]) ⟨b21, 0, rfl, Ak (t := 173) (g := true) (s := 4) (by kernel_rfl) hs60.at0 rfl (by decide), ⟨rfl, trivial⟩⟩, (.tuple #[(.agg #[(.string ⟨(([] : SZ)).toArray⟩), (vi 0), (vi 0), (vi 0)]), (.bool false)]), F0, rfl, hs60.clear, rfl⟩
def EK (N : Nat)  : Option (List SZ) :=
 some [([98, 97, 110, 100] : SZ), ([109, 111, 100, 101] : SZ), ([104, 111, 117, 114] : SZ), ([109, 121, 99, 111, 117, 110, 116, 114, 121] : SZ), ([109, 121, 122, 111, 110, 101] : SZ), ([109, 121, 99, 111, 110, 116, 105, 110, 101, 110, 116] : SZ), ([99, 111, 117, 110, 116, 114, 121] : SZ), ([122, 111, 110, 101] : SZ), ([99, 111, 110, 116, 105, 110, 101, 110, 116] : SZ), ([99, 97, 108, 108] : SZ), ([103, 111, 116, 122, 111, 110, 101] : SZ), ([99, 97, 116, 101, 103, 111, 114, 121] : SZ), ([112, 111, 119, 101, 114] : SZ), ([115, 116, 97, 116, 117, 115] : SZ)]
theorem Gu : Aq Tryz.prog 152 := fun _ _ => by kernel_rfl
theorem He (N : Nat) (w0 : World) (F0 : Mem) (hF : S1 w0 F0)  (r : (List SZ)) (h : EK N  = some r) :
  Calls Tryz.prog 152 ([] : List Value).toArray w0 (AV w0 F0 fun F' v => ∃ (aq0_0 : S0) (nq0_0 : Nat), v = (.slice aq0_0 r.length nq0_0) /\ LC r.length nq0_0 /\ SlA ES F' aq0_0 r) := by
 have hs0 := SI hF
 refine Go 2 Tryz.func152 ?_
 refine Sq (Rg [0] ?_)
 refine Vs 1 ?_
 refine Nss (Rg [0, 1] ?_)
 refine Bs 9 [(.string ⟨(([98, 97, 110, 100] : SZ)).toArray⟩), (.string ⟨(([109, 111, 100, 101] : SZ)).toArray⟩), (.string ⟨(([104, 111, 117, 114] : SZ)).toArray⟩), (.string ⟨(([109, 121, 99, 111, 117, 110, 116, 114, 121] : SZ)).toArray⟩), (.string ⟨(([109, 121, 122, 111, 110, 101] : SZ)).toArray⟩), (.string ⟨(([109, 121, 99, 111, 110, 116, 105, 110, 101, 110, 116] : SZ)).toArray⟩), (.string ⟨(([99, 111, 117, 110, 116, 114, 121] : SZ)).toArray⟩), (.string ⟨(([122, 111, 110, 101] : SZ)).toArray⟩), (.string ⟨(([99, 111, 110, 116, 105, 110, 101, 110, 116] : SZ)).toArray⟩), (.string ⟨(([99, 97, 108, 108] : SZ)).toArray⟩), (.string ⟨(([103, 111, 116, 122, 111, 110, 101] : SZ)).toArray⟩), (.string ⟨(([99, 97, 116, 101, 103, 111, 114, 121] : SZ)).toArray⟩), (.string ⟨(([112, 111, 119, 101, 114] : SZ)).toArray⟩), (.string ⟨(([115, 116, 97, 116, 117, 115] : SZ)).toArray⟩)] hs0 (fun b21 w22 hs23 => ?_)
 have hr25 : Av ES 9 F0 (some ⟨b21, 0, none⟩) 14 [([98, 97, 110, 100] : SZ), ([109, 111, 100, 101] : SZ), ([104, 111, 117, 114] : SZ), ([109, 121, 99, 111, 117, 110, 116, 114, 121] : SZ), ([109, 121, 122, 111, 110, 101] : SZ), ([109, 121, 99, 111, 110, 116, 105, 110, 101, 110, 116] : SZ), ([99, 111, 117, 110, 116, 114, 121] : SZ), ([122, 111, 110, 101] : SZ), ([99, 111, 110, 116, 105, 110, 101, 110, 116] : SZ), ([99, 97, 108, 108] : SZ), ([103, 111, 116, 122, 111, 110, 101] : SZ), ([99, 97, 116, 101, 103, 111, 114, 121] : SZ), ([112, 111, 119, 101, 114] : SZ), ([115, 116, 97, 116, 117, 115] : SZ)] (some b21, .cells ([(.string ⟨(([98, 97, 110, 100] : SZ)).toArray⟩), (.string ⟨(([109, 111, 100, 101] : SZ)).toArray⟩), (.string ⟨(([104, 111, 117, 114] : SZ)).toArray⟩), (.string ⟨(([109, 121, 99, 111, 117, 110, 116, 114, 121] : SZ)).toArray⟩), (.string ⟨(([109, 121, 122, 111, 110, 101] : SZ)).toArray⟩), (.string ⟨(([109, 121, 99, 111, 110, 116, 105, 110, 101, 110, 116] : SZ)).toArray⟩), (.string ⟨(([99, 111, 117, 110, 116, 114, 121] : SZ)).toArray⟩), (.string ⟨(([122, 111, 110, 101] : SZ)).toArray⟩), (.string ⟨(([99, 111, 110, 116, 105, 110, 101, 110, 116] : SZ)).toArray⟩), (.string ⟨(([99, 97, 108, 108] : SZ)).toArray⟩), (.string ⟨(([103, 111, 116, 122, 111, 110, 101] : SZ)).toArray⟩), (.string ⟨(([99, 97, 116, 101, 103, 111, 114, 121] : SZ)).toArray⟩), (.string ⟨(([112, 111, 119, 101, 114] : SZ)).toArray⟩), (.string ⟨(([115, 116, 97, 116, 117, 115] : SZ)).toArray⟩)] : List Value).toArray 9 (0, 0)) := SX ⟨rfl, ⟨rfl, ⟨rfl, ⟨rfl, ⟨rfl, ⟨rfl, ⟨rfl, ⟨rfl, ⟨rfl, ⟨rfl, ⟨rfl, ⟨rfl, ⟨rfl, ⟨rfl, rfl⟩⟩⟩⟩⟩⟩⟩⟩⟩⟩⟩⟩⟩⟩ (by simp)
 refine Vs 1 ?_
 refine Nt ?_
 refine Rt ?_
 have hb29 := SW hr25
 obtain ⟨F1, hs26, le27, hs28⟩ := hs23.fr0 hr25
 obtain rfl := Ab h
 exact Re [(.slice (some ⟨b21, 0, none⟩) [([98, 97, 110, 100] : SZ), ([109, 111, 100, 101] : SZ), ([104, 111, 117, 114] : SZ), ([109, 121, 99, 111, 117, 110, 116, 114, 121] : SZ), ([109, 121, 122, 111, 110, 101] : SZ), ([109, 121, 99, 111, 110, 116, 105, 110, 101, 110, 116] : SZ), ([99, 111, 117, 110, 116, 114, 121] : SZ), ([122, 111, 110, 101] : SZ), ([99, 111, 110, 116, 105, 110, 101, 110, 116] : SZ), ([99, 97, 108, 108] : SZ), ([103, 111, 116, 122, 111, 110, 101] : SZ), ([99, 97, 116, 101, 103, 111, 114, 121] : SZ), ([112, 111, 119, 101, 114] : SZ), ([115, 116, 97, 116, 117, 115] : SZ)].length 14)] hs26 ⟨(some ⟨b21, 0, none⟩), 14, rfl, hb29, hs28⟩
def NJ (sR97 : Expr -> Int -> Option SZ) : Prop := ∀ (w0 : World) (F0 : Mem) (hF : S1 w0 F0) (hG : CA F0) (x0 : Expr) (a0_2 : S0) (n0_2 : Nat) (hb0_2 : LC x0.Kids.length n0_2) (hs0_2 : SlA Ar F0 a0_2 x0.Kids) (x1 : Int) (r : SZ), sR97 x0 x1 = some r -> Calls Tryz.prog 97 ([(.agg #[(.int .i64 x0.Op), (.int .i64 x0.Value), (.slice a0_2 x0.Kids.length n0_2)]), (.int .i64 x1)] : List Value).toArray w0 (AV w0 F0 fun F' v => v = (.string ⟨(r).toArray⟩))
theorem BB : Aq Tryz.prog 97 := fun _ _ => by kernel_rfl
def CS (N : Nat) (sR97 : Expr -> Int -> Option SZ) (x0 : Expr) (x1 : Int) : Option SZ :=
 ((Ck N x0.Op).bind fun r24 => ((bif r24.2 then (((idx x0.Kids 0).bind fun x62 => ((idx x0.Kids 1).bind fun x76 => ((sR97 x62 r24.1.left_).bind fun r82 => ((D2 r82 ([32] : SZ)).bind fun r90 => ((D2 r90 r24.1.text_).bind fun r93 => ((D2 r93 ([32] : SZ)).bind fun r96 => ((sR97 x76 r24.1.right_).bind fun r99 => ((D2 r96 r99).bind fun r107 => some r107)))))))).bind fun j55 => some (r24.1.rank_, j55)) else ((bif (x0.Op == 1) then ((strconv_Itoa N x0.Value).bind fun r123 => some (7, r123)) else ((bif (x0.Op == 2) then (((EK N ).bind fun r156 => ((idx r156 x0.Value).bind fun x164 => some x164)).bind fun j149 => some (7, j149)) else ((bif (x0.Op == 3) then ((idx x0.Kids 0).bind fun x191 => ((sR97 x191 3).bind fun r205 => ((D2 ([110, 111, 116, 32] : SZ) r205).bind fun r213 => some (3, r213)))) else ((bif (x0.Op == 11) then (((idx x0.Kids 0).bind fun x241 => ((idx x0.Kids 1).bind fun x255 => ((idx x0.Kids 2).bind fun x261 => ((sR97 x241 1).bind fun r267 => ((D2 ([105, 102, 40] : SZ) r267).bind fun r275 => ((D2 r275 ([44, 32] : SZ)).bind fun r278 => ((sR97 x255 1).bind fun r281 => ((D2 r278 r281).bind fun r289 => ((D2 r289 ([44, 32] : SZ)).bind fun r292 => ((sR97 x261 1).bind fun r295 => ((D2 r292 r295).bind fun r303 => ((D2 r303 ([41] : SZ)).bind fun r306 => some r306)))))))))))).bind fun j234 => some j234) else some ([] : SZ)).bind fun j219 => some (7, j219))).bind fun j181 => some (j181.1, j181.2))).bind fun j134 => some (j134.1, j134.2))).bind fun j113 => some (j113.1, j113.2))).bind fun j40 => (bif (decide (j40.1 < x1)) then ((D2 ([40] : SZ) j40.2).bind fun r312 => ((D2 r312 ([41] : SZ)).bind fun r315 => some r315)) else some j40.2)))
theorem Jb (N : Nat) (sR97 : Expr -> Int -> Option SZ) (hsR97 : NJ sR97) (w0 : World) (F0 : Mem) (hF : S1 w0 F0) (hG : CA F0) (x0 : Expr) (a0_2 : S0) (n0_2 : Nat) (hb0_2 : LC x0.Kids.length n0_2) (hs0_2 : SlA Ar F0 a0_2 x0.Kids) (x1 : Int) (r : SZ) (h : CS N sR97 x0 x1 = some r) :
  Calls Tryz.prog 97 ([(.agg (Ai x0 a0_2 n0_2)), (vi x1)] : List Value).toArray w0 (AV w0 F0 fun F' v => v = (.string ⟨(r).toArray⟩)) := by
 have hs0 := SI hF
 refine Go 97 Tryz.func97 ?_
 refine Sq (Rg [0, 1] ?_)
 refine Bx' 33 (Ai x0 a0_2 n0_2) hs0 (fun b21 w22 hs23 => ?_)
 refine Vs 1 ?_
 refine Nss (Rg [0, 1] ?_)
 refine Vs 2 ?_
 refine Nss (Rg [0, 1, 2, 3, 4, 5, 6, 7, 8] ?_)
 refine Vs 1 ?_
 refine Ld hs23.at0 ?_
 obtain ⟨r24, hr25, h26⟩ := bind_some h
 refine Cl' JB hs23 (Kz N w22 F0 hs23.pers x0.Op _ hr25) ?_
 rintro _ F1 w28 hs29 le30 rfl
 refine Vs 3 ?_
 refine Al' 173 #[(.string ⟨(([] : SZ)).toArray⟩), (vi 0), (vi 0), (vi 0)] hs29 (fun b32 w33 hs34 => ?_)
 refine St0 (DP r24.1) hs34 (fun w35 hs36 => ?_)
 refine Vs 1 ?_
 refine Nss ?_
 refine Bk ?_
 refine Sq (Rg [0, 1] ?_)
 refine Vs 2 ?_
 refine Nt ?_
 obtain ⟨j40, hj45, h46⟩ := bind_some h26
 refine SN (fun f w => ∃ (F2 : Mem), HS w0 F0 w F2 [] /\ SG F1 F2 /\ FI f [] [(1, (vi x1)), (5, (vi j40.1)), (6, (.string ⟨(j40.2).toArray⟩))]) ?_ ?_
 ·refine Cd hj45 (fun hb47 h48 => ?_) (fun hb47 h49 => ?_)
  ·obtain ⟨j55, hj60, h61⟩ := bind_some h48
   refine RD 24 24 [(sb b32 (DP r24.1) 173), (sb b21 (Ai x0 a0_2 n0_2) 33)] [] hs36 (fun f w => ∃ (F3 : Mem), HS w0 F0 w F3 [] /\ SG F1 F3 /\ FI f [] [(1, (vi x1)), (5, (vi r24.1.rank_)), (6, (.string ⟨(j55).toArray⟩))]) (fun wd50 hw51 => ?_) ?_
   ·refine Dvl [0] [tt, ff, ff, ff, ff, ff, ff, ff, ff, ff, ff, ff, ff, ff, ff, ff, ff, ff, ff, ff, ff, ff, ff, ff] ?_
    refine Dl 1 (fun _ hq => (hq.1.2 0 _ _ rfl)) ?_
    refine Dvl [2] [tt, tt, tt, ff, ff, ff, ff, ff, ff, ff, ff, ff, ff, ff, ff, ff, ff, ff, ff, ff, ff, ff, ff, ff] ?_
    refine Dl 3 (fun _ hq => (hq.1.2 1 _ _ rfl)) ?_
    obtain ⟨x62, hx63, h65⟩ := bind_some hj60
    obtain ⟨hi64, hx63'⟩ := Aw hx63
    obtain ⟨b66, o67, C68, E69, fz70, rfl, hF72, hE73⟩ := SQ (SJ hs0_2 le30) hx63'
    obtain ⟨ae74_2, ne74_2, hc75, hbe74_2, hse74_2⟩ := (AR (hE73 _ _ hx63'))
    refine Di 4 hi64 ?_
    refine Dx 5 0 (fun _ hq => hq.1.1 _ _ hF72) hc75 ?_
    refine Dvl [6] [tt, tt, tt, tt, tt, tt, tt, ff, ff, ff, ff, ff, ff, ff, ff, ff, ff, ff, ff, ff, ff, ff, ff, ff] ?_
    refine Dl 7 (fun _ hq => (hq.1.2 0 _ _ rfl)) ?_
    refine Dvl [10] [tt, tt, tt, tt, tt, tt, tt, tt, ff, ff, tt, ff, ff, ff, ff, ff, ff, ff, ff, ff, ff, ff, ff, ff] ?_
    refine Dl 11 (fun _ hq => (hq.1.2 0 _ _ rfl)) ?_
    refine Dvl [14] [tt, tt, tt, tt, tt, tt, tt, tt, ff, ff, tt, tt, ff, ff, tt, ff, ff, ff, ff, ff, ff, ff, ff, ff] ?_
    refine Dl 15 (fun _ hq => (hq.1.2 1 _ _ rfl)) ?_
    obtain ⟨x76, hx77, h79⟩ := bind_some h65
    obtain ⟨hi78, hx77'⟩ := Aw hx77
    obtain ⟨ae80_2, ne80_2, hc81, hbe80_2, hse80_2⟩ := (AR (hE73 _ _ hx77'))
    refine Di 16 hi78 ?_
    refine Dx 17 0 (fun _ hq => hq.1.1 _ _ hF72) hc81 ?_
    refine Dvl [18] [tt, tt, tt, tt, tt, tt, tt, tt, ff, ff, tt, tt, ff, ff, tt, tt, tt, tt, tt, ff, ff, ff, ff, ff] ?_
    refine Dl 19 (fun _ hq => (hq.1.2 0 _ _ rfl)) ?_
    refine D1 8 ?_
    obtain ⟨r82, hr83, h84⟩ := bind_some h79
    refine DCl BB hw51 (hsR97 wd50 F1 hw51.pers (hG.mono le30) x62 ae74_2 ne74_2 hbe74_2 hse74_2 r24.1.left_ _ hr83) ?_
    rintro _ F4 w86 hs87 le88 rfl
    obtain ⟨r90, hr91, h92⟩ := bind_some h84
    refine Dtl 9 26 9 (.string ⟨(r90).toArray⟩) [tt, tt, tt, tt, tt, tt, tt, tt, tt, tt, tt, tt, ff, ff, tt, tt, tt, tt, tt, tt, ff, ff, ff, ff] (fun _ hq => Bq (t := 9) (t' := 9) (x := (.tmp 25)) (y := (.const (.string ⟨([32] : SZ).toArray⟩))) (a := r82) (b := ([32] : SZ)) (v := r90) rfl rfl hr91) ?_
    obtain ⟨r93, hr94, h95⟩ := bind_some h92
    refine Dtl 12 29 9 (.string ⟨(r93).toArray⟩) [tt, tt, tt, tt, tt, tt, tt, tt, tt, tt, tt, tt, tt, ff, tt, tt, tt, tt, tt, tt, ff, ff, ff, ff] (fun _ hq => Bq (t := 9) (t' := 9) (x := (.tmp 26)) (y := (.tmp 28)) (a := r90) (b := r24.1.text_) (v := r93) rfl rfl hr94) ?_
    obtain ⟨r96, hr97, h98⟩ := bind_some h95
    refine Dtl 13 30 9 (.string ⟨(r96).toArray⟩) [tt, tt, tt, tt, tt, tt, tt, tt, tt, tt, tt, tt, tt, tt, tt, tt, tt, tt, tt, tt, ff, ff, ff, ff] (fun _ hq => Bq (t := 9) (t' := 9) (x := (.tmp 29)) (y := (.const (.string ⟨([32] : SZ).toArray⟩))) (a := r93) (b := ([32] : SZ)) (v := r96) rfl rfl hr97) ?_
    refine D1 20 ?_
    obtain ⟨r99, hr100, h101⟩ := bind_some h98
    refine DCl BB hs87 (hsR97 w86 F4 hs87.pers (hG.mono (le30.trans le88)) x76 ae80_2 ne80_2 hbe80_2 (SJ hse80_2 le88) r24.1.right_ _ hr100) ?_
    rintro _ F5 w103 hs104 le105 rfl
    obtain ⟨r107, hr108, h109⟩ := bind_some h101
    refine Dtl 21 38 9 (.string ⟨(r107).toArray⟩) [tt, tt, tt, tt, tt, tt, tt, tt, tt, tt, tt, tt, tt, tt, tt, tt, tt, tt, tt, tt, tt, tt, ff, ff] (fun _ hq => Bq (t := 9) (t' := 9) (x := (.tmp 30)) (y := (.tmp 37)) (a := r96) (b := r99) (v := r107) rfl rfl hr108) ?_
    refine Dvl [22, 23] [tt, tt, tt, tt, tt, tt, tt, tt, tt, tt, tt, tt, tt, tt, tt, tt, tt, tt, tt, tt, tt, tt, tt, tt] ?_
    obtain rfl := Ab h109
    exact SV (by kernel_rfl) ⟨F5, hs104.dr0.dr0, (le88.trans le105), fI⟩
   ·rintro f w52 ⟨F3, hs53, le54, ⟨_, rfl⟩⟩
    obtain rfl := Ab h61
    exact .inl ⟨rfl, F3, hs53, le54, fI⟩
  ·refine Sq (Rg [0, 1, 2, 3] ?_)
   refine Vs 1 ?_
   refine Ld hs36.at1 ?_
   refine Vs 2 ?_
   refine Nt ?_
   obtain ⟨j113, hj118, h119⟩ := bind_some h49
   refine SN (fun f w => ∃ (F6 : Mem), HS w0 F0 w F6 [] /\ SG F1 F6 /\ FI f [] [(1, (vi x1)), (5, (vi j113.1)), (6, (.string ⟨(j113.2).toArray⟩))]) ?_ ?_
   ·refine Cd hj118 (fun hb120 h121 => ?_) (fun hb120 h122 => ?_)
    ·refine Rg [0, 1, 2, 3] ?_
     refine Vs 1 ?_
     refine Ld hs36.at1 ?_
     obtain ⟨r123, hr124, h125⟩ := bind_some h121
     refine Cl' Jy hs36 (Kw N w35 F1 hs36.pers (hG.mono le30) x0.Value _ hr124) ?_
     rintro _ F7 w127 hs128 le129 rfl
     refine Vs 1 ?_
     refine SC ?_
     obtain rfl := Ab h125
     exact .inl ⟨rfl, F7, hs128.dr0.dr0, le129, fI⟩
    ·refine Sq (Rg [0, 1, 2, 3] ?_)
     refine Vs 1 ?_
     refine Ld hs36.at1 ?_
     refine Vs 2 ?_
     refine Nt ?_
     obtain ⟨j134, hj139, h140⟩ := bind_some h122
     refine SN (fun f w => ∃ (F8 : Mem), HS w0 F0 w F8 [] /\ SG F1 F8 /\ FI f [] [(1, (vi x1)), (5, (vi j134.1)), (6, (.string ⟨(j134.2).toArray⟩))]) ?_ ?_
     ·refine Cd hj139 (fun hb141 h142 => ?_) (fun hb141 h143 => ?_)
      ·obtain ⟨j149, hj154, h155⟩ := bind_some h142
       refine RD 6 6 [(sb b32 (DP r24.1) 173), (sb b21 (Ai x0 a0_2 n0_2) 33)] [] hs36 (fun f w => ∃ (F9 : Mem), HS w0 F0 w F9 [] /\ SG F1 F9 /\ FI f [] [(1, (vi x1)), (5, (vi 7)), (6, (.string ⟨(j149).toArray⟩))]) (fun wd144 hw145 => ?_) ?_
       ·refine Dv [1] ?_
        refine Dl 2 (fun _ hq => (hq.1.2 1 _ _ rfl)) ?_
        refine D1 0 ?_
        obtain ⟨r156, hr157, h158⟩ := bind_some hj154
        refine DCl Gu hw145 (He N wd144 F1 hw145.pers  _ hr157) ?_
        rintro _ F10 w160 hs161 le162 ⟨ar156_0_0, nr156_0_0, rfl, hbr156_0_0, hsr156_0_0⟩
        obtain ⟨x164, hx165, h167⟩ := bind_some h158
        obtain ⟨hi166, hx165'⟩ := Aw hx165
        obtain ⟨b168, o169, C170, E171, fz172, rfl, hF174, hE175⟩ := SQ hsr156_0_0 hx165'
        have hc177 := hE175 _ _ hx165'
        refine Di 3 hi166 ?_
        refine D1 4 ?_
        refine ST (l' := [true, true, true, true, true, false]) (zd := true) (by kernel_rfl) (by kernel_rfl) (dst := (some 54)) (ty := 9) (g := none) (by kernel_rfl) rfl (IL (t := 9) (x := (.tmp 53)) (b := b168) (o := (o169 + (x0.Value : Int).toNat * 1)) (j := 0) (C := C170) (kk := 1) (cs := [(.string ⟨(x164).toArray⟩)]) (gg := false) (s := 1) (v := (.string ⟨(x164).toArray⟩)) rfl (by kernel_rfl) (hs161.pers _ _ hF174) hc177 (by decide) (by exact ⟨rfl, trivial⟩) rfl rfl) (BI hs161 le162 (by simp) (fun e => by cases e)) ?_
        refine Dv [5] ?_
        obtain rfl := Ab h167
        exact SV (by kernel_rfl) ⟨F10, hs161.dr0.dr0, le162, fI⟩
       ·rintro f w146 ⟨F9, hs147, le148, ⟨_, rfl⟩⟩
        obtain rfl := Ab h155
        exact .inl ⟨rfl, F9, hs147, le148, fI⟩
      ·refine Sq (Rg [0, 1, 2, 3] ?_)
       refine Vs 1 ?_
       refine Ld hs36.at1 ?_
       refine Vs 2 ?_
       refine Nt ?_
       obtain ⟨j181, hj186, h187⟩ := bind_some h143
       refine SN (fun f w => ∃ (F11 : Mem), HS w0 F0 w F11 [] /\ SG F1 F11 /\ FI f [] [(1, (vi x1)), (5, (vi j181.1)), (6, (.string ⟨(j181.2).toArray⟩))]) ?_ ?_
       ·refine Cd hj186 (fun hb188 h189 => ?_) (fun hb188 h190 => ?_)
        ·refine Rg [0, 1, 2, 3, 4, 5, 6, 7] ?_
         refine Vs 1 ?_
         refine Ld hs36.at1 ?_
         obtain ⟨x191, hx192, h194⟩ := bind_some h189
         obtain ⟨hi193, hx192'⟩ := Aw hx192
         obtain ⟨b195, o196, C197, E198, fz199, rfl, hF201, hE202⟩ := SQ (SJ hs0_2 le30) hx192'
         obtain ⟨ae203_2, ne203_2, hc204, hbe203_2, hse203_2⟩ := (AR (hE202 _ _ hx192'))
         refine Ix hi193 ?_
         refine Lx 0 (hs36.pers _ _ hF201) hc204 ?_
         obtain ⟨r205, hr206, h207⟩ := bind_some h194
         refine Cl' BB hs36 (hsR97 w35 F1 hs36.pers (hG.mono le30) x191 ae203_2 ne203_2 hbe203_2 hse203_2 3 _ hr206) ?_
         rintro _ F12 w209 hs210 le211 rfl
         obtain ⟨r213, hr214, h215⟩ := bind_some h207
         refine V 64 9 (Bq (t := 9) (t' := 9) (x := (.const (.string ⟨([110, 111, 116, 32] : SZ).toArray⟩))) (y := (.tmp 63)) (a := ([110, 111, 116, 32] : SZ)) (b := r205) (v := r213) rfl rfl hr214) ?_
         refine Vs 2 ?_
         refine SC ?_
         obtain rfl := Ab h215
         exact .inl ⟨rfl, F12, hs210.dr0.dr0, le211, fI⟩
        ·refine Sq (Rg [0, 1, 2, 3] ?_)
         refine Vs 1 ?_
         refine Ld hs36.at1 ?_
         refine Vs 2 ?_
         refine Nt ?_
         obtain ⟨j219, hj224, h225⟩ := bind_some h190
         refine SN (fun f w => ∃ (F13 : Mem), HS w0 F0 w F13 [] /\ SG F1 F13 /\ FI f [] [(1, (vi x1)), (5, (vi 7)), (6, (.string ⟨(j219).toArray⟩))]) ?_ ?_
         ·refine Cd hj224 (fun hb226 h227 => ?_) (fun hb226 h228 => ?_)
          ·obtain ⟨j234, hj239, h240⟩ := bind_some h227
           refine RD 22 22 [(sb b32 (DP r24.1) 173), (sb b21 (Ai x0 a0_2 n0_2) 33)] [] hs36 (fun f w => ∃ (F14 : Mem), HS w0 F0 w F14 [] /\ SG F1 F14 /\ FI f [] [(1, (vi x1)), (5, (vi 7)), (6, (.string ⟨(j234).toArray⟩))]) (fun wd229 hw230 => ?_) ?_
           ·refine Dvl [0] [tt, ff, ff, ff, ff, ff, ff, ff, ff, ff, ff, ff, ff, ff, ff, ff, ff, ff, ff, ff, ff, ff] ?_
            refine Dl 1 (fun _ hq => (hq.1.2 1 _ _ rfl)) ?_
            obtain ⟨x241, hx242, h244⟩ := bind_some hj239
            obtain ⟨hi243, hx242'⟩ := Aw hx242
            obtain ⟨b245, o246, C247, E248, fz249, rfl, hF251, hE252⟩ := SQ (SJ hs0_2 le30) hx242'
            obtain ⟨ae253_2, ne253_2, hc254, hbe253_2, hse253_2⟩ := (AR (hE252 _ _ hx242'))
            refine Di 2 hi243 ?_
            refine Dx 3 0 (fun _ hq => hq.1.1 _ _ hF251) hc254 ?_
            refine Dvl [7] [tt, tt, tt, tt, ff, ff, ff, tt, ff, ff, ff, ff, ff, ff, ff, ff, ff, ff, ff, ff, ff, ff] ?_
            refine Dl 8 (fun _ hq => (hq.1.2 1 _ _ rfl)) ?_
            obtain ⟨x255, hx256, h258⟩ := bind_some h244
            obtain ⟨hi257, hx256'⟩ := Aw hx256
            obtain ⟨ae259_2, ne259_2, hc260, hbe259_2, hse259_2⟩ := (AR (hE252 _ _ hx256'))
            refine Di 9 hi257 ?_
            refine Dx 10 0 (fun _ hq => hq.1.1 _ _ hF251) hc260 ?_
            refine Dvl [14] [tt, tt, tt, tt, ff, ff, ff, tt, tt, tt, tt, ff, ff, ff, tt, ff, ff, ff, ff, ff, ff, ff] ?_
            refine Dl 15 (fun _ hq => (hq.1.2 1 _ _ rfl)) ?_
            obtain ⟨x261, hx262, h264⟩ := bind_some h258
            obtain ⟨hi263, hx262'⟩ := Aw hx262
            obtain ⟨ae265_2, ne265_2, hc266, hbe265_2, hse265_2⟩ := (AR (hE252 _ _ hx262'))
            refine Di 16 hi263 ?_
            refine Dx 17 0 (fun _ hq => hq.1.1 _ _ hF251) hc266 ?_
            refine D1 4 ?_
            obtain ⟨r267, hr268, h269⟩ := bind_some h264
            refine DCl BB hw230 (hsR97 wd229 F1 hw230.pers (hG.mono le30) x241 ae253_2 ne253_2 hbe253_2 hse253_2 1 _ hr268) ?_
            rintro _ F15 w271 hs272 le273 rfl
            obtain ⟨r275, hr276, h277⟩ := bind_some h269
            refine Dtl 5 74 9 (.string ⟨(r275).toArray⟩) [tt, tt, tt, tt, tt, tt, ff, tt, tt, tt, tt, ff, ff, ff, tt, tt, tt, tt, ff, ff, ff, ff] (fun _ hq => Bq (t := 9) (t' := 9) (x := (.const (.string ⟨([105, 102, 40] : SZ).toArray⟩))) (y := (.tmp 73)) (a := ([105, 102, 40] : SZ)) (b := r267) (v := r275) rfl rfl hr276) ?_
            obtain ⟨r278, hr279, h280⟩ := bind_some h277
            refine Dtl 6 75 9 (.string ⟨(r278).toArray⟩) [tt, tt, tt, tt, tt, tt, tt, tt, tt, tt, tt, ff, ff, ff, tt, tt, tt, tt, ff, ff, ff, ff] (fun _ hq => Bq (t := 9) (t' := 9) (x := (.tmp 74)) (y := (.const (.string ⟨([44, 32] : SZ).toArray⟩))) (a := r275) (b := ([44, 32] : SZ)) (v := r278) rfl rfl hr279) ?_
            refine D1 11 ?_
            obtain ⟨r281, hr282, h283⟩ := bind_some h280
            refine DCl BB hs272 (hsR97 w271 F15 hs272.pers (hG.mono (le30.trans le273)) x255 ae259_2 ne259_2 hbe259_2 (SJ hse259_2 le273) 1 _ hr282) ?_
            rintro _ F16 w285 hs286 le287 rfl
            obtain ⟨r289, hr290, h291⟩ := bind_some h283
            refine Dtl 12 81 9 (.string ⟨(r289).toArray⟩) [tt, tt, tt, tt, tt, tt, tt, tt, tt, tt, tt, tt, tt, ff, tt, tt, tt, tt, ff, ff, ff, ff] (fun _ hq => Bq (t := 9) (t' := 9) (x := (.tmp 75)) (y := (.tmp 80)) (a := r278) (b := r281) (v := r289) rfl rfl hr290) ?_
            obtain ⟨r292, hr293, h294⟩ := bind_some h291
            refine Dtl 13 82 9 (.string ⟨(r292).toArray⟩) [tt, tt, tt, tt, tt, tt, tt, tt, tt, tt, tt, tt, tt, tt, tt, tt, tt, tt, ff, ff, ff, ff] (fun _ hq => Bq (t := 9) (t' := 9) (x := (.tmp 81)) (y := (.const (.string ⟨([44, 32] : SZ).toArray⟩))) (a := r289) (b := ([44, 32] : SZ)) (v := r292) rfl rfl hr293) ?_
            refine D1 18 ?_
            obtain ⟨r295, hr296, h297⟩ := bind_some h294
            refine DCl BB hs286 (hsR97 w285 F16 hs286.pers (hG.mono ((le30.trans le273).trans le287)) x261 ae265_2 ne265_2 hbe265_2 (SJ hse265_2 (le273.trans le287)) 1 _ hr296) ?_
            rintro _ F17 w299 hs300 le301 rfl
            obtain ⟨r303, hr304, h305⟩ := bind_some h297
            refine Dtl 19 88 9 (.string ⟨(r303).toArray⟩) [tt, tt, tt, tt, tt, tt, tt, tt, tt, tt, tt, tt, tt, tt, tt, tt, tt, tt, tt, tt, ff, ff] (fun _ hq => Bq (t := 9) (t' := 9) (x := (.tmp 82)) (y := (.tmp 87)) (a := r292) (b := r295) (v := r303) rfl rfl hr304) ?_
            obtain ⟨r306, hr307, h308⟩ := bind_some h305
            refine Dtl 20 89 9 (.string ⟨(r306).toArray⟩) [tt, tt, tt, tt, tt, tt, tt, tt, tt, tt, tt, tt, tt, tt, tt, tt, tt, tt, tt, tt, tt, ff] (fun _ hq => Bq (t := 9) (t' := 9) (x := (.tmp 88)) (y := (.const (.string ⟨([41] : SZ).toArray⟩))) (a := r303) (b := ([41] : SZ)) (v := r306) rfl rfl hr307) ?_
            refine Dvl [21] [tt, tt, tt, tt, tt, tt, tt, tt, tt, tt, tt, tt, tt, tt, tt, tt, tt, tt, tt, tt, tt, tt] ?_
            obtain rfl := Ab h308
            exact SV (by kernel_rfl) ⟨F17, hs300.dr0.dr0, ((le273.trans le287).trans le301), fI⟩
           ·rintro f w231 ⟨F14, hs232, le233, ⟨_, rfl⟩⟩
            obtain rfl := Ab h240
            exact .inl ⟨rfl, F14, hs232, le233, fI⟩
          ·refine Sc ?_
           obtain rfl := Ab h228
           exact .inl ⟨rfl, F1, hs36.dr0.dr0, (SH _), fI⟩
         ·rintro f w216 ⟨F13, hs217, le218, ⟨_, rfl⟩⟩
          obtain rfl := Ab h225
          exact .inl ⟨rfl, F13, hs217, le218, fI⟩
       ·rintro f w178 ⟨F11, hs179, le180, ⟨_, rfl⟩⟩
        obtain rfl := Ab h187
        exact .inl ⟨rfl, F11, hs179, le180, fI⟩
     ·rintro f w131 ⟨F8, hs132, le133, ⟨_, rfl⟩⟩
      obtain rfl := Ab h140
      exact .inl ⟨rfl, F8, hs132, le133, fI⟩
   ·rintro f w110 ⟨F6, hs111, le112, ⟨_, rfl⟩⟩
    obtain rfl := Ab h119
    exact .inl ⟨rfl, F6, hs111, le112, fI⟩
 ·rintro f w37 ⟨F2, hs38, le39, ⟨_, rfl⟩⟩
  refine Ax ?_
  refine Ac ?_
  refine Sq ?_
  refine Sq (Rg [0, 1, 2] ?_)
  refine Vs 3 ?_
  refine Nt ?_
  refine Cd h46 (fun hb309 h310 => ?_) (fun hb309 h311 => ?_)
  ·refine Sq (Rg [0, 1, 2, 3] ?_)
   refine Vs 1 ?_
   obtain ⟨r312, hr313, h314⟩ := bind_some h310
   refine V 94 9 (Bq (t := 9) (t' := 9) (x := (.const (.string ⟨([40] : SZ).toArray⟩))) (y := (.tmp 93)) (a := ([40] : SZ)) (b := j40.2) (v := r312) rfl rfl hr313) ?_
   obtain ⟨r315, hr316, h317⟩ := bind_some h314
   refine V 95 9 (Bq (t := 9) (t' := 9) (x := (.tmp 94)) (y := (.const (.string ⟨([41] : SZ).toArray⟩))) (a := r312) (b := ([41] : SZ)) (v := r315) rfl rfl hr316) ?_
   refine Vs 1 ?_
   refine Nt ?_
   refine Rt ?_
   refine Aj ?_
   obtain rfl := Ab h317
   exact Re [(.string ⟨(r315).toArray⟩)] hs38 rfl
  ·refine Sc ?_
   refine Ac ?_
   refine Sq (Rg [0, 1] ?_)
   refine Vs 2 ?_
   refine Nt ?_
   refine Rt ?_
   obtain rfl := Ab h311
   exact Re [(.string ⟨(j40.2).toArray⟩)] hs38 rfl
structure R4 where
 q97 : Expr -> Int -> Option SZ
def K9 (N : Nat) : Nat -> R4
 | 0 => ⟨fun _ _ => none⟩
 | k + 1 => ⟨CS N (K9 N k).q97⟩
theorem Mv (N : Nat) : ∀ k, NJ (K9 N k).q97
 | 0 => (by unfold NJ; intros; rename_i h; cases h)
 | k + 1 => by
  have ih := Mv N k
  exact @Jb N (K9 N k).q97 ih
def DG (N : Nat) (x0 : Expr) (x1 : Int) : Option SZ := (K9 N N).q97 x0 x1
theorem JI (N : Nat) (w0 : World) (F0 : Mem) (hF : S1 w0 F0) (hG : CA F0) (x0 : Expr) (a0_2 : S0) (n0_2 : Nat) (hb0_2 : LC x0.Kids.length n0_2) (hs0_2 : SlA Ar F0 a0_2 x0.Kids) (x1 : Int) (r : SZ) (h : DG N x0 x1 = some r) :
  Calls Tryz.prog 97 ([(.agg #[(.int .i64 x0.Op), (.int .i64 x0.Value), (.slice a0_2 x0.Kids.length n0_2)]), (.int .i64 x1)] : List Value).toArray w0 (AV w0 F0 fun F' v => v = (.string ⟨(r).toArray⟩)) := (Mv N N) w0 F0 hF hG x0 a0_2 n0_2 hb0_2 hs0_2 x1 r h
def Cr (N : Nat) (x0 : Expr) : Option (SZ × Int) :=
 ((CW N x0).bind fun r24 => (bif (!r24) then some (([] : SZ), 61) else ((DG N x0 1).bind fun r35 => some (r35, 0))))
theorem Ez : Aq Tryz.prog 33 := fun _ _ => by kernel_rfl
theorem ER (N : Nat) (w0 : World) (F0 : Mem) (hF : S1 w0 F0) (hG : CA F0) (x0 : Expr) (a0_2 : S0) (n0_2 : Nat) (hb0_2 : LC x0.Kids.length n0_2) (hs0_2 : SlA Ar F0 a0_2 x0.Kids) (r : (SZ × Int)) (h : Cr N x0 = some r) :
  Calls Tryz.prog 33 ([(.agg (Ai x0 a0_2 n0_2))] : List Value).toArray w0 (AV w0 F0 fun F' v => v = (.tuple #[(.string ⟨(r.1).toArray⟩), (vi r.2)])) := by
 have hs0 := SI hF
 refine Go 9 Tryz.func33 ?_
 refine Sq (Rg [0, 1, 2] ?_)
 refine Bx' 33 (Ai x0 a0_2 n0_2) hs0 (fun b21 w22 hs23 => ?_)
 refine Vs 2 ?_
 refine Nss ?_
 refine Sq (Rg [0, 1, 2] ?_)
 refine Ld hs23.at0 ?_
 obtain ⟨r24, hr25, h26⟩ := bind_some h
 refine Cl' Ey hs23 (E4 N w22 F0 hs23.pers x0 a0_2 n0_2 hb0_2 hs0_2 _ hr25) ?_
 rintro _ F1 w28 hs29 le30 rfl
 refine Vs 1 ?_
 refine Nt ?_
 refine Cd h26 (fun hb32 h33 => ?_) (fun hb32 h34 => ?_)
 ·refine Sq (Rg [0, 1] ?_)
  refine Vs 2 ?_
  refine Nt ?_
  refine Rt ?_
  refine Aj ?_
  obtain rfl := Ab h33
  exact Re [(.string ⟨(([] : SZ)).toArray⟩), (vi 61)] hs29 rfl
 ·refine Sc ?_
  refine Ac ?_
  refine Sq (Rg [0, 1, 2, 3] ?_)
  refine Ld hs29.at0 ?_
  obtain ⟨r35, hr36, h37⟩ := bind_some h34
  refine Cl' BB hs29 (JI N w28 F1 hs29.pers (hG.mono le30) x0 a0_2 n0_2 hb0_2 (SJ hs0_2 le30) 1 _ hr36) ?_
  rintro _ F2 w39 hs40 le41 rfl
  refine Vs 2 ?_
  refine Nt ?_
  refine Rt ?_
  obtain rfl := Ab h37
  exact Re [(.string ⟨(r35).toArray⟩), (vi 0)] hs40 rfl
def AD (N : Nat) (x0 : Aa) (x1 : SZ) : Option Bool :=
 (((idx x0.l_ 0).bind fun x29 => (bif (x29.kind_ == 2) then ((idx x0.l_ 0).bind fun x46 => some (x46.text_ == x1)) else ((idx x0.l_ 0).bind fun x52 => (bif (x52.kind_ == 3) then ((idx x0.l_ 0).bind fun x61 => some (x61.text_ == x1)) else some false)))).bind fun j24 => some j24)
theorem B9 : Aq Tryz.prog 134 := fun _ _ => by kernel_rfl
theorem Ce (N : Nat) {wb w0 : World} {Fb F0 : Mem} {Lf : Own} (bp0 : Nat) (x0 : Aa) (a0_0 : S0) (n0_0 : Nat) (hb0_0 : LC x0.l_.length n0_0) (hs0_0 : SlA Ag F0 a0_0 x0.l_) (x1 : SZ) (hs0 : HS wb Fb w0 F0 ((sb bp0 (Ad x0 a0_0 n0_0) 100) :: Lf)) (r : Bool) (h : AD N x0 x1 = some r) :
  Calls Tryz.prog 134 ([(pt bp0 0), (.string ⟨(x1).toArray⟩)] : List Value).toArray w0 (P6 wb Fb F0 fun F' v L' => v = (.bool r) /\ L' = (sb bp0 (Ad x0 a0_0 n0_0) 100) :: Lf) := by
 refine Go 34 Tryz.func134 ?_
 refine Sq (Rg [0] ?_)
 refine Vs 1 ?_
 refine Nss (Rg [0, 1, 2, 3, 4, 5, 6, 7, 8, 9, 10, 11, 12, 13, 14, 15, 16, 17, 18, 19, 20, 21, 22, 23, 24, 25, 26, 27, 28, 29] ?_)
 obtain ⟨j24, hj27, h28⟩ := bind_some h
 refine SM (fun f w => ∃ (F1 : Mem), HS wb Fb w F1 ((sb bp0 (Ad x0 a0_0 n0_0) 100) :: Lf) /\ SG F0 F1 /\ FI f [] [(4, (.bool j24))]) ?_ ?_
 ·refine Vs 3 ?_
  refine Ld hs0.at0 ?_
  obtain ⟨x29, hx30, h32⟩ := bind_some hj27
  obtain ⟨hi31, hx30'⟩ := Aw hx30
  obtain ⟨b33, o34, C35, E36, fz37, rfl, hF39, hE40⟩ := SQ hs0_0 hx30'
  have hc42 := hE40 _ _ hx30'
  refine Ix hi31 ?_
  refine Vs 1 ?_
  refine Lx 0 (hs0.pers _ _ hF39) hc42 ?_
  refine Vs 2 ?_
  refine Sp h32 (fun hb43 h44 => ?_) (fun hb43 h45 => ?_)
  ·refine Ss hb43 8 ?_
   refine Pk1 hb43 ?_
   refine Vs 1 ?_
   refine Vg 24 95 18 true 23 rfl (mv 0 (pt bp0 0)) ?_
   refine Vg 25 0 18 true 23 rfl (C7 (x := (.tmp 24)) (a := ⟨bp0, 0, none⟩) rfl) ?_
   refine Vg 26 0 18 true 23 rfl (fa 100 25 0 0 1 bp0 0 0) ?_
   refine Vg 27 98 18 true 23 rfl (ld 98 26 bp0 0 false 1 (.slice (some ⟨b33, o34, none⟩) x0.l_.length n0_0) hs0.at0) ?_
   obtain ⟨x46, hx47, h49⟩ := bind_some h44
   obtain ⟨hi48, hx47'⟩ := Aw hx47
   have hc51 := hE40 _ _ hx47'
   refine Vg 28 0 18 true 23 rfl (GJ (t := 98) (x := (.tmp 27)) (y := (.const (vi 0))) (b := b33) (o := o34) (E := 97) (s := 3) (by_ := 32) rfl rfl (by kernel_rfl) hi48) ?_
   refine Vg 29 0 18 true 23 rfl (fa 97 28 2 2 1 b33 (o34 + (0 : Int).toNat * 3) ((o34 + (0 : Int).toNat * 3) + 2)) ?_
   refine Vg 30 9 18 true 23 rfl (lx 9 29 2 3 false 1 (.string ⟨(x46.text_).toArray⟩) (hs0.pers _ _ hF39) hc51) ?_
   refine Vg 31 9 18 true 23 rfl (mv 1 (.string ⟨(x1).toArray⟩)) ?_
   refine Vg 32 4 18 true 23 rfl (Mp (t := 9) (t' := 9) (x := (.tmp 30)) (y := (.tmp 31)) (op := .eql) (a := x46.text_) (b := x1) (v := (x46.text_ == x1)) rfl rfl rfl) ?_
   refine Pk1 (rfl : true = true) ?_
   refine Vs 1 ?_
   obtain rfl := Ab h49
   exact SC ⟨rfl, F0, hs0, (SH _), fI⟩
  ·refine Vgs hb43 3 ?_
   refine Lg hb43 hs0.at0 ?_
   obtain ⟨x52, hx53, h55⟩ := bind_some h45
   obtain ⟨hi54, hx53'⟩ := Aw hx53
   have hc57 := hE40 _ _ hx53'
   refine Ixg hb43 hi54 ?_
   refine Vgs hb43 1 ?_
   refine Lxg hb43 0 (hs0.pers _ _ hF39) hc57 ?_
   refine Vgs hb43 1 ?_
   refine Pk0 hb43 ?_
   refine Vs 1 ?_
   refine Sp h55 (fun hb58 h59 => ?_) (fun hb58 h60 => ?_)
   ·refine Vgs hb58 3 ?_
    refine Lg hb58 hs0.at0 ?_
    obtain ⟨x61, hx62, h64⟩ := bind_some h59
    obtain ⟨hi63, hx62'⟩ := Aw hx62
    have hc66 := hE40 _ _ hx62'
    refine Ixg hb58 hi63 ?_
    refine Vgs hb58 1 ?_
    refine Lxg hb58 2 (hs0.pers _ _ hF39) hc66 ?_
    refine Vgs hb58 2 ?_
    refine Pk1 hb58 ?_
    refine Vs 1 ?_
    obtain rfl := Ab h64
    exact SC ⟨rfl, F0, hs0, (SH _), fI⟩
   ·refine Ss hb58 9 ?_
    refine Pk0 hb58 ?_
    refine Vs 1 ?_
    obtain rfl := Ab h60
    exact SC ⟨rfl, F0, hs0, (SH _), fI⟩
 ·rintro f w21 ⟨F1, hs22, le23, ⟨_, rfl⟩⟩
  refine Ac ?_
  refine Rt ?_
  obtain rfl := Ab h28
  exact ReB [(.bool j24)] hs22 le23 ⟨rfl, rfl⟩
def Ap (N : Nat) (x0 : Aa) (x1 : SZ) : Option (Aa × Bool) :=
 ((AD N x0 x1).bind fun r21 => (bif (!r21) then some (x0, false) else ((sub x0.l_ 1 (x0.l_.length : Int)).bind fun r31 => some (({ l_ := r31, open_ := x0.open_ } : Aa), true))))
theorem AG : Aq Tryz.prog 80 := fun _ _ => by kernel_rfl
theorem AJ (N : Nat) {wb w0 : World} {Fb F0 : Mem} {Lf : Own} (bp0 : Nat) (x0 : Aa) (a0_0 : S0) (n0_0 : Nat) (hb0_0 : LC x0.l_.length n0_0) (hs0_0 : SlA Ag F0 a0_0 x0.l_) (x1 : SZ) (hs0 : HS wb Fb w0 F0 ((sb bp0 (Ad x0 a0_0 n0_0) 100) :: Lf)) (r : (Aa × Bool)) (h : Ap N x0 x1 = some r) :
  Calls Tryz.prog 80 ([(pt bp0 0), (.string ⟨(x1).toArray⟩)] : List Value).toArray w0 (P6 wb Fb F0 fun F' v L' => ∃ (aq0_0 : S0) (nq0_0 : Nat), v = (.bool r.2) /\ L' = (sb bp0 (Ad r.1 aq0_0 nq0_0) 100) :: Lf /\ LC r.1.l_.length nq0_0 /\ SlA Ag F' aq0_0 r.1.l_) := by
 refine Go 17 Tryz.func80 ?_
 refine Sq (Rg [0] ?_)
 refine Vs 1 ?_
 refine Nss ?_
 refine Sq (Rg [0, 1, 2, 3] ?_)
 refine Vs 2 ?_
 obtain ⟨r21, hr22, h23⟩ := bind_some h
 refine CB B9 (Ce N bp0 x0 a0_0 n0_0 hb0_0 hs0_0 x1 hs0 _ hr22) ?_
 rintro _ F1 w24 _ hs25 le26 ⟨rfl, rfl⟩
 refine Vs 1 ?_
 refine Nt ?_
 refine Cd h23 (fun hb28 h29 => ?_) (fun hb28 h30 => ?_)
 ·refine Sq (Rg [0] ?_)
  refine Vs 1 ?_
  refine Nt ?_
  refine Rt ?_
  refine Aj ?_
  obtain rfl := Ab h29
  exact ReB [(.bool false)] hs25 le26 ⟨a0_0, n0_0, rfl, rfl, hb0_0, (SJ hs0_0 le26)⟩
 ·refine Sc ?_
  refine Ac ?_
  refine Sq (Rg [0, 1, 2, 3, 4, 5, 6, 7, 8] ?_)
  refine Vs 4 ?_
  refine Ld hs25.at0 ?_
  obtain ⟨r31, hr32, h33⟩ := bind_some h30
  obtain ⟨a34, n35, hb36, hs37, hrun38⟩ := J6 (P := Tryz.prog) (T := Ag) (lo := (some (.const (vi 1)))) (hi := none) (mx := none) (t := 98) (E := 97) (by_ := 32) (c := n0_0) (a := a0_0) (l := x0.l_) (r := r31) (il := 1) (ih := (x0.l_.length : Int)) (im := 0) (by kernel_rfl) (by kernel_rfl) hb0_0 (SJ hs0_0 le26) (fun h => by first | rfl | cases h) hr32
  refine V 14 98 (hrun38 (x := (.tmp 13)) rfl rfl rfl trivial) ?_
  refine Vs 2 ?_
  refine St0 #[(.slice a34 r31.length n35), (vi x0.open_)] hs25 (fun w39 hs40 => ?_)
  refine Nss (Rg [0] ?_)
  refine Vs 1 ?_
  refine Nt ?_
  refine Rt ?_
  obtain rfl := Ab h33
  exact ReB [(.bool true)] hs40 le26 ⟨a34, n35, rfl, rfl, hb36, hs37⟩
def AA (N : Nat) (x0 : Aa) (x1 : (Aa -> Option (Af ⊕ (Aa × Expr)))) (x2 : (List (SZ × Int))) (r27 : (Aa × Expr)) : (Int × Int × List Expr × List Ah × Int) -> Option (Bn (Af ⊕ (Aa × Expr)) (Int × Int × List Expr × List Ah × Int)) := fun s42 =>
 ((idx s42.2.2.2.1 0).bind fun x64 => ((bif (!(Hp x2 x64.text_)) then some (true, s42.2.2.2.1, s42.2.2.2.2) else ((idx s42.2.2.2.1 0).bind fun x95 => ((Ap N ({ l_ := s42.2.2.2.1, open_ := s42.2.2.2.2 } : Aa) x95.text_).bind fun r101 => some ((!r101.2), r101.1.l_, r101.1.open_)))).bind fun j81 => (bif j81.1 then some (.ret (.inr (({ l_ := j81.2.1, open_ := j81.2.2 } : Aa), ({ Op := s42.1, Value := s42.2.1, Kids := s42.2.2.1 } : Expr)))) else (((x1 ({ l_ := j81.2.1, open_ := j81.2.2 } : Aa)).bind fun r129 => sk r129 (fun b146 => some (.inl b146)) (fun r132 => some (.inr (r132.1.l_, r132.1.open_, (Ev x2 x64.text_ 0), 0, [({ Op := s42.1, Value := s42.2.1, Kids := s42.2.2.1 } : Expr), r132.2])))).bind fun j119 => sk j119 (fun b158 => some (.ret (.inl b158))) (fun J128 => some (.next (J128.2.2.1, J128.2.2.2.1, J128.2.2.2.2, J128.1, J128.2.1)))))))
def AN (N : Nat) (x0 : Aa) (x1 : (Aa -> Option (Af ⊕ (Aa × Expr)))) (x2 : (List (SZ × Int))) : Option (Af ⊕ (Aa × Expr)) :=
 ((x1 x0).bind fun r24 => sk r24 (fun b165 => some (.inl b165)) (fun r27 => ((AX (AA N x0 x1 x2 r27) N (r27.2.Op, r27.2.Value, r27.2.Kids, r27.1.l_, r27.1.open_)).bind fun o => o.k (fun r => some r) (fun s52 => some (.inr (({ l_ := s52.2.2.2.1, open_ := s52.2.2.2.2 } : Aa), ({ Op := 0, Value := 0, Kids := ([] : List Expr) } : Expr)))))))
theorem BD : Aq Tryz.prog 184 := fun _ _ => by kernel_rfl
theorem BO (N : Nat) {wb w0 : World} {Fb F0 : Mem} {Lf : Own} (hG : CA F0) (bp0 : Nat) (x0 : Aa) (a0_0 : S0) (n0_0 : Nat) (hb0_0 : LC x0.l_.length n0_0) (hs0_0 : SlA Ag F0 a0_0 x0.l_) (gx1 : FuncId) (fx1 kx1 : List Value) (x1 : (Aa -> Option (Af ⊕ (Aa × Expr)))) (hox1 : Aq Tryz.prog gx1) (hpx1 : Rw bp0 gx1 fx1 kx1 x1) (x2 : (List (SZ × Int))) (o2_0 : Option Nat) (hm2_0 : MpA ES Ci F0 o2_0 x2) (hs0 : HS wb Fb w0 F0 ((sb bp0 (Ad x0 a0_0 n0_0) 100) :: Lf)) (r : (Af ⊕ (Aa × Expr))) (h : AN N x0 x1 x2 = some r) :
  Calls Tryz.prog 184 ([(pt bp0 0), (.func (.func gx1) fx1.toArray kx1.toArray), (.map o2_0)] : List Value).toArray w0 (BK wb Fb F0 Lf r (fun b => (.iface 158 (.agg (AK b)))) fun a F' v L' => ∃ (aq0_0 : S0) (nq0_0 : Nat) (aq1_2 : S0) (nq1_2 : Nat), v = (.agg (Ai a.2 aq1_2 nq1_2)) /\ L' = (sb bp0 (Ad a.1 aq0_0 nq0_0) 100) :: Lf /\ LC a.1.l_.length nq0_0 /\ SlA Ag F' aq0_0 a.1.l_ /\ LC a.2.Kids.length nq1_2 /\ SlA Ar F' aq1_2 a.2.Kids) := by
 refine Go 45 Tryz.func184 ?_
 refine Sq (Rg [0] ?_)
 refine Al' 33 #[(vi 0), (vi 0), (.slice none ([] : List Expr).length 0)] hs0 (fun b21 w22 hs23 => ?_)
 refine Nss (Rg [0, 1, 2, 3] ?_)
 refine Vs 1 ?_
 obtain ⟨r24, hr25, h26⟩ := bind_some h
 refine CPq hox1 (hpx1 hG x0 a0_0 n0_0 hb0_0 hs0_0 hs23.pk1 _ hr25) ?_ ?_
 ·rintro r27 _ F1 w29 _ rfl hs30 le31 ⟨ar27_0_0, nr27_0_0, ar27_1_2, nr27_1_2, rfl, rfl, hbr27_0_0, hsr27_0_0, hbr27_1_2, hsr27_1_2⟩
  have h33 := BU h26
  refine Al' 33 #[(vi 0), (vi 0), (.slice none ([] : List Expr).length 0)] hs30 (fun b34 w35 hs36 => ?_)
  refine St0 (Ai r27.2 ar27_1_2 nr27_1_2) hs36 (fun w37 hs38 => ?_)
  refine Nt ?_
  obtain ⟨o39, ho40, h41⟩ := bind_some h33
  refine SN (fun f w => ∃ (s52 : (Int × Int × List Expr × List Ah × Int)) (F3 : Mem) (as52_3 : S0) (ns52_3 : Nat), o39 = .done s52 /\ HS wb Fb w F3 ((sb bp0 #[(.slice as52_3 s52.2.2.2.1.length ns52_3), (vi s52.2.2.2.2)] 100) :: (sb b21 #[(vi 0), (vi 0), (.slice none ([] : List Expr).length 0)] 33) :: Lf) /\ SG F1 F3 /\ FI f [] [(6, (pt b21 0))] /\ LC s52.2.2.2.1.length ns52_3 /\ SlA Ag F3 as52_3 s52.2.2.2.1) ?_ ?_
  ·refine Bk ?_
   refine SF (by kernel_rfl) (fun m f w => ∃ (s42 : (Int × Int × List Expr × List Ah × Int)) (F2 : Mem) (as42_2 : S0) (ns42_2 : Nat) (as42_3 : S0) (ns42_3 : Nat), AX (AA N x0 x1 x2 r27) m s42 = some o39 /\ HS wb Fb w F2 ((sb b34 #[(vi s42.1), (vi s42.2.1), (.slice as42_2 s42.2.2.1.length ns42_2)] 33) :: (sb bp0 #[(.slice as42_3 s42.2.2.2.1.length ns42_3), (vi s42.2.2.2.2)] 100) :: (sb b21 #[(vi 0), (vi 0), (.slice none ([] : List Expr).length 0)] 33) :: Lf) /\ SG F1 F2 /\ FI f [] [(0, (pt bp0 0)), (1, (.func (.func gx1) fx1.toArray kx1.toArray)), (2, (.map o2_0)), (6, (pt b21 0)), (7, (pt b34 0))] /\ LC s42.2.2.1.length ns42_2 /\ SlA Ar F2 as42_2 s42.2.2.1 /\ LC s42.2.2.2.1.length ns42_3 /\ SlA Ag F2 as42_3 s42.2.2.2.1) N ⟨(r27.2.Op, r27.2.Value, r27.2.Kids, r27.1.l_, r27.1.open_), F1, ar27_1_2, nr27_1_2, ar27_0_0, nr27_0_0, ho40, hs38, (SH _), fI, hbr27_1_2, hsr27_1_2, hbr27_0_0, hsr27_0_0⟩ ?_
   rintro m58 f w43 ⟨s42, F2, as42_2, ns42_2, as42_3, ns42_3, hit59, hs44, le45, ⟨_, rfl⟩, hbs42_2, hss42_2, hbs42_3, hss42_3⟩
   obtain ⟨m60, fl61, rfl, hb62, hnx63⟩ := Bf hit59
   refine Bk ?_
   refine Sq (Rg [0, 1, 2, 3, 4, 5, 6, 7, 8, 9, 10, 11, 12, 13] ?_)
   refine Vs 4 ?_
   refine Ld hs44.at1 ?_
   obtain ⟨x64, hx65, h67⟩ := bind_some hb62
   obtain ⟨hi66, hx65'⟩ := Aw hx65
   obtain ⟨b68, o69, C70, E71, fz72, rfl, hF74, hE75⟩ := SQ hss42_3 hx65'
   have hc77 := hE75 _ _ hx65'
   refine Ix hi66 ?_
   refine Vs 1 ?_
   refine Lx 2 (hs44.pers _ _ hF74) hc77 ?_
   refine V 21 213 (Nc (mt := 198) (k := 9) (vt := 3) (m := (.tmp 13)) (x := (.tmp 20)) (kv := (.string ⟨(x64.text_).toArray⟩)) (kx := x64.text_) (z := (vi 0)) (zx := 0) (K := ES) (T := Ci) kl9 rfl rfl ⟨_, rfl, rfl⟩ (by kernel_rfl) (by kernel_rfl) ⟨_, rfl, rfl⟩ (MpA.mpw hs44.pers (MpA.mono hm2_0 (le31.trans le45))) (fun h => by obtain ⟨_, rfl, rfl⟩ := h; rfl)) ?_
   refine Vs 5 ?_
   refine Nss ?_
   refine Sq (Rg [0, 1, 2, 3, 4, 5, 6, 7, 8, 9, 10, 11, 12, 13] ?_)
   obtain ⟨j81, hj90, h91⟩ := bind_some h67
   refine SM (fun f w => ∃ (F4 : Mem) (aj81_1 : S0) (nj81_1 : Nat), HS wb Fb w F4 ((sb b34 #[(vi s42.1), (vi s42.2.1), (.slice as42_2 s42.2.2.1.length ns42_2)] 33) :: (sb bp0 #[(.slice aj81_1 j81.2.1.length nj81_1), (vi j81.2.2)] 100) :: (sb b21 #[(vi 0), (vi 0), (.slice none ([] : List Expr).length 0)] 33) :: Lf) /\ SG F2 F4 /\ FI f [] [(0, (pt bp0 0)), (1, (.func (.func gx1) fx1.toArray kx1.toArray)), (2, (.map o2_0)), (6, (pt b21 0)), (7, (pt b34 0)), (8, (vi (Ev x2 x64.text_ 0))), (37, (.bool j81.1))] /\ LC j81.2.1.length nj81_1 /\ SlA Ag F4 aj81_1 j81.2.1) ?_ ?_
   ·refine Vs 3 ?_
    refine Sp hj90 (fun hb92 h93 => ?_) (fun hb92 h94 => ?_)
    ·refine Ss hb92 10 ?_
     refine Pk1 hb92 ?_
     obtain rfl := Ab h93
     exact SC ⟨rfl, F2, (some ⟨b68, o69, none⟩), ns42_3, hs44, (SH _), fI, hbs42_3, hss42_3⟩
    ·refine Vgs hb92 4 ?_
     refine Lg hb92 hs44.at1 ?_
     obtain ⟨x95, hx96, h98⟩ := bind_some h94
     obtain ⟨hi97, hx96'⟩ := Aw hx96
     have hc100 := hE75 _ _ hx96'
     refine Ixg hb92 hi97 ?_
     refine Vgs hb92 1 ?_
     refine Lxg hb92 2 (hs44.pers _ _ hF74) hc100 ?_
     obtain ⟨r101, hr102, h103⟩ := bind_some h98
     refine RWP.callB (dst := (some 35)) (ty := 4) (g := (some (2, false))) (by kernel_rfl) (Nz (d := 26) (by kernel_rfl) rfl hb92) (f0 := (.func 80)) (aos := #[(.tmp 27), (.tmp 34)]) (ats := #[95, 9]) (fid := 80) (first := #[]) (cap := #[]) (args := [(pt bp0 0), (.string ⟨(x95.text_).toArray⟩)]) rfl AG rfl (AJ N bp0 (({ l_ := s42.2.2.2.1, open_ := s42.2.2.2.2 } : Aa)) (some ⟨b68, o69, none⟩) ns42_3 hbs42_3 hss42_3 x95.text_ hs44.pk2.pk1.pk2 _ hr102) ?_
     rintro _ F5 w104 _ hs105 le106 ⟨ar101_0_0, nr101_0_0, rfl, rfl, hbr101_0_0, hsr101_0_0⟩
     refine Vgs hb92 1 ?_
     refine Pk0 hb92 ?_
     obtain rfl := Ab h103
     exact SC ⟨rfl, F5, ar101_0_0, nr101_0_0, hs105.pk2.pk1.pk2, le106, fI, hbr101_0_0, hsr101_0_0⟩
   ·rintro f w78 ⟨F4, aj81_1, nj81_1, hs79, le80, ⟨_, rfl⟩, hbj81_1, hsj81_1⟩
    refine Ac ?_
    refine Cd h91 (fun hb108 h109 => ?_) (fun hb108 h110 => ?_)
    ·refine Sq (Rg [0, 1] ?_)
     refine Ld hs79.at0 ?_
     refine St2 #[(vi s42.1), (vi s42.2.1), (.slice as42_2 s42.2.2.1.length ns42_2)] hs79 (fun w111 hs112 => ?_)
     refine Nt ?_
     refine Rt ?_
     refine Aj ?_
     refine Al ?_
     refine Aj ?_
     refine Al ?_
     have hret := Cs h109 hnx63
     subst hret
     refine .inr ?_
     obtain rfl := Ab h41
     exact ⟨rfl, (.agg #[(vi s42.1), (vi s42.2.1), (.slice as42_2 s42.2.2.1.length ns42_2)]), AB (l := [.cell 6 33]) (by kernel_rfl) (vs := [(.agg #[(vi s42.1), (vi s42.2.1), (.slice as42_2 s42.2.2.1.length ns42_2)])]) ⟨b21, 0, rfl, Ak (t := 33) (g := true) (s := 3) (by kernel_rfl) hs112.at2 rfl (by decide), trivial⟩, .inl ⟨_, F4, _, _, rfl, rfl, hs112.dr0.dr1, ((le31.trans le45).trans le80), ⟨aj81_1, nj81_1, as42_2, ns42_2, rfl, rfl, hbj81_1, hsj81_1, hbs42_2, (SJ hss42_2 le80)⟩⟩⟩
    ·refine Sc ?_
     refine Ac ?_
     obtain ⟨j119, hj126, h127⟩ := bind_some h110
     refine RDP 6 7 [(sb b21 #[(vi 0), (vi 0), (.slice none ([] : List Expr).length 0)] 33)] [(sb b34 #[(vi s42.1), (vi s42.2.1), (.slice as42_2 s42.2.2.1.length ns42_2)] 33)] hs79 (fun c d w => d = [] /\ ∃ (b : Af) (Fp : Mem), j119 = .inl b /\ c = [{ v := (.iface 158 (.agg (AK b))), recovered := false }] /\ HS wb Fb w Fp Lf /\ SG F4 Fp) (fun f w => ∃ (J128 : (List Ah × Int × Int × Int × List Expr)), j119 = .inr J128 /\ ∃ (F6 : Mem) (aj119_0 : S0) (nj119_0 : Nat) (aj119_4 : S0) (nj119_4 : Nat) (ej119_4 : Option Nat × Obj), HS wb Fb w F6 (ej119_4 :: (sb b34 #[(vi J128.2.2.1), (vi J128.2.2.2.1), (.slice aj119_4 J128.2.2.2.2.length nj119_4)] 33) :: (sb bp0 #[(.slice aj119_0 J128.1.length nj119_0), (vi J128.2.1)] 100) :: (sb b21 #[(vi 0), (vi 0), (.slice none ([] : List Expr).length 0)] 33) :: Lf) /\ SG F4 F6 /\ FI f [] [(0, (pt bp0 0)), (1, (.func (.func gx1) fx1.toArray kx1.toArray)), (2, (.map o2_0)), (6, (pt b21 0)), (7, (pt b34 0))] /\ LC J128.1.length nj119_0 /\ SlA Ag F6 aj119_0 J128.1 /\ Av Ar 33 F6 aj119_4 nj119_4 J128.2.2.2.2 ej119_4) (fun wd113 hw114 => ?_) ?_ ?_
     ·refine Dv [0] ?_
      refine Dl 1 (fun _ hq => ((hq.2 rfl).2 0 _ _ rfl)) ?_
      refine Dv [2] ?_
      refine D1 3 ?_
      obtain ⟨r129, hr130, h131⟩ := bind_some hj126
      refine Ay.callBP (l' := [true, true, true, true, false, false, false]) (zd := false) (by kernel_rfl) (by kernel_rfl) (Lf := (sb b34 #[(vi s42.1), (vi s42.2.1), (.slice as42_2 s42.2.2.1.length ns42_2)] 33) :: (sb b21 #[(vi 0), (vi 0), (.slice none ([] : List Expr).length 0)] 33) :: Lf) (dst := (some 42)) (ty := 33) (g := none) (by kernel_rfl) rfl (f0 := (.tmp 41)) (aos := #[]) (ats := #[]) (fid := gx1) (first := fx1.toArray) (cap := kx1.toArray) (args := (fx1 ++ (([] : List Value) ++ kx1))) rfl hox1 (OQ (l := []) (fi := fx1) (k := kx1) rfl) (hpx1 (hG.mono ((le31.trans le45).trans le80)) (({ l_ := j81.2.1, open_ := j81.2.2 } : Aa)) aj81_1 nj81_1 hbj81_1 hsj81_1 hw114.pk2.pk1.pk2 _ hr130) ?_ ?_
      ·rintro r132 _ F7 w134 _ rfl hs135 le136 ⟨ar132_0_0, nr132_0_0, ar132_1_2, nr132_1_2, rfl, rfl, hbr132_0_0, hsr132_0_0, hbr132_1_2, hsr132_1_2⟩
       have h138 := BU h131
       refine ⟨BI hs135 le136 (by simp) (fun _ => by simp), ?_⟩
       refine D1 4 ?_
       refine DBs 33 [(vi s42.1), (vi s42.2.1), (.slice as42_2 s42.2.2.1.length ns42_2), (vi r132.2.Op), (vi r132.2.Value), (.slice ar132_1_2 r132.2.Kids.length nr132_1_2)] hs135 le136 (fun b139 w140 hs141 => ?_)
       have hr143 : Av Ar 33 F7 (some ⟨b139, 0, none⟩) 2 [({ Op := s42.1, Value := s42.2.1, Kids := s42.2.2.1 } : Expr), r132.2] (some b139, .cells ([(vi s42.1), (vi s42.2.1), (.slice as42_2 s42.2.2.1.length ns42_2), (vi r132.2.Op), (vi r132.2.Value), (.slice ar132_1_2 r132.2.Kids.length nr132_1_2)] : List Value).toArray 33 (0, 0)) := SX ⟨(A6 ⟨as42_2, ns42_2, rfl, hbs42_2, (SJ hss42_2 (le80.trans le136))⟩), ⟨(A6 ⟨ar132_1_2, nr132_1_2, rfl, hbr132_1_2, hsr132_1_2⟩), rfl⟩⟩ (by simp)
       refine Dv [5] ?_
       refine D1 6 ?_
       refine Sv #[(vi (Ev x2 x64.text_ 0)), (vi 0), (.slice (some ⟨b139, 0, none⟩) [({ Op := s42.1, Value := s42.2.1, Kids := s42.2.2.1 } : Expr), r132.2].length 2)] hs141 le136 (fun w144 hs145 => ?_)
       obtain rfl := Ab h138
       exact SV (by kernel_rfl) ⟨_, rfl, F7, ar132_0_0, nr132_0_0, (some ⟨b139, 0, none⟩), 2, (some b139, .cells ([(vi s42.1), (vi s42.2.1), (.slice as42_2 s42.2.2.1.length ns42_2), (vi r132.2.Op), (vi r132.2.Value), (.slice ar132_1_2 r132.2.Kids.length nr132_1_2)] : List Value).toArray 33 (0, 0)), hs145.pk3.pk2.pk3.pk3, le136, fI, hbr132_0_0, hsr132_0_0, hr143⟩
      ·rintro b146 F8 w147 rfl hs148 le149
       have h150 := Bo h131
       obtain rfl := Ab h150
       exact ⟨rfl, _, _, rfl, rfl, hs148.dr0.dr0, le149⟩
     ·rintro f w115 ⟨J128, rfl, F6, aj119_0, nj119_0, aj119_4, nj119_4, ej119_4, hs116, le117, ⟨_, rfl⟩, hbj119_0, hsj119_0, hrj119_4⟩
      have h152 := BU h127
      refine Ax ?_
      have hb156 := SW hrj119_4
      obtain ⟨F9, hs153, le154, hs155⟩ := hs116.fr0 hrj119_4
      have hn157 := A8 h152 hnx63
      exact ⟨m60, Nat.lt_succ_self _, (J128.2.2.1, J128.2.2.2.1, J128.2.2.2.2, J128.1, J128.2.1), F9, aj119_4, nj119_4, aj119_0, nj119_0, hn157, hs153, (((le45.trans le80).trans le117).trans le154), fI, hb156, hs155, hbj119_0, (SJ hsj119_0 le154)⟩
     ·rintro c f w159 ⟨hd162, b158, F10, rfl, rfl, hs160, le161⟩
      have h163 := Bo h127
      refine AP ?_
      refine An ?_
      refine AP ?_
      have hret := Cs h163 hnx63
      subst hret
      refine .inr ?_
      obtain rfl := Ab h41
      exact ⟨hd162, .inr ⟨_, F10, rfl, rfl, hs160, (((le31.trans le45).trans le80).trans le161)⟩⟩
  ·rintro f w53 ⟨s52, F3, as52_3, ns52_3, rfl, hs54, le55, ⟨_, rfl⟩, hbs52_3, hss52_3⟩
   have h164 := Cu h41
   obtain rfl := Ab h164
   exact ⟨rfl, (.agg #[(vi 0), (vi 0), (.slice none ([] : List Expr).length 0)]), AB (l := [.cell 6 33]) (by kernel_rfl) (vs := [(.agg #[(vi 0), (vi 0), (.slice none ([] : List Expr).length 0)])]) ⟨b21, 0, rfl, Ak (t := 33) (g := true) (s := 3) (by kernel_rfl) hs54.at1 rfl (by decide), trivial⟩, .inl ⟨_, F3, _, _, rfl, rfl, hs54.dr1, (le31.trans le55), ⟨as52_3, ns52_3, none, 0, rfl, rfl, hbs52_3, hss52_3, SK, (.inl rfl)⟩⟩⟩
 ·rintro b165 F11 w166 rfl hs167 le168
  have h169 := Bo h26
  refine An ?_
  obtain rfl := Ab h169
  exact Ch hs167.dr0 le168
def L8 (sR145 : Aa -> Option (Af ⊕ (Aa × Expr))) : Prop := ∀ {wb w0 : World} {Fb F0 : Mem} {Lf : Own} (hG : CA F0) (bp0 : Nat) (x0 : Aa) (a0_0 : S0) (n0_0 : Nat) (hb0_0 : LC x0.l_.length n0_0) (hs0_0 : SlA Ag F0 a0_0 x0.l_) (hs0 : HS wb Fb w0 F0 ((some bp0, (.cells #[(.slice a0_0 x0.l_.length n0_0), (.int .i64 x0.open_)] 100 (0, 0))) :: Lf)) (r : (Af ⊕ (Aa × Expr))), sR145 x0 = some r -> Calls Tryz.prog 145 ([(.pointer (some ⟨bp0, 0, none⟩))] : List Value).toArray w0 (BK wb Fb F0 Lf r (fun b => (.iface 158 (.agg #[(.int .i64 b.e_), (.int .i64 b.at_)]))) fun a F' v L' => ∃ (aq0_0 : S0) (nq0_0 : Nat) (aq1_2 : S0) (nq1_2 : Nat), v = (.agg #[(.int .i64 a.2.Op), (.int .i64 a.2.Value), (.slice aq1_2 a.2.Kids.length nq1_2)]) /\ L' = (some bp0, (.cells #[(.slice aq0_0 a.1.l_.length nq0_0), (.int .i64 a.1.open_)] 100 (0, 0))) :: Lf /\ LC a.1.l_.length nq0_0 /\ SlA Ag F' aq0_0 a.1.l_ /\ LC a.2.Kids.length nq1_2 /\ SlA Ar F' aq1_2 a.2.Kids)
theorem BJ : Aq Tryz.prog 145 := fun _ _ => by kernel_rfl
def L6 (sR185 : Aa -> Option (Af ⊕ (Aa × Expr))) : Prop := ∀ {wb w0 : World} {Fb F0 : Mem} {Lf : Own} (hG : CA F0) (bp0 : Nat) (x0 : Aa) (a0_0 : S0) (n0_0 : Nat) (hb0_0 : LC x0.l_.length n0_0) (hs0_0 : SlA Ag F0 a0_0 x0.l_) (hs0 : HS wb Fb w0 F0 ((some bp0, (.cells #[(.slice a0_0 x0.l_.length n0_0), (.int .i64 x0.open_)] 100 (0, 0))) :: Lf)) (r : (Af ⊕ (Aa × Expr))), sR185 x0 = some r -> Calls Tryz.prog 185 ([(.pointer (some ⟨bp0, 0, none⟩))] : List Value).toArray w0 (BK wb Fb F0 Lf r (fun b => (.iface 158 (.agg #[(.int .i64 b.e_), (.int .i64 b.at_)]))) fun a F' v L' => ∃ (aq0_0 : S0) (nq0_0 : Nat) (aq1_2 : S0) (nq1_2 : Nat), v = (.agg #[(.int .i64 a.2.Op), (.int .i64 a.2.Value), (.slice aq1_2 a.2.Kids.length nq1_2)]) /\ L' = (some bp0, (.cells #[(.slice aq0_0 a.1.l_.length nq0_0), (.int .i64 a.1.open_)] 100 (0, 0))) :: Lf /\ LC a.1.l_.length nq0_0 /\ SlA Ag F' aq0_0 a.1.l_ /\ LC a.2.Kids.length nq1_2 /\ SlA Ar F' aq1_2 a.2.Kids)
theorem Gt : Aq Tryz.prog 185 := fun _ _ => by kernel_rfl
def JP (sR212 : Aa -> Option (Af ⊕ (Aa × Expr))) : Prop := ∀ {wb w0 : World} {Fb F0 : Mem} {Lf : Own} (hG : CA F0) (bp0 : Nat) (x0 : Aa) (a0_0 : S0) (n0_0 : Nat) (hb0_0 : LC x0.l_.length n0_0) (hs0_0 : SlA Ag F0 a0_0 x0.l_) (hs0 : HS wb Fb w0 F0 ((some bp0, (.cells #[(.slice a0_0 x0.l_.length n0_0), (.int .i64 x0.open_)] 100 (0, 0))) :: Lf)) (r : (Af ⊕ (Aa × Expr))), sR212 x0 = some r -> Calls Tryz.prog 212 ([(.pointer (some ⟨bp0, 0, none⟩))] : List Value).toArray w0 (BK wb Fb F0 Lf r (fun b => (.iface 158 (.agg #[(.int .i64 b.e_), (.int .i64 b.at_)]))) fun a F' v L' => ∃ (aq0_0 : S0) (nq0_0 : Nat) (aq1_2 : S0) (nq1_2 : Nat), v = (.agg #[(.int .i64 a.2.Op), (.int .i64 a.2.Value), (.slice aq1_2 a.2.Kids.length nq1_2)]) /\ L' = (some bp0, (.cells #[(.slice aq0_0 a.1.l_.length nq0_0), (.int .i64 a.1.open_)] 100 (0, 0))) :: Lf /\ LC a.1.l_.length nq0_0 /\ SlA Ag F' aq0_0 a.1.l_ /\ LC a.2.Kids.length nq1_2 /\ SlA Ar F' aq1_2 a.2.Kids)
theorem DU : Aq Tryz.prog 212 := fun _ _ => by kernel_rfl
def L3 (sR226 : Aa -> Option (Af ⊕ (Aa × Expr))) : Prop := ∀ {wb w0 : World} {Fb F0 : Mem} {Lf : Own} (hG : CA F0) (bp0 : Nat) (x0 : Aa) (a0_0 : S0) (n0_0 : Nat) (hb0_0 : LC x0.l_.length n0_0) (hs0_0 : SlA Ag F0 a0_0 x0.l_) (hs0 : HS wb Fb w0 F0 ((some bp0, (.cells #[(.slice a0_0 x0.l_.length n0_0), (.int .i64 x0.open_)] 100 (0, 0))) :: Lf)) (r : (Af ⊕ (Aa × Expr))), sR226 x0 = some r -> Calls Tryz.prog 226 ([(.pointer (some ⟨bp0, 0, none⟩))] : List Value).toArray w0 (BK wb Fb F0 Lf r (fun b => (.iface 158 (.agg #[(.int .i64 b.e_), (.int .i64 b.at_)]))) fun a F' v L' => ∃ (aq0_0 : S0) (nq0_0 : Nat) (aq1_2 : S0) (nq1_2 : Nat), v = (.agg #[(.int .i64 a.2.Op), (.int .i64 a.2.Value), (.slice aq1_2 a.2.Kids.length nq1_2)]) /\ L' = (some bp0, (.cells #[(.slice aq0_0 a.1.l_.length nq0_0), (.int .i64 a.1.open_)] 100 (0, 0))) :: Lf /\ LC a.1.l_.length nq0_0 /\ SlA Ag F' aq0_0 a.1.l_ /\ LC a.2.Kids.length nq1_2 /\ SlA Ar F' aq1_2 a.2.Kids)
theorem Gp : Aq Tryz.prog 226 := fun _ _ => by kernel_rfl
def L2 (sR233 : Aa -> Option (Af ⊕ (Aa × Expr))) : Prop := ∀ {wb w0 : World} {Fb F0 : Mem} {Lf : Own} (hG : CA F0) (bp0 : Nat) (x0 : Aa) (a0_0 : S0) (n0_0 : Nat) (hb0_0 : LC x0.l_.length n0_0) (hs0_0 : SlA Ag F0 a0_0 x0.l_) (hs0 : HS wb Fb w0 F0 ((some bp0, (.cells #[(.slice a0_0 x0.l_.length n0_0), (.int .i64 x0.open_)] 100 (0, 0))) :: Lf)) (r : (Af ⊕ (Aa × Expr))), sR233 x0 = some r -> Calls Tryz.prog 233 ([(.pointer (some ⟨bp0, 0, none⟩))] : List Value).toArray w0 (BK wb Fb F0 Lf r (fun b => (.iface 158 (.agg #[(.int .i64 b.e_), (.int .i64 b.at_)]))) fun a F' v L' => ∃ (aq0_0 : S0) (nq0_0 : Nat) (aq1_2 : S0) (nq1_2 : Nat), v = (.agg #[(.int .i64 a.2.Op), (.int .i64 a.2.Value), (.slice aq1_2 a.2.Kids.length nq1_2)]) /\ L' = (some bp0, (.cells #[(.slice aq0_0 a.1.l_.length nq0_0), (.int .i64 a.1.open_)] 100 (0, 0))) :: Lf /\ LC a.1.l_.length nq0_0 /\ SlA Ag F' aq0_0 a.1.l_ /\ LC a.2.Kids.length nq1_2 /\ SlA Ar F' aq1_2 a.2.Kids)
theorem BT : Aq Tryz.prog 233 := fun _ _ => by kernel_rfl
def L1 (sR239 : Aa -> Option (Af ⊕ (Aa × Expr))) : Prop := ∀ {wb w0 : World} {Fb F0 : Mem} {Lf : Own} (hG : CA F0) (bp0 : Nat) (x0 : Aa) (a0_0 : S0) (n0_0 : Nat) (hb0_0 : LC x0.l_.length n0_0) (hs0_0 : SlA Ag F0 a0_0 x0.l_) (hs0 : HS wb Fb w0 F0 ((some bp0, (.cells #[(.slice a0_0 x0.l_.length n0_0), (.int .i64 x0.open_)] 100 (0, 0))) :: Lf)) (r : (Af ⊕ (Aa × Expr))), sR239 x0 = some r -> Calls Tryz.prog 239 ([(.pointer (some ⟨bp0, 0, none⟩))] : List Value).toArray w0 (BK wb Fb F0 Lf r (fun b => (.iface 158 (.agg #[(.int .i64 b.e_), (.int .i64 b.at_)]))) fun a F' v L' => ∃ (aq0_0 : S0) (nq0_0 : Nat) (aq1_2 : S0) (nq1_2 : Nat), v = (.agg #[(.int .i64 a.2.Op), (.int .i64 a.2.Value), (.slice aq1_2 a.2.Kids.length nq1_2)]) /\ L' = (some bp0, (.cells #[(.slice aq0_0 a.1.l_.length nq0_0), (.int .i64 a.1.open_)] 100 (0, 0))) :: Lf /\ LC a.1.l_.length nq0_0 /\ SlA Ag F' aq0_0 a.1.l_ /\ LC a.2.Kids.length nq1_2 /\ SlA Ar F' aq1_2 a.2.Kids)
theorem Gq : Aq Tryz.prog 239 := fun _ _ => by kernel_rfl
def L0 (sR243 : Aa -> Option (Af ⊕ (Aa × Expr))) : Prop := ∀ {wb w0 : World} {Fb F0 : Mem} {Lf : Own} (hG : CA F0) (bp0 : Nat) (x0 : Aa) (a0_0 : S0) (n0_0 : Nat) (hb0_0 : LC x0.l_.length n0_0) (hs0_0 : SlA Ag F0 a0_0 x0.l_) (hs0 : HS wb Fb w0 F0 ((some bp0, (.cells #[(.slice a0_0 x0.l_.length n0_0), (.int .i64 x0.open_)] 100 (0, 0))) :: Lf)) (r : (Af ⊕ (Aa × Expr))), sR243 x0 = some r -> Calls Tryz.prog 243 ([(.pointer (some ⟨bp0, 0, none⟩))] : List Value).toArray w0 (BK wb Fb F0 Lf r (fun b => (.iface 158 (.agg #[(.int .i64 b.e_), (.int .i64 b.at_)]))) fun a F' v L' => ∃ (aq0_0 : S0) (nq0_0 : Nat) (aq1_2 : S0) (nq1_2 : Nat), v = (.agg #[(.int .i64 a.2.Op), (.int .i64 a.2.Value), (.slice aq1_2 a.2.Kids.length nq1_2)]) /\ L' = (some bp0, (.cells #[(.slice aq0_0 a.1.l_.length nq0_0), (.int .i64 a.1.open_)] 100 (0, 0))) :: Lf /\ LC a.1.l_.length nq0_0 /\ SlA Ag F' aq0_0 a.1.l_ /\ LC a.2.Kids.length nq1_2 /\ SlA Ar F' aq1_2 a.2.Kids)
theorem Gs : Aq Tryz.prog 243 := fun _ _ => by kernel_rfl
def D9 (N : Nat) (sR185 : Aa -> Option (Af ⊕ (Aa × Expr))) (x0 : Aa) : Option (Af ⊕ (Aa × Expr)) :=
 ((AN N x0 (fun y => sR185 y) (Eu ([] : List (SZ × Int)) ([111, 114] : SZ) 5)).bind fun r37 => sk r37 (fun b49 => some (.inl b49)) (fun r40 => some (.inr (r40.1, r40.2))))
theorem GF (N : Nat) (sR185 : Aa -> Option (Af ⊕ (Aa × Expr))) (hsR185 : L6 sR185) {wb w0 : World} {Fb F0 : Mem} {Lf : Own} (hG : CA F0) (bp0 : Nat) (x0 : Aa) (a0_0 : S0) (n0_0 : Nat) (hb0_0 : LC x0.l_.length n0_0) (hs0_0 : SlA Ag F0 a0_0 x0.l_) (hs0 : HS wb Fb w0 F0 ((sb bp0 (Ad x0 a0_0 n0_0) 100) :: Lf)) (r : (Af ⊕ (Aa × Expr))) (h : D9 N sR185 x0 = some r) :
  Calls Tryz.prog 145 ([(pt bp0 0)] : List Value).toArray w0 (BK wb Fb F0 Lf r (fun b => (.iface 158 (.agg (AK b)))) fun a F' v L' => ∃ (aq0_0 : S0) (nq0_0 : Nat) (aq1_2 : S0) (nq1_2 : Nat), v = (.agg (Ai a.2 aq1_2 nq1_2)) /\ L' = (sb bp0 (Ad a.1 aq0_0 nq0_0) 100) :: Lf /\ LC a.1.l_.length nq0_0 /\ SlA Ag F' aq0_0 a.1.l_ /\ LC a.2.Kids.length nq1_2 /\ SlA Ar F' aq1_2 a.2.Kids) := by
 refine Go 9 Tryz.func145 ?_
 refine Sq (Rg [0] ?_)
 refine Al' 33 #[(vi 0), (vi 0), (.slice none ([] : List Expr).length 0)] hs0 (fun b21 w22 hs23 => ?_)
 refine Nss (Rg [0, 1, 2, 3, 4, 5, 6, 7] ?_)
 refine Vs 3 ?_
 refine RWP.makeMap (t := 198) (K := ES) (T := Ci) (dst := (some 6)) (ty := 198) (g := none) (by kernel_rfl) rfl hs23 (fun b25 e26 w27 (hs28 : HS wb Fb w27 F0 (e26 :: (sb b21 #[(vi 0), (vi 0), (.slice none ([] : List Expr).length 0)] 33) :: (sb bp0 (Ad x0 a0_0 n0_0) 100) :: Lf)) hr29 => ?_)
 refine RWP.mapIns kl9 (ty := 0) (g := none) (mt := 198) (k := 9) (vt := 3) (m := (.tmp 6)) (x := (.const (.string ⟨([111, 114] : SZ).toArray⟩))) (y := (.const (vi 5))) (b := b25) (kx := ([111, 114] : SZ)) (u := 5) (kv := (.string ⟨(([111, 114] : SZ)).toArray⟩)) (v := (vi 5)) (K := ES) (T := Ci) (by kernel_rfl) rfl rfl rfl rfl ⟨_, rfl, rfl⟩ ⟨_, rfl, rfl⟩ (by kernel_rfl) hs28 (q := 0) rfl hr29 (fun e30 w31 (hs32 : HS wb Fb w31 F0 (e30 :: (sb b21 #[(vi 0), (vi 0), (.slice none ([] : List Expr).length 0)] 33) :: (sb bp0 (Ad x0 a0_0 n0_0) 100) :: Lf)) hr33 => ?_)
 refine Vs 1 ?_
 obtain ⟨F1, hs34, le35, hm36⟩ : ∃ Fq, HS wb Fb w31 Fq ((sb b21 #[(vi 0), (vi 0), (.slice none ([] : List Expr).length 0)] 33) :: (sb bp0 (Ad x0 a0_0 n0_0) 100) :: Lf) /\ SG F0 Fq /\ MpA ES Ci Fq (some b25) (Eu ([] : List (SZ × Int)) ([111, 114] : SZ) 5) := HS.freezeMap hs32 (i := 0) rfl hr33
 obtain ⟨r37, hr38, h39⟩ := bind_some h
 refine CP BD (BO N (hG.mono le35) bp0 x0 a0_0 n0_0 hb0_0 (SJ hs0_0 le35) 185 [(pt bp0 0)] ([] : List Value) (fun y => sR185 y) Gt (fun {_ _ _ _ _} hGe y ay_0 ny_0 hby_0 hsy_0 hs r h => hsR185 hGe bp0 y ay_0 ny_0 hby_0 hsy_0 hs r h) ((Eu ([] : List (SZ × Int)) ([111, 114] : SZ) 5)) (some b25) hm36 hs34.pk1 _ hr38) ?_ ?_
 ·rintro r40 _ F2 w42 _ rfl hs43 le44 ⟨ar40_0_0, nr40_0_0, ar40_1_2, nr40_1_2, rfl, rfl, hbr40_0_0, hsr40_0_0, hbr40_1_2, hsr40_1_2⟩
  have h46 := BU h39
  refine St1 (Ai r40.2 ar40_1_2 nr40_1_2) hs43 (fun w47 hs48 => ?_)
  refine Nt ?_
  refine Rt ?_
  obtain rfl := Ab h46
  exact ⟨rfl, (.agg (Ai r40.2 ar40_1_2 nr40_1_2)), AB (l := [.cell 2 33]) (by kernel_rfl) (vs := [(.agg (Ai r40.2 ar40_1_2 nr40_1_2))]) ⟨b21, 0, rfl, Ak (t := 33) (g := true) (s := 3) (by kernel_rfl) hs48.at1 rfl (by decide), trivial⟩, .inl ⟨_, F2, _, _, rfl, rfl, hs48.dr1, (le35.trans le44), ⟨ar40_0_0, nr40_0_0, ar40_1_2, nr40_1_2, rfl, rfl, hbr40_0_0, hsr40_0_0, hbr40_1_2, hsr40_1_2⟩⟩⟩
 ·rintro b49 F3 w50 rfl hs51 le52
  have h53 := Bo h39
  refine An ?_
  obtain rfl := Ab h53
  exact Ch hs51.dr0 (le35.trans le52)
def Ea (N : Nat) (sR212 : Aa -> Option (Af ⊕ (Aa × Expr))) (x0 : Aa) : Option (Af ⊕ (Aa × Expr)) :=
 ((AN N x0 (fun y => sR212 y) (Eu ([] : List (SZ × Int)) ([97, 110, 100] : SZ) 4)).bind fun r37 => sk r37 (fun b49 => some (.inl b49)) (fun r40 => some (.inr (r40.1, r40.2))))
theorem GH (N : Nat) (sR212 : Aa -> Option (Af ⊕ (Aa × Expr))) (hsR212 : JP sR212) {wb w0 : World} {Fb F0 : Mem} {Lf : Own} (hG : CA F0) (bp0 : Nat) (x0 : Aa) (a0_0 : S0) (n0_0 : Nat) (hb0_0 : LC x0.l_.length n0_0) (hs0_0 : SlA Ag F0 a0_0 x0.l_) (hs0 : HS wb Fb w0 F0 ((sb bp0 (Ad x0 a0_0 n0_0) 100) :: Lf)) (r : (Af ⊕ (Aa × Expr))) (h : Ea N sR212 x0 = some r) :
  Calls Tryz.prog 185 ([(pt bp0 0)] : List Value).toArray w0 (BK wb Fb F0 Lf r (fun b => (.iface 158 (.agg (AK b)))) fun a F' v L' => ∃ (aq0_0 : S0) (nq0_0 : Nat) (aq1_2 : S0) (nq1_2 : Nat), v = (.agg (Ai a.2 aq1_2 nq1_2)) /\ L' = (sb bp0 (Ad a.1 aq0_0 nq0_0) 100) :: Lf /\ LC a.1.l_.length nq0_0 /\ SlA Ag F' aq0_0 a.1.l_ /\ LC a.2.Kids.length nq1_2 /\ SlA Ar F' aq1_2 a.2.Kids) := by
 refine Go 9 Tryz.func185 ?_
 refine Sq (Rg [0] ?_)
 refine Al' 33 #[(vi 0), (vi 0), (.slice none ([] : List Expr).length 0)] hs0 (fun b21 w22 hs23 => ?_)
 refine Nss (Rg [0, 1, 2, 3, 4, 5, 6, 7] ?_)
 refine Vs 3 ?_
 refine RWP.makeMap (t := 198) (K := ES) (T := Ci) (dst := (some 6)) (ty := 198) (g := none) (by kernel_rfl) rfl hs23 (fun b25 e26 w27 (hs28 : HS wb Fb w27 F0 (e26 :: (sb b21 #[(vi 0), (vi 0), (.slice none ([] : List Expr).length 0)] 33) :: (sb bp0 (Ad x0 a0_0 n0_0) 100) :: Lf)) hr29 => ?_)
 refine RWP.mapIns kl9 (ty := 0) (g := none) (mt := 198) (k := 9) (vt := 3) (m := (.tmp 6)) (x := (.const (.string ⟨([97, 110, 100] : SZ).toArray⟩))) (y := (.const (vi 4))) (b := b25) (kx := ([97, 110, 100] : SZ)) (u := 4) (kv := (.string ⟨(([97, 110, 100] : SZ)).toArray⟩)) (v := (vi 4)) (K := ES) (T := Ci) (by kernel_rfl) rfl rfl rfl rfl ⟨_, rfl, rfl⟩ ⟨_, rfl, rfl⟩ (by kernel_rfl) hs28 (q := 0) rfl hr29 (fun e30 w31 (hs32 : HS wb Fb w31 F0 (e30 :: (sb b21 #[(vi 0), (vi 0), (.slice none ([] : List Expr).length 0)] 33) :: (sb bp0 (Ad x0 a0_0 n0_0) 100) :: Lf)) hr33 => ?_)
 refine Vs 1 ?_
 obtain ⟨F1, hs34, le35, hm36⟩ : ∃ Fq, HS wb Fb w31 Fq ((sb b21 #[(vi 0), (vi 0), (.slice none ([] : List Expr).length 0)] 33) :: (sb bp0 (Ad x0 a0_0 n0_0) 100) :: Lf) /\ SG F0 Fq /\ MpA ES Ci Fq (some b25) (Eu ([] : List (SZ × Int)) ([97, 110, 100] : SZ) 4) := HS.freezeMap hs32 (i := 0) rfl hr33
 obtain ⟨r37, hr38, h39⟩ := bind_some h
 refine CP BD (BO N (hG.mono le35) bp0 x0 a0_0 n0_0 hb0_0 (SJ hs0_0 le35) 212 [(pt bp0 0)] ([] : List Value) (fun y => sR212 y) DU (fun {_ _ _ _ _} hGe y ay_0 ny_0 hby_0 hsy_0 hs r h => hsR212 hGe bp0 y ay_0 ny_0 hby_0 hsy_0 hs r h) ((Eu ([] : List (SZ × Int)) ([97, 110, 100] : SZ) 4)) (some b25) hm36 hs34.pk1 _ hr38) ?_ ?_
 ·rintro r40 _ F2 w42 _ rfl hs43 le44 ⟨ar40_0_0, nr40_0_0, ar40_1_2, nr40_1_2, rfl, rfl, hbr40_0_0, hsr40_0_0, hbr40_1_2, hsr40_1_2⟩
  have h46 := BU h39
  refine St1 (Ai r40.2 ar40_1_2 nr40_1_2) hs43 (fun w47 hs48 => ?_)
  refine Nt ?_
  refine Rt ?_
  obtain rfl := Ab h46
  exact ⟨rfl, (.agg (Ai r40.2 ar40_1_2 nr40_1_2)), AB (l := [.cell 2 33]) (by kernel_rfl) (vs := [(.agg (Ai r40.2 ar40_1_2 nr40_1_2))]) ⟨b21, 0, rfl, Ak (t := 33) (g := true) (s := 3) (by kernel_rfl) hs48.at1 rfl (by decide), trivial⟩, .inl ⟨_, F2, _, _, rfl, rfl, hs48.dr1, (le35.trans le44), ⟨ar40_0_0, nr40_0_0, ar40_1_2, nr40_1_2, rfl, rfl, hbr40_0_0, hsr40_0_0, hbr40_1_2, hsr40_1_2⟩⟩⟩
 ·rintro b49 F3 w50 rfl hs51 le52
  have h53 := Bo h39
  refine An ?_
  obtain rfl := Ab h53
  exact Ch hs51.dr0 (le35.trans le52)
def Bw (N : Nat) (sR212 : Aa -> Option (Af ⊕ (Aa × Expr))) (sR226 : Aa -> Option (Af ⊕ (Aa × Expr))) (x0 : Aa) : Option (Af ⊕ (Aa × Expr)) :=
 ((Ap N x0 ([110, 111, 116] : SZ)).bind fun r24 => (bif r24.2 then ((sR212 r24.1).bind fun r34 => sk r34 (fun b55 => some (.inl b55)) (fun r37 => some (.inr (r37.1, ({ Op := 3, Value := 0, Kids := [r37.2] } : Expr))))) else ((sR226 r24.1).bind fun r61 => sk r61 (fun b73 => some (.inl b73)) (fun r64 => some (.inr (r64.1, r64.2))))))
theorem GG (N : Nat) (sR212 : Aa -> Option (Af ⊕ (Aa × Expr))) (hsR212 : JP sR212) (sR226 : Aa -> Option (Af ⊕ (Aa × Expr))) (hsR226 : L3 sR226) {wb w0 : World} {Fb F0 : Mem} {Lf : Own} (hG : CA F0) (bp0 : Nat) (x0 : Aa) (a0_0 : S0) (n0_0 : Nat) (hb0_0 : LC x0.l_.length n0_0) (hs0_0 : SlA Ag F0 a0_0 x0.l_) (hs0 : HS wb Fb w0 F0 ((sb bp0 (Ad x0 a0_0 n0_0) 100) :: Lf)) (r : (Af ⊕ (Aa × Expr))) (h : Bw N sR212 sR226 x0 = some r) :
  Calls Tryz.prog 212 ([(pt bp0 0)] : List Value).toArray w0 (BK wb Fb F0 Lf r (fun b => (.iface 158 (.agg (AK b)))) fun a F' v L' => ∃ (aq0_0 : S0) (nq0_0 : Nat) (aq1_2 : S0) (nq1_2 : Nat), v = (.agg (Ai a.2 aq1_2 nq1_2)) /\ L' = (sb bp0 (Ad a.1 aq0_0 nq0_0) 100) :: Lf /\ LC a.1.l_.length nq0_0 /\ SlA Ag F' aq0_0 a.1.l_ /\ LC a.2.Kids.length nq1_2 /\ SlA Ar F' aq1_2 a.2.Kids) := by
 refine Go 11 Tryz.func212 ?_
 refine Sq (Rg [0] ?_)
 refine Al' 33 #[(vi 0), (vi 0), (.slice none ([] : List Expr).length 0)] hs0 (fun b21 w22 hs23 => ?_)
 refine Nss ?_
 refine Sq (Rg [0, 1] ?_)
 refine Vs 1 ?_
 obtain ⟨r24, hr25, h26⟩ := bind_some h
 refine CB AG (AJ N bp0 x0 a0_0 n0_0 hb0_0 hs0_0 (([110, 111, 116] : SZ)) hs23.pk1 _ hr25) ?_
 rintro _ F1 w27 _ hs28 le29 ⟨ar24_0_0, nr24_0_0, rfl, rfl, hbr24_0_0, hsr24_0_0⟩
 refine Nt ?_
 refine Cd h26 (fun hb31 h32 => ?_) (fun hb31 h33 => ?_)
 ·refine Sq (Rg [0, 1, 2, 3, 4] ?_)
  refine Vs 1 ?_
  obtain ⟨r34, hr35, h36⟩ := bind_some h32
  refine CP DU (hsR212 (hG.mono le29) bp0 r24.1 ar24_0_0 nr24_0_0 hbr24_0_0 hsr24_0_0 hs28 _ hr35) ?_ ?_
  ·rintro r37 _ F2 w39 _ rfl hs40 le41 ⟨ar37_0_0, nr37_0_0, ar37_1_2, nr37_1_2, rfl, rfl, hbr37_0_0, hsr37_0_0, hbr37_1_2, hsr37_1_2⟩
   have h43 := BU h36
   refine Bs 33 [(vi r37.2.Op), (vi r37.2.Value), (.slice ar37_1_2 r37.2.Kids.length nr37_1_2)] hs40 (fun b44 w45 hs46 => ?_)
   have hr48 : Av Ar 33 F2 (some ⟨b44, 0, none⟩) 1 [r37.2] (some b44, .cells ([(vi r37.2.Op), (vi r37.2.Value), (.slice ar37_1_2 r37.2.Kids.length nr37_1_2)] : List Value).toArray 33 (0, 0)) := SX ⟨(A6 ⟨ar37_1_2, nr37_1_2, rfl, hbr37_1_2, hsr37_1_2⟩), rfl⟩ (by simp)
   refine Vs 1 ?_
   refine St2 #[(vi 3), (vi 0), (.slice (some ⟨b44, 0, none⟩) [r37.2].length 1)] hs46 (fun w49 hs50 => ?_)
   refine Nt ?_
   refine Rt ?_
   refine Aj ?_
   have hb54 := SW hr48
   obtain ⟨F3, hs51, le52, hs53⟩ := hs50.fr0 hr48
   obtain rfl := Ab h43
   exact ⟨rfl, (.agg #[(vi 3), (vi 0), (.slice (some ⟨b44, 0, none⟩) [r37.2].length 1)]), AB (l := [.cell 2 33]) (by kernel_rfl) (vs := [(.agg #[(vi 3), (vi 0), (.slice (some ⟨b44, 0, none⟩) [r37.2].length 1)])]) ⟨b21, 0, rfl, Ak (t := 33) (g := true) (s := 3) (by kernel_rfl) hs51.at1 rfl (by decide), trivial⟩, .inl ⟨_, F3, _, _, rfl, rfl, hs51.dr1, ((le29.trans le41).trans le52), ⟨ar37_0_0, nr37_0_0, (some ⟨b44, 0, none⟩), 1, rfl, rfl, hbr37_0_0, (SJ hsr37_0_0 le52), hb54, hs53⟩⟩⟩
  ·rintro b55 F4 w56 rfl hs57 le58
   have h59 := Bo h36
   refine An ?_
   refine An ?_
   obtain rfl := Ab h59
   exact Ch hs57.dr0 (le29.trans le58)
 ·refine Sc ?_
  refine Ac ?_
  refine Sq (Rg [0, 1, 2] ?_)
  refine Vs 1 ?_
  obtain ⟨r61, hr62, h63⟩ := bind_some h33
  refine CP Gp (hsR226 (hG.mono le29) bp0 r24.1 ar24_0_0 nr24_0_0 hbr24_0_0 hsr24_0_0 hs28 _ hr62) ?_ ?_
  ·rintro r64 _ F5 w66 _ rfl hs67 le68 ⟨ar64_0_0, nr64_0_0, ar64_1_2, nr64_1_2, rfl, rfl, hbr64_0_0, hsr64_0_0, hbr64_1_2, hsr64_1_2⟩
   have h70 := BU h63
   refine St1 (Ai r64.2 ar64_1_2 nr64_1_2) hs67 (fun w71 hs72 => ?_)
   refine Nt ?_
   refine Rt ?_
   obtain rfl := Ab h70
   exact ⟨rfl, (.agg (Ai r64.2 ar64_1_2 nr64_1_2)), AB (l := [.cell 2 33]) (by kernel_rfl) (vs := [(.agg (Ai r64.2 ar64_1_2 nr64_1_2))]) ⟨b21, 0, rfl, Ak (t := 33) (g := true) (s := 3) (by kernel_rfl) hs72.at1 rfl (by decide), trivial⟩, .inl ⟨_, F5, _, _, rfl, rfl, hs72.dr1, (le29.trans le68), ⟨ar64_0_0, nr64_0_0, ar64_1_2, nr64_1_2, rfl, rfl, hbr64_0_0, hsr64_0_0, hbr64_1_2, hsr64_1_2⟩⟩⟩
  ·rintro b73 F6 w74 rfl hs75 le76
   have h77 := Bo h63
   refine An ?_
   obtain rfl := Ab h77
   exact Ch hs75.dr0 (le29.trans le76)
theorem KJ {N : Nat} {p q : Aa} {t : SZ} (h : Ap N p t = some (q, false)) : q = p := by
 unfold Ap at h
 cases hp : AD N p t with
 | none => rw [hp] at h; cases h
 | some b =>
  rw [hp] at h
  cases b with
  | false => simp at h; exact h.symm
  | true =>
   simp only [Option.bind_some, Bool.not_true, cond_false] at h
   cases hs : sub p.l_ 1 (p.l_.length : Int) with
   | none => rw [hs] at h; cases h
   | some l => rw [hs] at h; simp at h
theorem OC {N : Nat} {p : Aa} {t : SZ} (h : AD N p t = some true) : ∃ x, idx p.l_ 0 = some x /\ x.text_ = t := by
 unfold AD at h
 cases hi : idx p.l_ 0 with
 | none => rw [hi] at h; cases h
 | some x =>
  rw [hi] at h
  refine ⟨x, rfl, ?_⟩
  simp only [Option.bind_some] at h
  cases h2 : (x.kind_ == 2) <;> cases h3 : (x.kind_ == 3) <;> rw [h2] at h <;> try rw [h3] at h
  all_goals simp at h
  all_goals exact h
theorem Nq {N : Nat} {p : Aa} {s t : SZ} (h : AD N p s = some true) (hne : s ≠ t) : AD N p t = some false := by
 obtain ⟨x, hx, hs⟩ := OC h
 unfold AD at h ⊢
 rw [hx] at h ⊢
 simp only [Option.bind_some] at h ⊢
 have hne' : (x.text_ == t) = false := by rw [hs]; simpa using hne
 rw [hne']
 cases h2 : (x.kind_ == 2) <;> cases h3 : (x.kind_ == 3) <;> simp
theorem LY {N : Nat} {p q : Aa} {s t : SZ} (h : Ap N p s = some (q, true)) (hne : s ≠ t) : Ap N p t = some (p, false) := by
 unfold Ap at h ⊢
 cases hp : AD N p s with
 | none => rw [hp] at h; cases h
 | some b =>
  rw [hp] at h
  cases b with
  | false => simp at h
  | true => rw [Nq hp hne]; rfl
theorem Jw {N : Nat} {p : Aa} {α : Type} {X6 X7 Z : Aa × Bool -> Option α} {r : α}
  (h : ((Ap N p ([61] : SZ)).bind fun a => (bif a.2 then X6 a else ((Ap N a.1 ([60] : SZ)).bind fun b => (bif b.2 then X7 b else Z b)))) = some r) :
  ((Ap N p ([60] : SZ)).bind fun a => (bif a.2 then X7 a else ((Ap N a.1 ([61] : SZ)).bind fun b => (bif b.2 then X6 b else Z b)))) = some r := by
 cases ha : Ap N p [61] with
 | none => rw [ha] at h; cases h
 | some a =>
  obtain ⟨q, b⟩ := a
  rw [ha] at h
  simp only [Option.bind_some] at h
  cases b with
  | true =>
   rw [LY ha (by decide)]
   simp only [cond_true] at h
   simp only [Option.bind_some, cond_false, ha, cond_true]; exact h
  | false =>
   obtain rfl := KJ ha
   simp only [cond_false] at h
   cases hb : Ap N q [60] with
   | none => rw [hb] at h; cases h
   | some b =>
    obtain ⟨q2, c⟩ := b
    rw [hb] at h
    simp only [Option.bind_some] at h ⊢
    cases c with
    | true => simpa using h
    | false =>
     obtain rfl := KJ hb
     simp only [cond_false, ha, Option.bind_some] at h ⊢
     exact h
def Bu (N : Nat) (sR233 : Aa -> Option (Af ⊕ (Aa × Expr))) (x0 : Aa) : Option (Af ⊕ (Aa × Expr)) :=
 ((sR233 x0).bind fun r24 => sk r24 (fun b291 => some (.inl b291)) (fun r27 => ((Ap N r27.1 ([61] : SZ)).bind fun r51 => (bif r51.2 then (((sR233 r51.1).bind fun r73 => sk r73 (fun b90 => some (.inl b90)) (fun r76 => some (.inr (6, [r27.2, r76.2], r76.1.l_, r76.1.open_)))).bind fun j67 => sk j67 (fun b101 => some (.inl b101)) (fun J72 => some (.inr (({ l_ := J72.2.2.1, open_ := J72.2.2.2 } : Aa), ({ Op := J72.1, Value := 0, Kids := J72.2.1 } : Expr))))) else ((Ap N r51.1 ([60] : SZ)).bind fun r109 => (bif r109.2 then (((sR233 r109.1).bind fun r131 => sk r131 (fun b148 => some (.inl b148)) (fun r134 => some (.inr (7, [r27.2, r134.2], r134.1.l_, r134.1.open_)))).bind fun j125 => sk j125 (fun b159 => some (.inl b159)) (fun J130 => some (.inr (({ l_ := J130.2.2.1, open_ := J130.2.2.2 } : Aa), ({ Op := J130.1, Value := 0, Kids := J130.2.1 } : Expr))))) else some (.inr (r109.1, r27.2))))))))
theorem GB (N : Nat) (sR233 : Aa -> Option (Af ⊕ (Aa × Expr))) (hsR233 : L2 sR233) {wb w0 : World} {Fb F0 : Mem} {Lf : Own} (hG : CA F0) (bp0 : Nat) (x0 : Aa) (a0_0 : S0) (n0_0 : Nat) (hb0_0 : LC x0.l_.length n0_0) (hs0_0 : SlA Ag F0 a0_0 x0.l_) (hs0 : HS wb Fb w0 F0 ((sb bp0 (Ad x0 a0_0 n0_0) 100) :: Lf)) (r : (Af ⊕ (Aa × Expr))) (h : Bu N sR233 x0 = some r) :
  Calls Tryz.prog 226 ([(pt bp0 0)] : List Value).toArray w0 (BK wb Fb F0 Lf r (fun b => (.iface 158 (.agg (AK b)))) fun a F' v L' => ∃ (aq0_0 : S0) (nq0_0 : Nat) (aq1_2 : S0) (nq1_2 : Nat), v = (.agg (Ai a.2 aq1_2 nq1_2)) /\ L' = (sb bp0 (Ad a.1 aq0_0 nq0_0) 100) :: Lf /\ LC a.1.l_.length nq0_0 /\ SlA Ag F' aq0_0 a.1.l_ /\ LC a.2.Kids.length nq1_2 /\ SlA Ar F' aq1_2 a.2.Kids) := by
 refine Go 26 Tryz.func226 ?_
 refine Sq (Rg [0] ?_)
 refine Al' 33 #[(vi 0), (vi 0), (.slice none ([] : List Expr).length 0)] hs0 (fun b21 w22 hs23 => ?_)
 refine Nss (Rg [0, 1, 2, 3] ?_)
 refine Vs 1 ?_
 obtain ⟨r24, hr25, h26⟩ := bind_some h
 refine CP BT (hsR233 hG bp0 x0 a0_0 n0_0 hb0_0 hs0_0 hs23.pk1 _ hr25) ?_ ?_
 ·rintro r27 _ F1 w29 _ rfl hs30 le31 ⟨ar27_0_0, nr27_0_0, ar27_1_2, nr27_1_2, rfl, rfl, hbr27_0_0, hsr27_0_0, hbr27_1_2, hsr27_1_2⟩
  have h33 := BU h26
  refine Al' 33 #[(vi 0), (vi 0), (.slice none ([] : List Expr).length 0)] hs30 (fun b34 w35 hs36 => ?_)
  refine St0 (Ai r27.2 ar27_1_2 nr27_1_2) hs36 (fun w37 hs38 => ?_)
  refine Nss ?_
  refine Sq (Rg [0, 1, 2, 3, 4] ?_)
  refine RWP.litMap (dst := (some 8)) (ty := 198) (g := none) (by kernel_rfl) rfl (t := 198) hs38 (fun b39 w40 (hs41 : HS wb Fb w40 F1 ((some b39, (.map #[] 0)) :: (sb b34 (Ai r27.2 ar27_1_2 nr27_1_2) 33) :: (sb bp0 (Ad r27.1 ar27_0_0 nr27_0_0) 100) :: (sb b21 #[(vi 0), (vi 0), (.slice none ([] : List Expr).length 0)] 33) :: Lf)) => ?_)
  refine RWP.litIns (d := .string) (k := 9) (vt := 3) (ty := 0) (g := none) (mt := 198) (m := (.tmp 8)) (x := (.const (.string ⟨([61] : SZ).toArray⟩))) (y := (.const (vi 6))) (b := b39) (q := 0) (kv := (.string ⟨(([61] : SZ)).toArray⟩)) (v := (vi 6)) (by kernel_rfl) rfl rfl rfl rfl (by kernel_rfl) (by kernel_rfl) trivial (by kernel_rfl) hs41 rfl rfl (fun w42 (hs43 : HS wb Fb w42 F1 ((some b39, (.map #[⟨(.string ⟨(([61] : SZ)).toArray⟩), (vi 6), 0⟩] 1)) :: (sb b34 (Ai r27.2 ar27_1_2 nr27_1_2) 33) :: (sb bp0 (Ad r27.1 ar27_0_0 nr27_0_0) 100) :: (sb b21 #[(vi 0), (vi 0), (.slice none ([] : List Expr).length 0)] 33) :: Lf)) => ?_)
  refine RWP.litIns (d := .string) (k := 9) (vt := 3) (ty := 0) (g := none) (mt := 198) (m := (.tmp 8)) (x := (.const (.string ⟨([60] : SZ).toArray⟩))) (y := (.const (vi 7))) (b := b39) (q := 0) (kv := (.string ⟨(([60] : SZ)).toArray⟩)) (v := (vi 7)) (by kernel_rfl) rfl rfl rfl rfl (by kernel_rfl) (by kernel_rfl) trivial (by kernel_rfl) hs43 rfl rfl (fun w44 (hs45 : HS wb Fb w44 F1 ((some b39, (.map #[⟨(.string ⟨(([61] : SZ)).toArray⟩), (vi 6), 0⟩, ⟨(.string ⟨(([60] : SZ)).toArray⟩), (vi 7), 1⟩] 2)) :: (sb b34 (Ai r27.2 ar27_1_2 nr27_1_2) 33) :: (sb bp0 (Ad r27.1 ar27_0_0 nr27_0_0) 100) :: (sb b21 #[(vi 0), (vi 0), (.slice none ([] : List Expr).length 0)] 33) :: Lf)) => ?_)
  refine Vs 1 ?_
  refine RWP.litRange (k := 9) (vt := 3) (dst := (some 10)) (ty := 0) (g := none) (by kernel_rfl) rfl (mt := 198) (x := (.tmp 9)) (b := b39) (q := 0) rfl (by kernel_rfl) hs45 rfl (fun b46 w47 (hs48 : HS wb Fb w47 F1 ((some b46, (.mapIter (some b39) 2 #[] 2)) :: (some b39, (.map #[⟨(.string ⟨(([61] : SZ)).toArray⟩), (vi 6), 0⟩, ⟨(.string ⟨(([60] : SZ)).toArray⟩), (vi 7), 1⟩] 2)) :: (sb b34 (Ai r27.2 ar27_1_2 nr27_1_2) 33) :: (sb bp0 (Ad r27.1 ar27_0_0 nr27_0_0) 100) :: (sb b21 #[(vi 0), (vi 0), (.slice none ([] : List Expr).length 0)] 33) :: Lf)) => ?_)
  refine Nt ?_
  refine Bk ?_
  refine CWP.unroll (by kernel_rfl) 4 ?_
  refine URL.step ?_
  refine Sq (Rg [0, 1] ?_)
  refine RWP.litNext2  (e := ⟨(.string ⟨(([61] : SZ)).toArray⟩), (vi 6), 0⟩) (e2 := ⟨(.string ⟨(([60] : SZ)).toArray⟩), (vi 7), 1⟩) (dst := (some 11)) (ty := 0) (g := none) (by kernel_rfl) rfl (x := (.tmp 10)) (r := b46) (ki := 0) (km := 1) rfl hs48 rfl rfl (by kernel_rfl) (by kernel_rfl) ?_ ?_
  ·rintro w49 (hs50 : HS wb Fb w49 F1 ((some b46, (.mapIter (some b39) 2 #[0] 2)) :: (some b39, (.map #[⟨(.string ⟨(([61] : SZ)).toArray⟩), (vi 6), 0⟩, ⟨(.string ⟨(([60] : SZ)).toArray⟩), (vi 7), 1⟩] 2)) :: (sb b34 (Ai r27.2 ar27_1_2 nr27_1_2) 33) :: (sb bp0 (Ad r27.1 ar27_0_0 nr27_0_0) 100) :: (sb b21 #[(vi 0), (vi 0), (.slice none ([] : List Expr).length 0)] 33) :: Lf))
   refine Vs 1 ?_
   refine Nss ?_
   refine C1 (rfl : true = true) ?_
   refine Sc ?_
   refine Ac ?_
   refine Bk ?_
   refine Sq (Rg [0, 1, 2, 3, 4] ?_)
   refine V 13 0 (Ee (x := (.tmp 10)) (en := ⟨(.string ⟨(([61] : SZ)).toArray⟩), (vi 6), 0⟩) rfl (hs50.ownAt (k := 0) rfl) (hs50.ownAt (k := 1) rfl) rfl rfl) ?_
   refine Vs 4 ?_
   refine Nss (Rg [0, 1, 2] ?_)
   refine Vs 2 ?_
   obtain ⟨r51, hr52, h53⟩ := bind_some h33
   refine CB AG (AJ N bp0 r27.1 ar27_0_0 nr27_0_0 hbr27_0_0 hsr27_0_0 (([61] : SZ)) hs50.pk4.pk3.pk3.pk3.pk4 _ hr52) ?_
   rintro _ F2 w54 _ hs55 le56 ⟨ar51_0_0, nr51_0_0, rfl, rfl, hbr51_0_0, hsr51_0_0⟩
   refine Nt ?_
   refine Cd h53 (fun hb58 h59 => ?_) (fun hb58 h60 => ?_)
   ·refine Sq ?_
    obtain ⟨j67, hj70, h71⟩ := bind_some h59
    refine RDP 6 7 [(some b46, (.mapIter (some b39) 2 #[0] 2)), (some b39, (.map #[⟨(.string ⟨(([61] : SZ)).toArray⟩), (vi 6), 0⟩, ⟨(.string ⟨(([60] : SZ)).toArray⟩), (vi 7), 1⟩] 2)), (sb b34 (Ai r27.2 ar27_1_2 nr27_1_2) 33)] [(sb b21 #[(vi 0), (vi 0), (.slice none ([] : List Expr).length 0)] 33)] hs55 (fun c d w => d = [] /\ ∃ (b : Af) (Fp : Mem), j67 = .inl b /\ c = [{ v := (.iface 158 (.agg (AK b))), recovered := false }] /\ HS wb Fb w Fp Lf /\ SG F2 Fp) (fun f w => ∃ (J72 : (Int × List Expr × List Ah × Int)), j67 = .inr J72 /\ ∃ (F3 : Mem) (aj67_1 : S0) (nj67_1 : Nat) (ej67_1 : Option Nat × Obj) (aj67_2 : S0) (nj67_2 : Nat), HS wb Fb w F3 (ej67_1 :: (sb bp0 #[(.slice aj67_2 J72.2.2.1.length nj67_2), (vi J72.2.2.2)] 100) :: (sb b21 #[(vi J72.1), (vi 0), (.slice aj67_1 J72.2.1.length nj67_1)] 33) :: Lf) /\ SG F2 F3 /\ FI f [] [(2, (pt b21 0))] /\ Av Ar 33 F3 aj67_1 nj67_1 J72.2.1 ej67_1 /\ LC J72.2.2.1.length nj67_2 /\ SlA Ag F3 aj67_2 J72.2.2.1) (fun wd61 hw62 => ?_) ?_ ?_
    ·refine Dv [0] ?_
     refine Dl 1 (fun _ hq => (hq.1.2 2 _ _ rfl)) ?_
     refine Dv [2] ?_
     refine D1 3 ?_
     obtain ⟨r73, hr74, h75⟩ := bind_some hj70
     refine DCP BT (hsR233 (hG.mono (le31.trans le56)) bp0 r51.1 ar51_0_0 nr51_0_0 hbr51_0_0 hsr51_0_0 hw62 _ hr74) ?_ ?_
     ·rintro r76 _ F4 w78 _ rfl hs79 le80 ⟨ar76_0_0, nr76_0_0, ar76_1_2, nr76_1_2, rfl, rfl, hbr76_0_0, hsr76_0_0, hbr76_1_2, hsr76_1_2⟩
      have h82 := BU h75
      refine ⟨BI hs79 le80 (by simp) (fun _ => by simp), ?_⟩
      refine D1 4 ?_
      refine DBs 33 [(vi r27.2.Op), (vi r27.2.Value), (.slice ar27_1_2 r27.2.Kids.length nr27_1_2), (vi r76.2.Op), (vi r76.2.Value), (.slice ar76_1_2 r76.2.Kids.length nr76_1_2)] hs79 le80 (fun b83 w84 hs85 => ?_)
      have hr87 : Av Ar 33 F4 (some ⟨b83, 0, none⟩) 2 [r27.2, r76.2] (some b83, .cells ([(vi r27.2.Op), (vi r27.2.Value), (.slice ar27_1_2 r27.2.Kids.length nr27_1_2), (vi r76.2.Op), (vi r76.2.Value), (.slice ar76_1_2 r76.2.Kids.length nr76_1_2)] : List Value).toArray 33 (0, 0)) := SX ⟨(A6 ⟨ar27_1_2, nr27_1_2, rfl, hbr27_1_2, (SJ hsr27_1_2 (le56.trans le80))⟩), ⟨(A6 ⟨ar76_1_2, nr76_1_2, rfl, hbr76_1_2, hsr76_1_2⟩), rfl⟩⟩ (by simp)
      refine Dv [5] ?_
      refine D1 6 ?_
      refine QJ #[(vi 6), (vi 0), (.slice (some ⟨b83, 0, none⟩) [r27.2, r76.2].length 2)] hs85 le80 (fun w88 hs89 => ?_)
      obtain rfl := Ab h82
      exact SV (by kernel_rfl) ⟨_, rfl, F4, (some ⟨b83, 0, none⟩), 2, (some b83, .cells ([(vi r27.2.Op), (vi r27.2.Value), (.slice ar27_1_2 r27.2.Kids.length nr27_1_2), (vi r76.2.Op), (vi r76.2.Value), (.slice ar76_1_2 r76.2.Kids.length nr76_1_2)] : List Value).toArray 33 (0, 0)), ar76_0_0, nr76_0_0, hs89.dr2.dr2.dr2, le80, fI, hr87, hbr76_0_0, hsr76_0_0⟩
     ·rintro b90 F5 w91 rfl hs92 le93
      have h94 := Bo h75
      obtain rfl := Ab h94
      exact ⟨rfl, _, _, rfl, rfl, hs92.dr0.dr0.dr0.dr0, le93⟩
    ·rintro f w63 ⟨J72, rfl, F3, aj67_1, nj67_1, ej67_1, aj67_2, nj67_2, hs64, le65, ⟨_, rfl⟩, hrj67_1, hbj67_2, hsj67_2⟩
     have h96 := BU h71
     refine Ac ?_
     refine Rt ?_
     refine Al ?_
     refine Aj ?_
     refine Al ?_
     refine Aj ?_
     have hb100 := SW hrj67_1
     obtain ⟨F6, hs97, le98, hs99⟩ := hs64.fr0 hrj67_1
     obtain rfl := Ab h96
     exact ⟨rfl, (.agg #[(vi J72.1), (vi 0), (.slice aj67_1 J72.2.1.length nj67_1)]), AB (l := [.cell 2 33]) (by kernel_rfl) (vs := [(.agg #[(vi J72.1), (vi 0), (.slice aj67_1 J72.2.1.length nj67_1)])]) ⟨b21, 0, rfl, Ak (t := 33) (g := true) (s := 3) (by kernel_rfl) hs97.at1 rfl (by decide), trivial⟩, .inl ⟨_, F6, _, _, rfl, rfl, hs97.dr1, (((le31.trans le56).trans le65).trans le98), ⟨aj67_2, nj67_2, aj67_1, nj67_1, rfl, rfl, hbj67_2, (SJ hsj67_2 le98), hb100, hs99⟩⟩⟩
    ·rintro c f w102 ⟨hd105, b101, F7, rfl, rfl, hs103, le104⟩
     have h106 := Bo h71
     refine An ?_
     refine AP ?_
     refine An ?_
     refine AP ?_
     refine An ?_
     obtain rfl := Ab h106
     exact ⟨hd105, .inr ⟨_, F7, rfl, rfl, hs103, ((le31.trans le56).trans le104)⟩⟩
   ·refine Sc ?_
    refine Ax ?_
    refine Ac ?_
    refine URL.step ?_
    refine Sq (Rg [0, 1] ?_)
    refine RWP.litNext1  (e := ⟨(.string ⟨(([60] : SZ)).toArray⟩), (vi 7), 1⟩) (dst := (some 11)) (ty := 0) (g := none) (by kernel_rfl) rfl (x := (.tmp 10)) (r := b46) (ki := 1) (km := 2) rfl hs55 rfl rfl (by kernel_rfl) (by kernel_rfl) ?_
    ·rintro w107 (hs108 : HS wb Fb w107 F2 ((sb bp0 (Ad r51.1 ar51_0_0 nr51_0_0) 100) :: (some b46, (.mapIter (some b39) 2 #[0, 1] 2)) :: (some b39, (.map #[⟨(.string ⟨(([61] : SZ)).toArray⟩), (vi 6), 0⟩, ⟨(.string ⟨(([60] : SZ)).toArray⟩), (vi 7), 1⟩] 2)) :: (sb b34 (Ai r27.2 ar27_1_2 nr27_1_2) 33) :: (sb b21 #[(vi 0), (vi 0), (.slice none ([] : List Expr).length 0)] 33) :: Lf))
     refine Vs 1 ?_
     refine Nss ?_
     refine C1 (rfl : true = true) ?_
     refine Sc ?_
     refine Ac ?_
     refine Bk ?_
     refine Sq (Rg [0, 1, 2, 3, 4] ?_)
     refine V 13 0 (Ee (x := (.tmp 10)) (en := ⟨(.string ⟨(([60] : SZ)).toArray⟩), (vi 7), 1⟩) rfl (hs108.ownAt (k := 1) rfl) (hs108.ownAt (k := 2) rfl) rfl rfl) ?_
     refine Vs 4 ?_
     refine Nss (Rg [0, 1, 2] ?_)
     refine Vs 2 ?_
     obtain ⟨r109, hr110, h111⟩ := bind_some h60
     refine CB AG (AJ N bp0 r51.1 ar51_0_0 nr51_0_0 hbr51_0_0 hsr51_0_0 (([60] : SZ)) hs108 _ hr110) ?_
     rintro _ F8 w112 _ hs113 le114 ⟨ar109_0_0, nr109_0_0, rfl, rfl, hbr109_0_0, hsr109_0_0⟩
     refine Nt ?_
     refine Cd h111 (fun hb116 h117 => ?_) (fun hb116 h118 => ?_)
     ·refine Sq ?_
      obtain ⟨j125, hj128, h129⟩ := bind_some h117
      refine RDP 6 7 [(some b46, (.mapIter (some b39) 2 #[0, 1] 2)), (some b39, (.map #[⟨(.string ⟨(([61] : SZ)).toArray⟩), (vi 6), 0⟩, ⟨(.string ⟨(([60] : SZ)).toArray⟩), (vi 7), 1⟩] 2)), (sb b34 (Ai r27.2 ar27_1_2 nr27_1_2) 33)] [(sb b21 #[(vi 0), (vi 0), (.slice none ([] : List Expr).length 0)] 33)] hs113 (fun c d w => d = [] /\ ∃ (b : Af) (Fp : Mem), j125 = .inl b /\ c = [{ v := (.iface 158 (.agg (AK b))), recovered := false }] /\ HS wb Fb w Fp Lf /\ SG F8 Fp) (fun f w => ∃ (J130 : (Int × List Expr × List Ah × Int)), j125 = .inr J130 /\ ∃ (F9 : Mem) (aj125_1 : S0) (nj125_1 : Nat) (ej125_1 : Option Nat × Obj) (aj125_2 : S0) (nj125_2 : Nat), HS wb Fb w F9 (ej125_1 :: (sb bp0 #[(.slice aj125_2 J130.2.2.1.length nj125_2), (vi J130.2.2.2)] 100) :: (sb b21 #[(vi J130.1), (vi 0), (.slice aj125_1 J130.2.1.length nj125_1)] 33) :: Lf) /\ SG F8 F9 /\ FI f [] [(2, (pt b21 0))] /\ Av Ar 33 F9 aj125_1 nj125_1 J130.2.1 ej125_1 /\ LC J130.2.2.1.length nj125_2 /\ SlA Ag F9 aj125_2 J130.2.2.1) (fun wd119 hw120 => ?_) ?_ ?_
      ·refine Dv [0] ?_
       refine Dl 1 (fun _ hq => (hq.1.2 2 _ _ rfl)) ?_
       refine Dv [2] ?_
       refine D1 3 ?_
       obtain ⟨r131, hr132, h133⟩ := bind_some hj128
       refine DCP BT (hsR233 (hG.mono ((le31.trans le56).trans le114)) bp0 r109.1 ar109_0_0 nr109_0_0 hbr109_0_0 hsr109_0_0 hw120 _ hr132) ?_ ?_
       ·rintro r134 _ F10 w136 _ rfl hs137 le138 ⟨ar134_0_0, nr134_0_0, ar134_1_2, nr134_1_2, rfl, rfl, hbr134_0_0, hsr134_0_0, hbr134_1_2, hsr134_1_2⟩
        have h140 := BU h133
        refine ⟨BI hs137 le138 (by simp) (fun _ => by simp), ?_⟩
        refine D1 4 ?_
        refine DBs 33 [(vi r27.2.Op), (vi r27.2.Value), (.slice ar27_1_2 r27.2.Kids.length nr27_1_2), (vi r134.2.Op), (vi r134.2.Value), (.slice ar134_1_2 r134.2.Kids.length nr134_1_2)] hs137 le138 (fun b141 w142 hs143 => ?_)
        have hr145 : Av Ar 33 F10 (some ⟨b141, 0, none⟩) 2 [r27.2, r134.2] (some b141, .cells ([(vi r27.2.Op), (vi r27.2.Value), (.slice ar27_1_2 r27.2.Kids.length nr27_1_2), (vi r134.2.Op), (vi r134.2.Value), (.slice ar134_1_2 r134.2.Kids.length nr134_1_2)] : List Value).toArray 33 (0, 0)) := SX ⟨(A6 ⟨ar27_1_2, nr27_1_2, rfl, hbr27_1_2, (SJ hsr27_1_2 ((le56.trans le114).trans le138))⟩), ⟨(A6 ⟨ar134_1_2, nr134_1_2, rfl, hbr134_1_2, hsr134_1_2⟩), rfl⟩⟩ (by simp)
        refine Dv [5] ?_
        refine D1 6 ?_
        refine QJ #[(vi 7), (vi 0), (.slice (some ⟨b141, 0, none⟩) [r27.2, r134.2].length 2)] hs143 le138 (fun w146 hs147 => ?_)
        obtain rfl := Ab h140
        exact SV (by kernel_rfl) ⟨_, rfl, F10, (some ⟨b141, 0, none⟩), 2, (some b141, .cells ([(vi r27.2.Op), (vi r27.2.Value), (.slice ar27_1_2 r27.2.Kids.length nr27_1_2), (vi r134.2.Op), (vi r134.2.Value), (.slice ar134_1_2 r134.2.Kids.length nr134_1_2)] : List Value).toArray 33 (0, 0)), ar134_0_0, nr134_0_0, hs147.dr2.dr2.dr2, le138, fI, hr145, hbr134_0_0, hsr134_0_0⟩
       ·rintro b148 F11 w149 rfl hs150 le151
        have h152 := Bo h133
        obtain rfl := Ab h152
        exact ⟨rfl, _, _, rfl, rfl, hs150.dr0.dr0.dr0.dr0, le151⟩
      ·rintro f w121 ⟨J130, rfl, F9, aj125_1, nj125_1, ej125_1, aj125_2, nj125_2, hs122, le123, ⟨_, rfl⟩, hrj125_1, hbj125_2, hsj125_2⟩
       have h154 := BU h129
       refine Ac ?_
       refine Rt ?_
       refine Al ?_
       refine Aj ?_
       refine Al ?_
       refine Aj ?_
       have hb158 := SW hrj125_1
       obtain ⟨F12, hs155, le156, hs157⟩ := hs122.fr0 hrj125_1
       obtain rfl := Ab h154
       exact ⟨rfl, (.agg #[(vi J130.1), (vi 0), (.slice aj125_1 J130.2.1.length nj125_1)]), AB (l := [.cell 2 33]) (by kernel_rfl) (vs := [(.agg #[(vi J130.1), (vi 0), (.slice aj125_1 J130.2.1.length nj125_1)])]) ⟨b21, 0, rfl, Ak (t := 33) (g := true) (s := 3) (by kernel_rfl) hs155.at1 rfl (by decide), trivial⟩, .inl ⟨_, F12, _, _, rfl, rfl, hs155.dr1, ((((le31.trans le56).trans le114).trans le123).trans le156), ⟨aj125_2, nj125_2, aj125_1, nj125_1, rfl, rfl, hbj125_2, (SJ hsj125_2 le156), hb158, hs157⟩⟩⟩
      ·rintro c f w160 ⟨hd163, b159, F13, rfl, rfl, hs161, le162⟩
       have h164 := Bo h129
       refine An ?_
       refine AP ?_
       refine An ?_
       refine AP ?_
       refine An ?_
       obtain rfl := Ab h164
       exact ⟨hd163, .inr ⟨_, F13, rfl, rfl, hs161, (((le31.trans le56).trans le114).trans le162)⟩⟩
     ·refine Sc ?_
      refine Ax ?_
      refine Ac ?_
      refine URL.step ?_
      refine Sq (Rg [0, 1] ?_)
      refine RWP.litNext0  (dst := (some 11)) (ty := 0) (g := none) (by kernel_rfl) rfl (x := (.tmp 10)) (r := b46) (ki := 1) (km := 2) rfl hs113 rfl rfl (by kernel_rfl) (by kernel_rfl) ?_
      ·rintro w165 (hs166 : HS wb Fb w165 F8 ((sb bp0 (Ad r109.1 ar109_0_0 nr109_0_0) 100) :: (some b46, (.mapIter (some b39) 2 #[0, 1] 2)) :: (some b39, (.map #[⟨(.string ⟨(([61] : SZ)).toArray⟩), (vi 6), 0⟩, ⟨(.string ⟨(([60] : SZ)).toArray⟩), (vi 7), 1⟩] 2)) :: (sb b34 (Ai r27.2 ar27_1_2 nr27_1_2) 33) :: (sb b21 #[(vi 0), (vi 0), (.slice none ([] : List Expr).length 0)] 33) :: Lf))
       refine Vs 1 ?_
       refine Nss ?_
       refine C0 (rfl : false = false) ?_
       refine Ex ?_
       refine AF ?_
       refine AF ?_
       refine AZ rfl ?_
       refine Ac ?_
       refine Sq (Rg [0, 1] ?_)
       refine Ld hs166.at3 ?_
       refine St4 (Ai r27.2 ar27_1_2 nr27_1_2) hs166 (fun w167 hs168 => ?_)
       refine Nt ?_
       refine Rt ?_
       obtain rfl := Ab h118
       exact ⟨rfl, (.agg (Ai r27.2 ar27_1_2 nr27_1_2)), AB (l := [.cell 2 33]) (by kernel_rfl) (vs := [(.agg (Ai r27.2 ar27_1_2 nr27_1_2))]) ⟨b21, 0, rfl, Ak (t := 33) (g := true) (s := 3) (by kernel_rfl) hs168.at4 rfl (by decide), trivial⟩, .inl ⟨_, F8, _, _, rfl, rfl, hs168.dr1.dr1.dr1.dr1, ((le31.trans le56).trans le114), ⟨ar109_0_0, nr109_0_0, ar27_1_2, nr27_1_2, rfl, rfl, hbr109_0_0, hsr109_0_0, hbr27_1_2, (SJ hsr27_1_2 (le56.trans le114))⟩⟩⟩
  ·rintro w169 (hs170 : HS wb Fb w169 F1 ((some b46, (.mapIter (some b39) 2 #[1] 2)) :: (some b39, (.map #[⟨(.string ⟨(([61] : SZ)).toArray⟩), (vi 6), 0⟩, ⟨(.string ⟨(([60] : SZ)).toArray⟩), (vi 7), 1⟩] 2)) :: (sb b34 (Ai r27.2 ar27_1_2 nr27_1_2) 33) :: (sb bp0 (Ad r27.1 ar27_0_0 nr27_0_0) 100) :: (sb b21 #[(vi 0), (vi 0), (.slice none ([] : List Expr).length 0)] 33) :: Lf))
   have h171 := Jw h33
   refine Vs 1 ?_
   refine Nss ?_
   refine C1 (rfl : true = true) ?_
   refine Sc ?_
   refine Ac ?_
   refine Bk ?_
   refine Sq (Rg [0, 1, 2, 3, 4] ?_)
   refine V 13 0 (Ee (x := (.tmp 10)) (en := ⟨(.string ⟨(([60] : SZ)).toArray⟩), (vi 7), 1⟩) rfl (hs170.ownAt (k := 0) rfl) (hs170.ownAt (k := 1) rfl) rfl rfl) ?_
   refine Vs 4 ?_
   refine Nss (Rg [0, 1, 2] ?_)
   refine Vs 2 ?_
   have hs172 := hs170.pk4.pk3.pk3.pk3.pk4
   obtain ⟨r173, hr174, h175⟩ := bind_some h171
   refine CB AG (AJ N bp0 r27.1 ar27_0_0 nr27_0_0 hbr27_0_0 hsr27_0_0 (([60] : SZ)) hs172 _ hr174) ?_
   rintro _ F14 w176 _ hs177 le178 ⟨ar173_0_0, nr173_0_0, rfl, rfl, hbr173_0_0, hsr173_0_0⟩
   refine Nt ?_
   refine Cd h175 (fun hb180 h181 => ?_) (fun hb180 h182 => ?_)
   ·refine Sq ?_
    obtain ⟨j189, hj192, h193⟩ := bind_some h181
    refine RDP 6 7 [(some b46, (.mapIter (some b39) 2 #[1] 2)), (some b39, (.map #[⟨(.string ⟨(([61] : SZ)).toArray⟩), (vi 6), 0⟩, ⟨(.string ⟨(([60] : SZ)).toArray⟩), (vi 7), 1⟩] 2)), (sb b34 (Ai r27.2 ar27_1_2 nr27_1_2) 33)] [(sb b21 #[(vi 0), (vi 0), (.slice none ([] : List Expr).length 0)] 33)] hs177 (fun c d w => d = [] /\ ∃ (b : Af) (Fp : Mem), j189 = .inl b /\ c = [{ v := (.iface 158 (.agg (AK b))), recovered := false }] /\ HS wb Fb w Fp Lf /\ SG F14 Fp) (fun f w => ∃ (J194 : (Int × List Expr × List Ah × Int)), j189 = .inr J194 /\ ∃ (F15 : Mem) (aj189_1 : S0) (nj189_1 : Nat) (ej189_1 : Option Nat × Obj) (aj189_2 : S0) (nj189_2 : Nat), HS wb Fb w F15 (ej189_1 :: (sb bp0 #[(.slice aj189_2 J194.2.2.1.length nj189_2), (vi J194.2.2.2)] 100) :: (sb b21 #[(vi J194.1), (vi 0), (.slice aj189_1 J194.2.1.length nj189_1)] 33) :: Lf) /\ SG F14 F15 /\ FI f [] [(2, (pt b21 0))] /\ Av Ar 33 F15 aj189_1 nj189_1 J194.2.1 ej189_1 /\ LC J194.2.2.1.length nj189_2 /\ SlA Ag F15 aj189_2 J194.2.2.1) (fun wd183 hw184 => ?_) ?_ ?_
    ·refine Dv [0] ?_
     refine Dl 1 (fun _ hq => (hq.1.2 2 _ _ rfl)) ?_
     refine Dv [2] ?_
     refine D1 3 ?_
     obtain ⟨r195, hr196, h197⟩ := bind_some hj192
     refine DCP BT (hsR233 (hG.mono (le31.trans le178)) bp0 r173.1 ar173_0_0 nr173_0_0 hbr173_0_0 hsr173_0_0 hw184 _ hr196) ?_ ?_
     ·rintro r198 _ F16 w200 _ rfl hs201 le202 ⟨ar198_0_0, nr198_0_0, ar198_1_2, nr198_1_2, rfl, rfl, hbr198_0_0, hsr198_0_0, hbr198_1_2, hsr198_1_2⟩
      have h204 := BU h197
      refine ⟨BI hs201 le202 (by simp) (fun _ => by simp), ?_⟩
      refine D1 4 ?_
      refine DBs 33 [(vi r27.2.Op), (vi r27.2.Value), (.slice ar27_1_2 r27.2.Kids.length nr27_1_2), (vi r198.2.Op), (vi r198.2.Value), (.slice ar198_1_2 r198.2.Kids.length nr198_1_2)] hs201 le202 (fun b205 w206 hs207 => ?_)
      have hr209 : Av Ar 33 F16 (some ⟨b205, 0, none⟩) 2 [r27.2, r198.2] (some b205, .cells ([(vi r27.2.Op), (vi r27.2.Value), (.slice ar27_1_2 r27.2.Kids.length nr27_1_2), (vi r198.2.Op), (vi r198.2.Value), (.slice ar198_1_2 r198.2.Kids.length nr198_1_2)] : List Value).toArray 33 (0, 0)) := SX ⟨(A6 ⟨ar27_1_2, nr27_1_2, rfl, hbr27_1_2, (SJ hsr27_1_2 (le178.trans le202))⟩), ⟨(A6 ⟨ar198_1_2, nr198_1_2, rfl, hbr198_1_2, hsr198_1_2⟩), rfl⟩⟩ (by simp)
      refine Dv [5] ?_
      refine D1 6 ?_
      refine QJ #[(vi 7), (vi 0), (.slice (some ⟨b205, 0, none⟩) [r27.2, r198.2].length 2)] hs207 le202 (fun w210 hs211 => ?_)
      obtain rfl := Ab h204
      exact SV (by kernel_rfl) ⟨_, rfl, F16, (some ⟨b205, 0, none⟩), 2, (some b205, .cells ([(vi r27.2.Op), (vi r27.2.Value), (.slice ar27_1_2 r27.2.Kids.length nr27_1_2), (vi r198.2.Op), (vi r198.2.Value), (.slice ar198_1_2 r198.2.Kids.length nr198_1_2)] : List Value).toArray 33 (0, 0)), ar198_0_0, nr198_0_0, hs211.dr2.dr2.dr2, le202, fI, hr209, hbr198_0_0, hsr198_0_0⟩
     ·rintro b212 F17 w213 rfl hs214 le215
      have h216 := Bo h197
      obtain rfl := Ab h216
      exact ⟨rfl, _, _, rfl, rfl, hs214.dr0.dr0.dr0.dr0, le215⟩
    ·rintro f w185 ⟨J194, rfl, F15, aj189_1, nj189_1, ej189_1, aj189_2, nj189_2, hs186, le187, ⟨_, rfl⟩, hrj189_1, hbj189_2, hsj189_2⟩
     have h218 := BU h193
     refine Ac ?_
     refine Rt ?_
     refine Al ?_
     refine Aj ?_
     refine Al ?_
     refine Aj ?_
     have hb222 := SW hrj189_1
     obtain ⟨F18, hs219, le220, hs221⟩ := hs186.fr0 hrj189_1
     obtain rfl := Ab h218
     exact ⟨rfl, (.agg #[(vi J194.1), (vi 0), (.slice aj189_1 J194.2.1.length nj189_1)]), AB (l := [.cell 2 33]) (by kernel_rfl) (vs := [(.agg #[(vi J194.1), (vi 0), (.slice aj189_1 J194.2.1.length nj189_1)])]) ⟨b21, 0, rfl, Ak (t := 33) (g := true) (s := 3) (by kernel_rfl) hs219.at1 rfl (by decide), trivial⟩, .inl ⟨_, F18, _, _, rfl, rfl, hs219.dr1, (((le31.trans le178).trans le187).trans le220), ⟨aj189_2, nj189_2, aj189_1, nj189_1, rfl, rfl, hbj189_2, (SJ hsj189_2 le220), hb222, hs221⟩⟩⟩
    ·rintro c f w224 ⟨hd227, b223, F19, rfl, rfl, hs225, le226⟩
     have h228 := Bo h193
     refine An ?_
     refine AP ?_
     refine An ?_
     refine AP ?_
     refine An ?_
     obtain rfl := Ab h228
     exact ⟨hd227, .inr ⟨_, F19, rfl, rfl, hs225, ((le31.trans le178).trans le226)⟩⟩
   ·refine Sc ?_
    refine Ax ?_
    refine Ac ?_
    refine URL.step ?_
    refine Sq (Rg [0, 1] ?_)
    refine RWP.litNext1  (e := ⟨(.string ⟨(([61] : SZ)).toArray⟩), (vi 6), 0⟩) (dst := (some 11)) (ty := 0) (g := none) (by kernel_rfl) rfl (x := (.tmp 10)) (r := b46) (ki := 1) (km := 2) rfl hs177 rfl rfl (by kernel_rfl) (by kernel_rfl) ?_
    ·rintro w229 (hs230 : HS wb Fb w229 F14 ((sb bp0 (Ad r173.1 ar173_0_0 nr173_0_0) 100) :: (some b46, (.mapIter (some b39) 2 #[1, 0] 2)) :: (some b39, (.map #[⟨(.string ⟨(([61] : SZ)).toArray⟩), (vi 6), 0⟩, ⟨(.string ⟨(([60] : SZ)).toArray⟩), (vi 7), 1⟩] 2)) :: (sb b34 (Ai r27.2 ar27_1_2 nr27_1_2) 33) :: (sb b21 #[(vi 0), (vi 0), (.slice none ([] : List Expr).length 0)] 33) :: Lf))
     refine Vs 1 ?_
     refine Nss ?_
     refine C1 (rfl : true = true) ?_
     refine Sc ?_
     refine Ac ?_
     refine Bk ?_
     refine Sq (Rg [0, 1, 2, 3, 4] ?_)
     refine V 13 0 (Ee (x := (.tmp 10)) (en := ⟨(.string ⟨(([61] : SZ)).toArray⟩), (vi 6), 0⟩) rfl (hs230.ownAt (k := 1) rfl) (hs230.ownAt (k := 2) rfl) rfl rfl) ?_
     refine Vs 4 ?_
     refine Nss (Rg [0, 1, 2] ?_)
     refine Vs 2 ?_
     obtain ⟨r231, hr232, h233⟩ := bind_some h182
     refine CB AG (AJ N bp0 r173.1 ar173_0_0 nr173_0_0 hbr173_0_0 hsr173_0_0 (([61] : SZ)) hs230 _ hr232) ?_
     rintro _ F20 w234 _ hs235 le236 ⟨ar231_0_0, nr231_0_0, rfl, rfl, hbr231_0_0, hsr231_0_0⟩
     refine Nt ?_
     refine Cd h233 (fun hb238 h239 => ?_) (fun hb238 h240 => ?_)
     ·refine Sq ?_
      obtain ⟨j247, hj250, h251⟩ := bind_some h239
      refine RDP 6 7 [(some b46, (.mapIter (some b39) 2 #[1, 0] 2)), (some b39, (.map #[⟨(.string ⟨(([61] : SZ)).toArray⟩), (vi 6), 0⟩, ⟨(.string ⟨(([60] : SZ)).toArray⟩), (vi 7), 1⟩] 2)), (sb b34 (Ai r27.2 ar27_1_2 nr27_1_2) 33)] [(sb b21 #[(vi 0), (vi 0), (.slice none ([] : List Expr).length 0)] 33)] hs235 (fun c d w => d = [] /\ ∃ (b : Af) (Fp : Mem), j247 = .inl b /\ c = [{ v := (.iface 158 (.agg (AK b))), recovered := false }] /\ HS wb Fb w Fp Lf /\ SG F20 Fp) (fun f w => ∃ (J252 : (Int × List Expr × List Ah × Int)), j247 = .inr J252 /\ ∃ (F21 : Mem) (aj247_1 : S0) (nj247_1 : Nat) (ej247_1 : Option Nat × Obj) (aj247_2 : S0) (nj247_2 : Nat), HS wb Fb w F21 (ej247_1 :: (sb bp0 #[(.slice aj247_2 J252.2.2.1.length nj247_2), (vi J252.2.2.2)] 100) :: (sb b21 #[(vi J252.1), (vi 0), (.slice aj247_1 J252.2.1.length nj247_1)] 33) :: Lf) /\ SG F20 F21 /\ FI f [] [(2, (pt b21 0))] /\ Av Ar 33 F21 aj247_1 nj247_1 J252.2.1 ej247_1 /\ LC J252.2.2.1.length nj247_2 /\ SlA Ag F21 aj247_2 J252.2.2.1) (fun wd241 hw242 => ?_) ?_ ?_
      ·refine Dv [0] ?_
       refine Dl 1 (fun _ hq => (hq.1.2 2 _ _ rfl)) ?_
       refine Dv [2] ?_
       refine D1 3 ?_
       obtain ⟨r253, hr254, h255⟩ := bind_some hj250
       refine DCP BT (hsR233 (hG.mono ((le31.trans le178).trans le236)) bp0 r231.1 ar231_0_0 nr231_0_0 hbr231_0_0 hsr231_0_0 hw242 _ hr254) ?_ ?_
       ·rintro r256 _ F22 w258 _ rfl hs259 le260 ⟨ar256_0_0, nr256_0_0, ar256_1_2, nr256_1_2, rfl, rfl, hbr256_0_0, hsr256_0_0, hbr256_1_2, hsr256_1_2⟩
        have h262 := BU h255
        refine ⟨BI hs259 le260 (by simp) (fun _ => by simp), ?_⟩
        refine D1 4 ?_
        refine DBs 33 [(vi r27.2.Op), (vi r27.2.Value), (.slice ar27_1_2 r27.2.Kids.length nr27_1_2), (vi r256.2.Op), (vi r256.2.Value), (.slice ar256_1_2 r256.2.Kids.length nr256_1_2)] hs259 le260 (fun b263 w264 hs265 => ?_)
        have hr267 : Av Ar 33 F22 (some ⟨b263, 0, none⟩) 2 [r27.2, r256.2] (some b263, .cells ([(vi r27.2.Op), (vi r27.2.Value), (.slice ar27_1_2 r27.2.Kids.length nr27_1_2), (vi r256.2.Op), (vi r256.2.Value), (.slice ar256_1_2 r256.2.Kids.length nr256_1_2)] : List Value).toArray 33 (0, 0)) := SX ⟨(A6 ⟨ar27_1_2, nr27_1_2, rfl, hbr27_1_2, (SJ hsr27_1_2 ((le178.trans le236).trans le260))⟩), ⟨(A6 ⟨ar256_1_2, nr256_1_2, rfl, hbr256_1_2, hsr256_1_2⟩), rfl⟩⟩ (by simp)
        refine Dv [5] ?_
        refine D1 6 ?_
        refine QJ #[(vi 6), (vi 0), (.slice (some ⟨b263, 0, none⟩) [r27.2, r256.2].length 2)] hs265 le260 (fun w268 hs269 => ?_)
        obtain rfl := Ab h262
        exact SV (by kernel_rfl) ⟨_, rfl, F22, (some ⟨b263, 0, none⟩), 2, (some b263, .cells ([(vi r27.2.Op), (vi r27.2.Value), (.slice ar27_1_2 r27.2.Kids.length nr27_1_2), (vi r256.2.Op), (vi r256.2.Value), (.slice ar256_1_2 r256.2.Kids.length nr256_1_2)] : List Value).toArray 33 (0, 0)), ar256_0_0, nr256_0_0, hs269.dr2.dr2.dr2, le260, fI, hr267, hbr256_0_0, hsr256_0_0⟩
       ·rintro b270 F23 w271 rfl hs272 le273
        have h274 := Bo h255
        obtain rfl := Ab h274
        exact ⟨rfl, _, _, rfl, rfl, hs272.dr0.dr0.dr0.dr0, le273⟩
      ·rintro f w243 ⟨J252, rfl, F21, aj247_1, nj247_1, ej247_1, aj247_2, nj247_2, hs244, le245, ⟨_, rfl⟩, hrj247_1, hbj247_2, hsj247_2⟩
       have h276 := BU h251
       refine Ac ?_
       refine Rt ?_
       refine Al ?_
       refine Aj ?_
       refine Al ?_
       refine Aj ?_
       have hb280 := SW hrj247_1
       obtain ⟨F24, hs277, le278, hs279⟩ := hs244.fr0 hrj247_1
       obtain rfl := Ab h276
       exact ⟨rfl, (.agg #[(vi J252.1), (vi 0), (.slice aj247_1 J252.2.1.length nj247_1)]), AB (l := [.cell 2 33]) (by kernel_rfl) (vs := [(.agg #[(vi J252.1), (vi 0), (.slice aj247_1 J252.2.1.length nj247_1)])]) ⟨b21, 0, rfl, Ak (t := 33) (g := true) (s := 3) (by kernel_rfl) hs277.at1 rfl (by decide), trivial⟩, .inl ⟨_, F24, _, _, rfl, rfl, hs277.dr1, ((((le31.trans le178).trans le236).trans le245).trans le278), ⟨aj247_2, nj247_2, aj247_1, nj247_1, rfl, rfl, hbj247_2, (SJ hsj247_2 le278), hb280, hs279⟩⟩⟩
      ·rintro c f w282 ⟨hd285, b281, F25, rfl, rfl, hs283, le284⟩
       have h286 := Bo h251
       refine An ?_
       refine AP ?_
       refine An ?_
       refine AP ?_
       refine An ?_
       obtain rfl := Ab h286
       exact ⟨hd285, .inr ⟨_, F25, rfl, rfl, hs283, (((le31.trans le178).trans le236).trans le284)⟩⟩
     ·refine Sc ?_
      refine Ax ?_
      refine Ac ?_
      refine URL.step ?_
      refine Sq (Rg [0, 1] ?_)
      refine RWP.litNext0  (dst := (some 11)) (ty := 0) (g := none) (by kernel_rfl) rfl (x := (.tmp 10)) (r := b46) (ki := 1) (km := 2) rfl hs235 rfl rfl (by kernel_rfl) (by kernel_rfl) ?_
      ·rintro w287 (hs288 : HS wb Fb w287 F20 ((sb bp0 (Ad r231.1 ar231_0_0 nr231_0_0) 100) :: (some b46, (.mapIter (some b39) 2 #[1, 0] 2)) :: (some b39, (.map #[⟨(.string ⟨(([61] : SZ)).toArray⟩), (vi 6), 0⟩, ⟨(.string ⟨(([60] : SZ)).toArray⟩), (vi 7), 1⟩] 2)) :: (sb b34 (Ai r27.2 ar27_1_2 nr27_1_2) 33) :: (sb b21 #[(vi 0), (vi 0), (.slice none ([] : List Expr).length 0)] 33) :: Lf))
       refine Vs 1 ?_
       refine Nss ?_
       refine C0 (rfl : false = false) ?_
       refine Ex ?_
       refine AF ?_
       refine AF ?_
       refine AZ rfl ?_
       refine Ac ?_
       refine Sq (Rg [0, 1] ?_)
       refine Ld hs288.at3 ?_
       refine St4 (Ai r27.2 ar27_1_2 nr27_1_2) hs288 (fun w289 hs290 => ?_)
       refine Nt ?_
       refine Rt ?_
       obtain rfl := Ab h240
       exact ⟨rfl, (.agg (Ai r27.2 ar27_1_2 nr27_1_2)), AB (l := [.cell 2 33]) (by kernel_rfl) (vs := [(.agg (Ai r27.2 ar27_1_2 nr27_1_2))]) ⟨b21, 0, rfl, Ak (t := 33) (g := true) (s := 3) (by kernel_rfl) hs290.at4 rfl (by decide), trivial⟩, .inl ⟨_, F20, _, _, rfl, rfl, hs290.dr1.dr1.dr1.dr1, ((le31.trans le178).trans le236), ⟨ar231_0_0, nr231_0_0, ar27_1_2, nr27_1_2, rfl, rfl, hbr231_0_0, hsr231_0_0, hbr27_1_2, (SJ hsr27_1_2 (le178.trans le236))⟩⟩⟩
 ·rintro b291 F26 w292 rfl hs293 le294
  have h295 := Bo h26
  refine An ?_
  obtain rfl := Ab h295
  exact Ch hs293.dr0 le294
def Er (N : Nat) (sR239 : Aa -> Option (Af ⊕ (Aa × Expr))) (x0 : Aa) : Option (Af ⊕ (Aa × Expr)) :=
 ((AN N x0 (fun y => sR239 y) (Eu (Eu ([] : List (SZ × Int)) ([43] : SZ) 8) ([45] : SZ) 9)).bind fun r41 => sk r41 (fun b53 => some (.inl b53)) (fun r44 => some (.inr (r44.1, r44.2))))
theorem GY (N : Nat) (sR239 : Aa -> Option (Af ⊕ (Aa × Expr))) (hsR239 : L1 sR239) {wb w0 : World} {Fb F0 : Mem} {Lf : Own} (hG : CA F0) (bp0 : Nat) (x0 : Aa) (a0_0 : S0) (n0_0 : Nat) (hb0_0 : LC x0.l_.length n0_0) (hs0_0 : SlA Ag F0 a0_0 x0.l_) (hs0 : HS wb Fb w0 F0 ((sb bp0 (Ad x0 a0_0 n0_0) 100) :: Lf)) (r : (Af ⊕ (Aa × Expr))) (h : Er N sR239 x0 = some r) :
  Calls Tryz.prog 233 ([(pt bp0 0)] : List Value).toArray w0 (BK wb Fb F0 Lf r (fun b => (.iface 158 (.agg (AK b)))) fun a F' v L' => ∃ (aq0_0 : S0) (nq0_0 : Nat) (aq1_2 : S0) (nq1_2 : Nat), v = (.agg (Ai a.2 aq1_2 nq1_2)) /\ L' = (sb bp0 (Ad a.1 aq0_0 nq0_0) 100) :: Lf /\ LC a.1.l_.length nq0_0 /\ SlA Ag F' aq0_0 a.1.l_ /\ LC a.2.Kids.length nq1_2 /\ SlA Ar F' aq1_2 a.2.Kids) := by
 refine Go 9 Tryz.func233 ?_
 refine Sq (Rg [0] ?_)
 refine Al' 33 #[(vi 0), (vi 0), (.slice none ([] : List Expr).length 0)] hs0 (fun b21 w22 hs23 => ?_)
 refine Nss (Rg [0, 1, 2, 3, 4, 5, 6, 7, 8] ?_)
 refine Vs 3 ?_
 refine RWP.makeMap (t := 198) (K := ES) (T := Ci) (dst := (some 6)) (ty := 198) (g := none) (by kernel_rfl) rfl hs23 (fun b25 e26 w27 (hs28 : HS wb Fb w27 F0 (e26 :: (sb b21 #[(vi 0), (vi 0), (.slice none ([] : List Expr).length 0)] 33) :: (sb bp0 (Ad x0 a0_0 n0_0) 100) :: Lf)) hr29 => ?_)
 refine RWP.mapIns kl9 (ty := 0) (g := none) (mt := 198) (k := 9) (vt := 3) (m := (.tmp 6)) (x := (.const (.string ⟨([43] : SZ).toArray⟩))) (y := (.const (vi 8))) (b := b25) (kx := ([43] : SZ)) (u := 8) (kv := (.string ⟨(([43] : SZ)).toArray⟩)) (v := (vi 8)) (K := ES) (T := Ci) (by kernel_rfl) rfl rfl rfl rfl ⟨_, rfl, rfl⟩ ⟨_, rfl, rfl⟩ (by kernel_rfl) hs28 (q := 0) rfl hr29 (fun e30 w31 (hs32 : HS wb Fb w31 F0 (e30 :: (sb b21 #[(vi 0), (vi 0), (.slice none ([] : List Expr).length 0)] 33) :: (sb bp0 (Ad x0 a0_0 n0_0) 100) :: Lf)) hr33 => ?_)
 refine RWP.mapIns kl9 (ty := 0) (g := none) (mt := 198) (k := 9) (vt := 3) (m := (.tmp 6)) (x := (.const (.string ⟨([45] : SZ).toArray⟩))) (y := (.const (vi 9))) (b := b25) (kx := ([45] : SZ)) (u := 9) (kv := (.string ⟨(([45] : SZ)).toArray⟩)) (v := (vi 9)) (K := ES) (T := Ci) (by kernel_rfl) rfl rfl rfl rfl ⟨_, rfl, rfl⟩ ⟨_, rfl, rfl⟩ (by kernel_rfl) hs32 (q := 0) rfl hr33 (fun e34 w35 (hs36 : HS wb Fb w35 F0 (e34 :: (sb b21 #[(vi 0), (vi 0), (.slice none ([] : List Expr).length 0)] 33) :: (sb bp0 (Ad x0 a0_0 n0_0) 100) :: Lf)) hr37 => ?_)
 refine Vs 1 ?_
 obtain ⟨F1, hs38, le39, hm40⟩ : ∃ Fq, HS wb Fb w35 Fq ((sb b21 #[(vi 0), (vi 0), (.slice none ([] : List Expr).length 0)] 33) :: (sb bp0 (Ad x0 a0_0 n0_0) 100) :: Lf) /\ SG F0 Fq /\ MpA ES Ci Fq (some b25) (Eu (Eu ([] : List (SZ × Int)) ([43] : SZ) 8) ([45] : SZ) 9) := HS.freezeMap hs36 (i := 0) rfl hr37
 obtain ⟨r41, hr42, h43⟩ := bind_some h
 refine CP BD (BO N (hG.mono le39) bp0 x0 a0_0 n0_0 hb0_0 (SJ hs0_0 le39) 239 [(pt bp0 0)] ([] : List Value) (fun y => sR239 y) Gq (fun {_ _ _ _ _} hGe y ay_0 ny_0 hby_0 hsy_0 hs r h => hsR239 hGe bp0 y ay_0 ny_0 hby_0 hsy_0 hs r h) ((Eu (Eu ([] : List (SZ × Int)) ([43] : SZ) 8) ([45] : SZ) 9)) (some b25) hm40 hs38.pk1 _ hr42) ?_ ?_
 ·rintro r44 _ F2 w46 _ rfl hs47 le48 ⟨ar44_0_0, nr44_0_0, ar44_1_2, nr44_1_2, rfl, rfl, hbr44_0_0, hsr44_0_0, hbr44_1_2, hsr44_1_2⟩
  have h50 := BU h43
  refine St1 (Ai r44.2 ar44_1_2 nr44_1_2) hs47 (fun w51 hs52 => ?_)
  refine Nt ?_
  refine Rt ?_
  obtain rfl := Ab h50
  exact ⟨rfl, (.agg (Ai r44.2 ar44_1_2 nr44_1_2)), AB (l := [.cell 2 33]) (by kernel_rfl) (vs := [(.agg (Ai r44.2 ar44_1_2 nr44_1_2))]) ⟨b21, 0, rfl, Ak (t := 33) (g := true) (s := 3) (by kernel_rfl) hs52.at1 rfl (by decide), trivial⟩, .inl ⟨_, F2, _, _, rfl, rfl, hs52.dr1, (le39.trans le48), ⟨ar44_0_0, nr44_0_0, ar44_1_2, nr44_1_2, rfl, rfl, hbr44_0_0, hsr44_0_0, hbr44_1_2, hsr44_1_2⟩⟩⟩
 ·rintro b53 F3 w54 rfl hs55 le56
  have h57 := Bo h43
  refine An ?_
  obtain rfl := Ab h57
  exact Ch hs55.dr0 (le39.trans le56)
def D8 (N : Nat) (sR243 : Aa -> Option (Af ⊕ (Aa × Expr))) (x0 : Aa) : Option (Af ⊕ (Aa × Expr)) :=
 ((AN N x0 (fun y => sR243 y) (Eu ([] : List (SZ × Int)) ([42] : SZ) 10)).bind fun r37 => sk r37 (fun b49 => some (.inl b49)) (fun r40 => some (.inr (r40.1, r40.2))))
theorem GD (N : Nat) (sR243 : Aa -> Option (Af ⊕ (Aa × Expr))) (hsR243 : L0 sR243) {wb w0 : World} {Fb F0 : Mem} {Lf : Own} (hG : CA F0) (bp0 : Nat) (x0 : Aa) (a0_0 : S0) (n0_0 : Nat) (hb0_0 : LC x0.l_.length n0_0) (hs0_0 : SlA Ag F0 a0_0 x0.l_) (hs0 : HS wb Fb w0 F0 ((sb bp0 (Ad x0 a0_0 n0_0) 100) :: Lf)) (r : (Af ⊕ (Aa × Expr))) (h : D8 N sR243 x0 = some r) :
  Calls Tryz.prog 239 ([(pt bp0 0)] : List Value).toArray w0 (BK wb Fb F0 Lf r (fun b => (.iface 158 (.agg (AK b)))) fun a F' v L' => ∃ (aq0_0 : S0) (nq0_0 : Nat) (aq1_2 : S0) (nq1_2 : Nat), v = (.agg (Ai a.2 aq1_2 nq1_2)) /\ L' = (sb bp0 (Ad a.1 aq0_0 nq0_0) 100) :: Lf /\ LC a.1.l_.length nq0_0 /\ SlA Ag F' aq0_0 a.1.l_ /\ LC a.2.Kids.length nq1_2 /\ SlA Ar F' aq1_2 a.2.Kids) := by
 refine Go 9 Tryz.func239 ?_
 refine Sq (Rg [0] ?_)
 refine Al' 33 #[(vi 0), (vi 0), (.slice none ([] : List Expr).length 0)] hs0 (fun b21 w22 hs23 => ?_)
 refine Nss (Rg [0, 1, 2, 3, 4, 5, 6, 7] ?_)
 refine Vs 3 ?_
 refine RWP.makeMap (t := 198) (K := ES) (T := Ci) (dst := (some 6)) (ty := 198) (g := none) (by kernel_rfl) rfl hs23 (fun b25 e26 w27 (hs28 : HS wb Fb w27 F0 (e26 :: (sb b21 #[(vi 0), (vi 0), (.slice none ([] : List Expr).length 0)] 33) :: (sb bp0 (Ad x0 a0_0 n0_0) 100) :: Lf)) hr29 => ?_)
 refine RWP.mapIns kl9 (ty := 0) (g := none) (mt := 198) (k := 9) (vt := 3) (m := (.tmp 6)) (x := (.const (.string ⟨([42] : SZ).toArray⟩))) (y := (.const (vi 10))) (b := b25) (kx := ([42] : SZ)) (u := 10) (kv := (.string ⟨(([42] : SZ)).toArray⟩)) (v := (vi 10)) (K := ES) (T := Ci) (by kernel_rfl) rfl rfl rfl rfl ⟨_, rfl, rfl⟩ ⟨_, rfl, rfl⟩ (by kernel_rfl) hs28 (q := 0) rfl hr29 (fun e30 w31 (hs32 : HS wb Fb w31 F0 (e30 :: (sb b21 #[(vi 0), (vi 0), (.slice none ([] : List Expr).length 0)] 33) :: (sb bp0 (Ad x0 a0_0 n0_0) 100) :: Lf)) hr33 => ?_)
 refine Vs 1 ?_
 obtain ⟨F1, hs34, le35, hm36⟩ : ∃ Fq, HS wb Fb w31 Fq ((sb b21 #[(vi 0), (vi 0), (.slice none ([] : List Expr).length 0)] 33) :: (sb bp0 (Ad x0 a0_0 n0_0) 100) :: Lf) /\ SG F0 Fq /\ MpA ES Ci Fq (some b25) (Eu ([] : List (SZ × Int)) ([42] : SZ) 10) := HS.freezeMap hs32 (i := 0) rfl hr33
 obtain ⟨r37, hr38, h39⟩ := bind_some h
 refine CP BD (BO N (hG.mono le35) bp0 x0 a0_0 n0_0 hb0_0 (SJ hs0_0 le35) 243 [(pt bp0 0)] ([] : List Value) (fun y => sR243 y) Gs (fun {_ _ _ _ _} hGe y ay_0 ny_0 hby_0 hsy_0 hs r h => hsR243 hGe bp0 y ay_0 ny_0 hby_0 hsy_0 hs r h) ((Eu ([] : List (SZ × Int)) ([42] : SZ) 10)) (some b25) hm36 hs34.pk1 _ hr38) ?_ ?_
 ·rintro r40 _ F2 w42 _ rfl hs43 le44 ⟨ar40_0_0, nr40_0_0, ar40_1_2, nr40_1_2, rfl, rfl, hbr40_0_0, hsr40_0_0, hbr40_1_2, hsr40_1_2⟩
  have h46 := BU h39
  refine St1 (Ai r40.2 ar40_1_2 nr40_1_2) hs43 (fun w47 hs48 => ?_)
  refine Nt ?_
  refine Rt ?_
  obtain rfl := Ab h46
  exact ⟨rfl, (.agg (Ai r40.2 ar40_1_2 nr40_1_2)), AB (l := [.cell 2 33]) (by kernel_rfl) (vs := [(.agg (Ai r40.2 ar40_1_2 nr40_1_2))]) ⟨b21, 0, rfl, Ak (t := 33) (g := true) (s := 3) (by kernel_rfl) hs48.at1 rfl (by decide), trivial⟩, .inl ⟨_, F2, _, _, rfl, rfl, hs48.dr1, (le35.trans le44), ⟨ar40_0_0, nr40_0_0, ar40_1_2, nr40_1_2, rfl, rfl, hbr40_0_0, hsr40_0_0, hbr40_1_2, hsr40_1_2⟩⟩⟩
 ·rintro b49 F3 w50 rfl hs51 le52
  have h53 := Bo h39
  refine An ?_
  obtain rfl := Ab h53
  exact Ch hs51.dr0 (le35.trans le52)
def AU (N : Nat) (x0 : Aa) (x1 : Int) (x2 : Int) : Option (Af ⊕ Unit) :=
 some (.inl ({ e_ := x1, at_ := x2 } : Af))
theorem AM : Aq Tryz.prog 87 := fun _ _ => by kernel_rfl
theorem AQ (N : Nat) {wb w0 : World} {Fb F0 : Mem} {Lf : Own} (bp0 : Nat) (x0 : Aa) (a0_0 : S0) (n0_0 : Nat) (hb0_0 : LC x0.l_.length n0_0) (hs0_0 : SlA Ag F0 a0_0 x0.l_) (x1 : Int) (x2 : Int) (hs0 : HS wb Fb w0 F0 ((sb bp0 (Ad x0 a0_0 n0_0) 100) :: Lf)) (r : (Af ⊕ Unit)) (h : AU N x0 x1 x2 = some r) :
  Calls Tryz.prog 87 ([(pt bp0 0), (vi x1), (vi x2)] : List Value).toArray w0 (BK wb Fb F0 Lf r (fun b => (.iface 158 (.agg (AK b)))) fun a F' v L' => v = (.tuple #[]) /\ L' = (sb bp0 (Ad x0 a0_0 n0_0) 100) :: Lf) := by
 refine Go 10 Tryz.func87 ?_
 refine Rg [0, 1, 2, 3, 4] ?_
 refine Vs 3 ?_
 refine V 9 20 (Fo (t := 158) (x := (.tmp 8)) (v := (.agg #[(vi x1), (vi x2)])) rfl (by kernel_rfl)) ?_
 refine RWP.panics (dst := none) (ty := 0) (g := none) (by kernel_rfl) rfl (Ow (x := (.tmp 9)) (t := 158) (v := (.agg #[(vi x1), (vi x2)])) rfl) rfl ?_
 obtain rfl := Ab h
 exact Ch hs0.dr0 (SH _)
def AH (N : Nat) (x0 : Aa) (x1 : SZ) : Option (Af ⊕ Aa) :=
 ((Ap N x0 x1).bind fun r21 => (bif (!r21.2) then ((idx r21.1.l_ 0).bind fun x31 => ((AU N r21.1 60 x31.at_).bind fun r45 => sk r45 (fun b50 => some (.inl b50)) (fun r48 => none))) else some (.inr r21.1)))
theorem A2 : Aq Tryz.prog 135 := fun _ _ => by kernel_rfl
theorem A5 (N : Nat) {wb w0 : World} {Fb F0 : Mem} {Lf : Own} (bp0 : Nat) (x0 : Aa) (a0_0 : S0) (n0_0 : Nat) (hb0_0 : LC x0.l_.length n0_0) (hs0_0 : SlA Ag F0 a0_0 x0.l_) (x1 : SZ) (hs0 : HS wb Fb w0 F0 ((sb bp0 (Ad x0 a0_0 n0_0) 100) :: Lf)) (r : (Af ⊕ Aa)) (h : AH N x0 x1 = some r) :
  Calls Tryz.prog 135 ([(pt bp0 0), (.string ⟨(x1).toArray⟩)] : List Value).toArray w0 (BK wb Fb F0 Lf r (fun b => (.iface 158 (.agg (AK b)))) fun a F' v L' => ∃ (aq0_0 : S0) (nq0_0 : Nat), v = (.tuple #[]) /\ L' = (sb bp0 (Ad a aq0_0 nq0_0) 100) :: Lf /\ LC a.l_.length nq0_0 /\ SlA Ag F' aq0_0 a.l_) := by
 refine Go 17 Tryz.func135 ?_
 refine Sq (Rg [0, 1, 2, 3] ?_)
 refine Vs 2 ?_
 obtain ⟨r21, hr22, h23⟩ := bind_some h
 refine CB AG (AJ N bp0 x0 a0_0 n0_0 hb0_0 hs0_0 x1 hs0 _ hr22) ?_
 rintro _ F1 w24 _ hs25 le26 ⟨ar21_0_0, nr21_0_0, rfl, rfl, hbr21_0_0, hsr21_0_0⟩
 refine Vs 1 ?_
 refine Nt ?_
 refine Cd h23 (fun hb28 h29 => ?_) (fun hb28 h30 => ?_)
 ·refine Rg [0, 1, 2, 3, 4, 5, 6, 7, 8] ?_
  refine Vs 4 ?_
  refine Ld hs25.at0 ?_
  obtain ⟨x31, hx32, h34⟩ := bind_some h29
  obtain ⟨hi33, hx32'⟩ := Aw hx32
  obtain ⟨b35, o36, C37, E38, fz39, rfl, hF41, hE42⟩ := SQ hsr21_0_0 hx32'
  have hc44 := hE42 _ _ hx32'
  refine Ix hi33 ?_
  refine Vs 1 ?_
  refine Lx 1 (hs25.pers _ _ hF41) hc44 ?_
  obtain ⟨r45, hr46, h47⟩ := bind_some h34
  refine CP AM (AQ N bp0 r21.1 (some ⟨b35, o36, none⟩) nr21_0_0 hbr21_0_0 hsr21_0_0 60 x31.at_ hs25 _ hr46) ?_ ?_
  ·rintro _ _ _ _ _ rfl _ _ _; cases hr46
  ·rintro b50 F3 w51 rfl hs52 le53
   have h54 := Bo h47
   obtain rfl := Ab h54
   exact Ch hs52 (le26.trans le53)
 ·refine Sc ?_
  obtain rfl := Ab h30
  exact ReP [] hs25 le26 ⟨ar21_0_0, nr21_0_0, rfl, rfl, hbr21_0_0, hsr21_0_0⟩
def Be (N : Nat) (x0 : (List SZ)) (x1 : SZ) : Int -> Option (Bn Int Int) := fun s24 =>
 (bif (decide (s24 < (x0.length : Int))) then ((idx x0 s24).bind fun x47 => (bif (x1 == x47) then some (.ret s24) else some (.next (W64 (s24 + 1))))) else some (.done s24))
def Bp (N : Nat) (x0 : (List SZ)) (x1 : SZ) : Option Int :=
 ((AX (Be N x0 x1) N 0).bind fun o => o.k (fun r => some r) (fun s33 => some (-1)))
theorem DT : Aq Tryz.prog 247 := fun _ _ => by kernel_rfl
theorem D4 (N : Nat) (w0 : World) (F0 : Mem) (hF : S1 w0 F0) (x0 : (List SZ)) (a0_0 : S0) (n0_0 : Nat) (hb0_0 : LC x0.length n0_0) (hs0_0 : SlA ES F0 a0_0 x0) (x1 : SZ) (r : Int) (h : Bp N x0 x1 = some r) :
  Calls Tryz.prog 247 ([(.slice a0_0 x0.length n0_0), (.string ⟨(x1).toArray⟩)] : List Value).toArray w0 (AV w0 F0 fun F' v => v = (vi r)) := by
 have hs0 := SI hF
 refine Go 19 Tryz.func247 ?_
 refine Sq (Rg [0] ?_)
 refine Vs 1 ?_
 refine Nss ?_
 refine Sq (Rg [0, 1, 2] ?_)
 refine Vs 3 ?_
 refine Nt ?_
 obtain ⟨o21, ho22, h23⟩ := bind_some h
 refine SN (fun f w => ∃ (s33 : Int) (F2 : Mem), o21 = .done s33 /\ HS w0 F0 w F2 [] /\ SG F0 F2 /\ FI f [] []) ?_ ?_
 ·refine Bk ?_
  refine SF (by kernel_rfl) (fun m f w => ∃ (s24 : Int) (F1 : Mem), AX (Be N x0 x1) m s24 = some o21 /\ HS w0 F0 w F1 [] /\ SG F0 F1 /\ FI f [] [(0, (.slice a0_0 x0.length n0_0)), (1, (.string ⟨(x1).toArray⟩)), (7, (vi (x0.length : Int))), (8, (vi s24))]) N ⟨0, F0, ho22, hs0, (SH _), fI⟩ ?_
  rintro m38 f w25 ⟨s24, F1, hit39, hs26, le27, ⟨_, rfl⟩⟩
  obtain ⟨m40, fl41, rfl, hb42, hnx43⟩ := Bf hit39
  refine Sq (Rg [0] ?_)
  refine Vs 1 ?_
  refine Nss ?_
  refine Cd hb42 (fun hb44 h45 => ?_) (fun hb44 h46 => ?_)
  ·refine Sc ?_
   refine Ac ?_
   refine Sq ?_
   refine Bk ?_
   refine Sq (Rg [0, 1] ?_)
   refine Vs 2 ?_
   refine Nss (Rg [0, 1, 2, 3, 4, 5] ?_)
   refine Vs 3 ?_
   obtain ⟨x47, hx48, h50⟩ := bind_some h45
   obtain ⟨hi49, hx48'⟩ := Aw hx48
   obtain ⟨b51, o52, C53, E54, fz55, rfl, hF57, hE58⟩ := SQ (SJ hs0_0 le27) hx48'
   have hc60 := hE58 _ _ hx48'
   refine Ix hi49 ?_
   refine Lx 0 (hs26.pers _ _ hF57) hc60 ?_
   refine Vs 1 ?_
   refine Nt ?_
   refine Cd h50 (fun hb61 h62 => ?_) (fun hb61 h63 => ?_)
   ·refine Sq (Rg [0, 1] ?_)
    refine Vs 2 ?_
    refine Nt ?_
    refine Rt ?_
    refine Al ?_
    refine Aj ?_
    refine Aj ?_
    refine Al ?_
    have hret := Cs h62 hnx43
    subst hret
    refine .inr ?_
    refine Aj ?_
    obtain rfl := Ab h23
    exact Re [(vi s24)] hs26 rfl
   ·refine Sc ?_
    refine Ax ?_
    refine Ac ?_
    refine Rg [0, 1] ?_
    refine Vs 2 ?_
    refine SC ?_
    have hn64 := A8 h63 hnx43
    exact ⟨m40, Nat.lt_succ_self _, (W64 (s24 + 1)), F1, hn64, hs26, le27, fI⟩
  ·refine Ex ?_
   refine AF ?_
   refine AF ?_
   refine AZ rfl ?_
   have ho65 := Bm h46 hnx43
   exact .inl ⟨rfl, s24, F1, ho65, hs26, le27, fI⟩
 ·rintro f w34 ⟨s33, F2, rfl, hs35, le36, ⟨_, rfl⟩⟩
  have h66 := Cu h23
  refine Ac ?_
  refine Sq (Rg [0] ?_)
  refine Vs 1 ?_
  refine Nt ?_
  refine Rt ?_
  obtain rfl := Ab h66
  exact Re [(vi (-1))] hs35 rfl
def Bi (N : Nat) (x0 : Aa) : Option (Af ⊕ Aa) :=
 ((idx x0.l_ 0).bind fun x21 => (((AD N x0 ([40] : SZ)).bind fun r45 => (bif r45 then some (x0.open_ == 32) else some false)).bind fun j38 => (bif j38 then ((AU N x0 2 x21.at_).bind fun r58 => sk r58 (fun b63 => some (.inl b63)) (fun r61 => none)) else ((AH N x0 ([40] : SZ)).bind fun r69 => sk r69 (fun b81 => some (.inl b81)) (fun r72 => some (.inr ({ l_ := r72.l_, open_ := (W64 (r72.open_ + 1)) } : Aa)))))))
theorem Dp : Aq Tryz.prog 249 := fun _ _ => by kernel_rfl
theorem DX (N : Nat) {wb w0 : World} {Fb F0 : Mem} {Lf : Own} (bp0 : Nat) (x0 : Aa) (a0_0 : S0) (n0_0 : Nat) (hb0_0 : LC x0.l_.length n0_0) (hs0_0 : SlA Ag F0 a0_0 x0.l_) (hs0 : HS wb Fb w0 F0 ((sb bp0 (Ad x0 a0_0 n0_0) 100) :: Lf)) (r : (Af ⊕ Aa)) (h : Bi N x0 = some r) :
  Calls Tryz.prog 249 ([(pt bp0 0)] : List Value).toArray w0 (BK wb Fb F0 Lf r (fun b => (.iface 158 (.agg (AK b)))) fun a F' v L' => ∃ (aq0_0 : S0) (nq0_0 : Nat), v = (.tuple #[]) /\ L' = (sb bp0 (Ad a aq0_0 nq0_0) 100) :: Lf /\ LC a.l_.length nq0_0 /\ SlA Ag F' aq0_0 a.l_) := by
 refine Go 31 Tryz.func249 ?_
 refine Sq ?_
 refine Sq (Rg [0, 1, 2, 3, 4, 5, 6, 7] ?_)
 refine Vs 3 ?_
 refine Ld hs0.at0 ?_
 obtain ⟨x21, hx22, h24⟩ := bind_some h
 obtain ⟨hi23, hx22'⟩ := Aw hx22
 obtain ⟨b25, o26, C27, E28, fz29, rfl, hF31, hE32⟩ := SQ hs0_0 hx22'
 have hc34 := hE32 _ _ hx22'
 refine Ix hi23 ?_
 refine Vs 1 ?_
 refine Lx 1 (hs0.pers _ _ hF31) hc34 ?_
 refine Vs 1 ?_
 refine Nss (Rg [0, 1, 2, 3, 4, 5, 6, 7, 8] ?_)
 obtain ⟨j38, hj43, h44⟩ := bind_some h24
 refine SM (fun f w => ∃ (F1 : Mem), HS wb Fb w F1 ((sb bp0 (Ad x0 (some ⟨b25, o26, none⟩) n0_0) 100) :: Lf) /\ SG F0 F1 /\ FI f [] [(0, (pt bp0 0)), (2, (vi x21.at_)), (18, (.bool j38))]) ?_ ?_
 ·refine Vs 1 ?_
  obtain ⟨r45, hr46, h47⟩ := bind_some hj43
  refine CB B9 (Ce N bp0 x0 (some ⟨b25, o26, none⟩) n0_0 hb0_0 hs0_0 (([40] : SZ)) hs0 _ hr46) ?_
  rintro _ F2 w48 _ hs49 le50 ⟨rfl, rfl⟩
  refine Vs 1 ?_
  refine Sp h47 (fun hb52 h53 => ?_) (fun hb52 h54 => ?_)
  ·refine Vgs hb52 3 ?_
   refine Lg hb52 hs49.at0 ?_
   refine Vgs hb52 1 ?_
   refine Pk1 hb52 ?_
   obtain rfl := Ab h53
   exact SC ⟨rfl, F2, hs49, le50, fI⟩
  ·refine Ss hb52 5 ?_
   refine Pk0 hb52 ?_
   obtain rfl := Ab h54
   exact SC ⟨rfl, F2, hs49, le50, fI⟩
 ·rintro f w35 ⟨F1, hs36, le37, ⟨_, rfl⟩⟩
  refine Ac ?_
  refine Cd h44 (fun hb55 h56 => ?_) (fun hb55 h57 => ?_)
  ·refine Rg [0, 1, 2] ?_
   refine Vs 2 ?_
   obtain ⟨r58, hr59, h60⟩ := bind_some h56
   refine CP AM (AQ N bp0 x0 (some ⟨b25, o26, none⟩) n0_0 hb0_0 (SJ hs0_0 le37) 2 x21.at_ hs36 _ hr59) ?_ ?_
   ·rintro _ _ _ _ _ rfl _ _ _; cases hr59
   ·rintro b63 F4 w64 rfl hs65 le66
    have h67 := Bo h60
    refine An ?_
    obtain rfl := Ab h67
    exact Ch hs65 (le37.trans le66)
  ·refine Sc ?_
   refine Ac ?_
   refine Sq (Rg [0, 1] ?_)
   refine Vs 1 ?_
   obtain ⟨r69, hr70, h71⟩ := bind_some h57
   refine CP A2 (A5 N bp0 x0 (some ⟨b25, o26, none⟩) n0_0 hb0_0 (SJ hs0_0 le37) (([40] : SZ)) hs36 _ hr70) ?_ ?_
   ·rintro r72 _ F5 w74 _ rfl hs75 le76 ⟨ar72_0_0, nr72_0_0, rfl, rfl, hbr72_0_0, hsr72_0_0⟩
    have h78 := BU h71
    refine Nt ?_
    refine Rg [0, 1, 2, 3, 4, 5, 6, 7] ?_
    refine Vs 3 ?_
    refine Ld hs75.at0 ?_
    refine Vs 3 ?_
    refine St0 #[(.slice ar72_0_0 r72.l_.length nr72_0_0), (vi (W64 (r72.open_ + 1)))] hs75 (fun w79 hs80 => ?_)
    refine SC ?_
    obtain rfl := Ab h78
    exact ReP [] hs80 (le37.trans le76) ⟨ar72_0_0, nr72_0_0, rfl, rfl, hbr72_0_0, hsr72_0_0⟩
   ·rintro b81 F6 w82 rfl hs83 le84
    have h85 := Bo h71
    refine An ?_
    obtain rfl := Ab h85
    exact Ch hs83 (le37.trans le84)
def Bh (N : Nat) (x0 : Aa) : Option (Af ⊕ Aa) :=
 ((AH N x0 ([41] : SZ)).bind fun r21 => sk r21 (fun b33 => some (.inl b33)) (fun r24 => some (.inr ({ l_ := r24.l_, open_ := (W64 (r24.open_ - 1)) } : Aa))))
theorem Do : Aq Tryz.prog 250 := fun _ _ => by kernel_rfl
theorem DW (N : Nat) {wb w0 : World} {Fb F0 : Mem} {Lf : Own} (bp0 : Nat) (x0 : Aa) (a0_0 : S0) (n0_0 : Nat) (hb0_0 : LC x0.l_.length n0_0) (hs0_0 : SlA Ag F0 a0_0 x0.l_) (hs0 : HS wb Fb w0 F0 ((sb bp0 (Ad x0 a0_0 n0_0) 100) :: Lf)) (r : (Af ⊕ Aa)) (h : Bh N x0 = some r) :
  Calls Tryz.prog 250 ([(pt bp0 0)] : List Value).toArray w0 (BK wb Fb F0 Lf r (fun b => (.iface 158 (.agg (AK b)))) fun a F' v L' => ∃ (aq0_0 : S0) (nq0_0 : Nat), v = (.tuple #[]) /\ L' = (sb bp0 (Ad a aq0_0 nq0_0) 100) :: Lf /\ LC a.l_.length nq0_0 /\ SlA Ag F' aq0_0 a.l_) := by
 refine Go 11 Tryz.func250 ?_
 refine Sq (Rg [0, 1] ?_)
 refine Vs 1 ?_
 obtain ⟨r21, hr22, h23⟩ := bind_some h
 refine CP A2 (A5 N bp0 x0 a0_0 n0_0 hb0_0 hs0_0 (([41] : SZ)) hs0 _ hr22) ?_ ?_
 ·rintro r24 _ F1 w26 _ rfl hs27 le28 ⟨ar24_0_0, nr24_0_0, rfl, rfl, hbr24_0_0, hsr24_0_0⟩
  have h30 := BU h23
  refine Nt ?_
  refine Rg [0, 1, 2, 3, 4, 5, 6, 7] ?_
  refine Vs 3 ?_
  refine Ld hs27.at0 ?_
  refine Vs 3 ?_
  refine St0 #[(.slice ar24_0_0 r24.l_.length nr24_0_0), (vi (W64 (r24.open_ - 1)))] hs27 (fun w31 hs32 => ?_)
  refine SC ?_
  obtain rfl := Ab h30
  exact ReP [] hs32 le28 ⟨ar24_0_0, nr24_0_0, rfl, rfl, hbr24_0_0, hsr24_0_0⟩
 ·rintro b33 F2 w34 rfl hs35 le36
  have h37 := Bo h23
  refine An ?_
  obtain rfl := Ab h37
  exact Ch hs35 le36
end Go.Proofs.YtaihlcdkcampbaaGreatDoor
