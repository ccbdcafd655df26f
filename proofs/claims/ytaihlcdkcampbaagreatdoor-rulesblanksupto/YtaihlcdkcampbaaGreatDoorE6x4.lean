/- Lemmas of the claim RulesBlanksUpto, printed by a program of the claimant and by hand. No statement of the seat is proved here. -/
import Derived.Test.YtaihlcdkcampbaaGreatDoorE6x3
set_option linter.unusedVariables false
set_option linter.unusedSimpArgs false
set_option linter.unusedSectionVars false
set_option maxHeartbeats 4000000
set_option maxRecDepth 100000
namespace Go.Proofs.YtaihlcdkcampbaaGreatDoor
def Bc (N : Nat) (sR145 : Aa -> Option (Af ⊕ (Aa × Expr))) (x0 : Aa) : Option (Af ⊕ (Aa × Expr)) :=
 ((idx x0.l_ 0).bind fun x24 => (((EK N ).bind fun r56 => ((Bp N r56 x24.text_).bind fun r64 => some r64)).bind fun j48 => (bif (x24.kind_ == 1) then ((Cj N x24.text_).bind fun r75 => (bif (r75.2 || ((decide ((x24.text_.length : Int) > 7)) || (decide (r75.1 > 1000000)))) then ((AU N x0 60 x24.at_).bind fun r97 => sk r97 (fun b102 => some (.inl b102)) (fun r100 => none)) else ((sub x0.l_ 1 (x0.l_.length : Int)).bind fun r108 => some (.inr (({ l_ := r108, open_ := x0.open_ } : Aa), ({ Op := 1, Value := r75.1, Kids := ([] : List Expr) } : Expr)))))) else (bif ((x24.kind_ == 2) && (decide (j48 >= 0))) then ((sub x0.l_ 1 (x0.l_.length : Int)).bind fun r133 => some (.inr (({ l_ := r133, open_ := x0.open_ } : Aa), ({ Op := 2, Value := j48, Kids := ([] : List Expr) } : Expr)))) else ((Ap N x0 ([105, 102] : SZ)).bind fun r145 => (bif r145.2 then ((Bi N r145.1).bind fun r155 => sk r155 (fun b291 => some (.inl b291)) (fun r158 => ((sR145 r158).bind fun r165 => sk r165 (fun b285 => some (.inl b285)) (fun r168 => ((AH N r168.1 ([44] : SZ)).bind fun r180 => sk r180 (fun b279 => some (.inl b279)) (fun r183 => ((sR145 r183).bind fun r190 => sk r190 (fun b273 => some (.inl b273)) (fun r193 => ((AH N r193.1 ([44] : SZ)).bind fun r206 => sk r206 (fun b267 => some (.inl b267)) (fun r209 => ((sR145 r209).bind fun r216 => sk r216 (fun b261 => some (.inl b261)) (fun r219 => ((Bh N r219.1).bind fun r232 => sk r232 (fun b254 => some (.inl b254)) (fun r235 => some (.inr (r235, ({ Op := 11, Value := 0, Kids := [r168.2, r193.2, r219.2] } : Expr))))))))))))))))) else ((AD N r145.1 ([40] : SZ)).bind fun r297 => (bif r297 then ((Bi N r145.1).bind fun r307 => sk r307 (fun b356 => some (.inl b356)) (fun r310 => ((sR145 r310).bind fun r317 => sk r317 (fun b350 => some (.inl b350)) (fun r320 => ((Bh N r320.1).bind fun r332 => sk r332 (fun b344 => some (.inl b344)) (fun r335 => some (.inr (r335, r320.2)))))))) else ((AU N r145.1 60 x24.at_).bind fun r362 => sk r362 (fun b367 => some (.inl b367)) (fun r365 => none))))))))))
theorem GE (N : Nat) (sR145 : Aa -> Option (Af ⊕ (Aa × Expr))) (hsR145 : L8 sR145) {wb w0 : World} {Fb F0 : Mem} {Lf : Own} (hG : CA F0) (bp0 : Nat) (x0 : Aa) (a0_0 : S0) (n0_0 : Nat) (hb0_0 : LC x0.l_.length n0_0) (hs0_0 : SlA Ag F0 a0_0 x0.l_) (hs0 : HS wb Fb w0 F0 ((sb bp0 (Ad x0 a0_0 n0_0) 100) :: Lf)) (r : (Af ⊕ (Aa × Expr))) (h : Bc N sR145 x0 = some r) :
  Calls Tryz.prog 243 ([(pt bp0 0)] : List Value).toArray w0 (BK wb Fb F0 Lf r (fun b => (.iface 158 (.agg (AK b)))) fun a F' v L' => ∃ (aq0_0 : S0) (nq0_0 : Nat) (aq1_2 : S0) (nq1_2 : Nat), v = (.agg (Ai a.2 aq1_2 nq1_2)) /\ L' = (sb bp0 (Ad a.1 aq0_0 nq0_0) 100) :: Lf /\ LC a.1.l_.length nq0_0 /\ SlA Ag F' aq0_0 a.1.l_ /\ LC a.2.Kids.length nq1_2 /\ SlA Ar F' aq1_2 a.2.Kids) := by
 refine Go 112 Tryz.func243 ?_
 refine Sq (Rg [0] ?_)
 refine Al' 33 #[(vi 0), (vi 0), (.slice none ([] : List Expr).length 0)] hs0 (fun b21 w22 hs23 => ?_)
 refine Nss (Rg [0, 1, 2, 3, 4, 5, 6, 7] ?_)
 refine Vs 3 ?_
 refine Ld hs23.at1 ?_
 obtain ⟨x24, hx25, h27⟩ := bind_some h
 obtain ⟨hi26, hx25'⟩ := Aw hx25
 obtain ⟨b28, o29, C30, E31, fz32, rfl, hF34, hE35⟩ := SQ hs0_0 hx25'
 have hc37 := hE35 _ _ hx25'
 refine Ix hi26 ?_
 refine Lx 0 (hs23.pers _ _ hF34) hc37 ?_
 refine Al' 97 #[(vi 0), (vi 0), (.string ⟨(([] : SZ)).toArray⟩)] hs23 (fun b38 w39 hs40 => ?_)
 refine St0 (Ba x24) hs40 (fun w41 hs42 => ?_)
 refine Nss ?_
 refine Sq ?_
 obtain ⟨j48, hj54, h55⟩ := bind_some h27
 refine RD 5 5 [(sb b38 (Ba x24) 97), (sb b21 #[(vi 0), (vi 0), (.slice none ([] : List Expr).length 0)] 33), (sb bp0 (Ad x0 (some ⟨b28, o29, none⟩) n0_0) 100)] [] hs42 (fun f w => ∃ (F1 : Mem), HS wb Fb w F1 ((sb b38 (Ba x24) 97) :: (sb b21 #[(vi 0), (vi 0), (.slice none ([] : List Expr).length 0)] 33) :: (sb bp0 (Ad x0 (some ⟨b28, o29, none⟩) n0_0) 100) :: Lf) /\ SG F0 F1 /\ FI f [] [(0, (pt bp0 0)), (2, (pt b21 0)), (3, (pt b38 0)), (4, (vi j48))]) (fun wd43 hw44 => ?_) ?_
 ·refine Dv [1] ?_
  refine Dl 2 (fun _ hq => (hq.1.2 0 _ _ rfl)) ?_
  refine D1 0 ?_
  obtain ⟨r56, hr57, h58⟩ := bind_some hj54
  refine DCl Gu hw44 (He N wd43 F0 hw44.pers  _ hr57) ?_
  rintro _ F2 w60 hs61 le62 ⟨ar56_0_0, nr56_0_0, rfl, hbr56_0_0, hsr56_0_0⟩
  refine D1 3 ?_
  obtain ⟨r64, hr65, h66⟩ := bind_some h58
  refine DCl DT hs61 (D4 N w60 F2 hs61.pers r56 ar56_0_0 nr56_0_0 hbr56_0_0 hsr56_0_0 x24.text_ _ hr65) ?_
  rintro _ F3 w68 hs69 le70 rfl
  refine Dv [4] ?_
  obtain rfl := Ab h66
  exact SV (by kernel_rfl) ⟨F3, hs69, (le62.trans le70), fI⟩
 ·rintro f w45 ⟨F1, hs46, le47, ⟨_, rfl⟩⟩
  refine Ac ?_
  refine Bk ?_
  refine Sq (Rg [0, 1, 2, 3] ?_)
  refine Vs 1 ?_
  refine Ld hs46.at0 ?_
  refine Vs 2 ?_
  refine Nt ?_
  refine Cd h55 (fun hb72 h73 => ?_) (fun hb72 h74 => ?_)
  ·refine Sq (Rg [0, 1, 2, 3, 4, 5, 6, 7] ?_)
   refine Vs 1 ?_
   refine Ld hs46.at0 ?_
   obtain ⟨r75, hr76, h77⟩ := bind_some h73
   refine Cl' Jz hs46 (Kx N w45 F1 hs46.pers (hG.mono le47) x24.text_ _ hr76) ?_
   rintro _ F4 w79 hs80 le81 ⟨vr75_1_0, rfl, her75_1_0⟩
   refine Vs 5 ?_
   refine Nss ?_
   refine Sq (Rg [0, 1, 2, 3, 4, 5, 6, 7, 8, 9, 10, 11] ?_)
   refine SM (fun f w => ∃ (F5 : Mem), HS wb Fb w F5 ((sb b38 (Ba x24) 97) :: (sb b21 #[(vi 0), (vi 0), (.slice none ([] : List Expr).length 0)] 33) :: (sb bp0 (Ad x0 (some ⟨b28, o29, none⟩) n0_0) 100) :: Lf) /\ SG F4 F5 /\ FI f [] [(0, (pt bp0 0)), (2, (pt b21 0)), (3, (pt b38 0)), (5, (vi r75.1)), (42, (.bool (r75.2 || ((decide ((x24.text_.length : Int) > 7)) || (decide (r75.1 > 1000000))))))]) ?_ ?_
   ·refine Vs 1 ?_
    refine V 32 4 (Hk (t := 134) (t' := 134) (x := (.tmp 31)) (c := .nilIface) her75_1_0 rfl rfl (by kernel_rfl)) ?_
    refine Vs 1 ?_
    refine SL r75.2 (fun hb92 => ?_) (fun hb92 => ?_)
    ·refine Ss hb92 4 ?_
     refine Pk1 hb92 ?_
     refine Vs 1 ?_
     refine Ss (rfl : true = true) 2 ?_
     refine Pk1 (rfl : true = true) ?_
     exact SC ⟨rfl, F4, hs80, (SH _), (fJ ⟨rfl, rfl, rfl, rfl, (congrArg Value.bool (FQ hb92 rfl)), trivial⟩)⟩
    ·refine Vgs hb92 1 ?_
     refine Lg hb92 hs80.at0 ?_
     refine Vgs hb92 2 ?_
     refine Pk0 hb92 ?_
     refine Vs 1 ?_
     refine SL (decide ((x24.text_.length : Int) > 7)) (fun hb93 => ?_) (fun hb93 => ?_)
     ·refine Ss hb93 2 ?_
      refine Pk1 hb93 ?_
      exact SC ⟨rfl, F4, hs80, (SH _), (fJ ⟨rfl, rfl, rfl, rfl, (congrArg Value.bool (B5 hb92 (FQ hb93 rfl))), trivial⟩)⟩
     ·refine Vgs hb93 2 ?_
      refine Pk0 hb93 ?_
      exact SC ⟨rfl, F4, hs80, (SH _), (fJ ⟨rfl, rfl, rfl, rfl, (congrArg Value.bool (B5 hb92 (B5 hb93 rfl))), trivial⟩)⟩
   ·rintro f w83 ⟨F5, hs84, le85, ⟨_, rfl⟩⟩
    refine Ac ?_
    refine Cd h77 (fun hb94 h95 => ?_) (fun hb94 h96 => ?_)
    ·refine Rg [0, 1, 2, 3] ?_
     refine Vs 2 ?_
     refine Ld hs84.at0 ?_
     obtain ⟨r97, hr98, h99⟩ := bind_some h95
     refine CP AM (AQ N bp0 x0 (some ⟨b28, o29, none⟩) n0_0 hb0_0 (SJ hs0_0 ((le47.trans le81).trans le85)) 60 x24.at_ hs84.pk1.pk1.pk2 _ hr98) ?_ ?_
     ·rintro _ _ _ _ _ rfl _ _ _; cases hr98
     ·rintro b102 F7 w103 rfl hs104 le105
      have h106 := Bo h99
      refine An ?_
      refine AP ?_
      refine An ?_
      obtain rfl := Ab h106
      exact Ch hs104.dr0.dr0 (((le47.trans le81).trans le85).trans le105)
    ·refine Sc ?_
     refine Ac ?_
     refine Sq (Rg [0, 1, 2, 3, 4, 5, 6, 7, 8] ?_)
     refine Vs 4 ?_
     refine Ld hs84.at2 ?_
     obtain ⟨r108, hr109, h110⟩ := bind_some h96
     obtain ⟨a111, n112, hb113, hs114, hrun115⟩ := J6 (P := Tryz.prog) (T := Ag) (lo := (some (.const (vi 1)))) (hi := none) (mx := none) (t := 98) (E := 97) (by_ := 32) (c := n0_0) (a := (some ⟨b28, o29, none⟩)) (l := x0.l_) (r := r108) (il := 1) (ih := (x0.l_.length : Int)) (im := 0) (by kernel_rfl) (by kernel_rfl) hb0_0 (SJ hs0_0 ((le47.trans le81).trans le85)) (fun h => by first | rfl | cases h) hr109
     refine V 52 98 (hrun115 (x := (.tmp 51)) rfl rfl rfl trivial) ?_
     refine Vs 2 ?_
     refine St2 #[(.slice a111 r108.length n112), (vi x0.open_)] hs84 (fun w116 hs117 => ?_)
     refine Nss (Rg [0, 1, 2] ?_)
     refine Vs 2 ?_
     refine St1 #[(vi 1), (vi r75.1), (.slice none ([] : List Expr).length 0)] hs117 (fun w118 hs119 => ?_)
     refine Nt ?_
     refine Rt ?_
     refine Al ?_
     refine Aj ?_
     obtain rfl := Ab h110
     exact ⟨rfl, (.agg #[(vi 1), (vi r75.1), (.slice none ([] : List Expr).length 0)]), AB (l := [.cell 2 33]) (by kernel_rfl) (vs := [(.agg #[(vi 1), (vi r75.1), (.slice none ([] : List Expr).length 0)])]) ⟨b21, 0, rfl, Ak (t := 33) (g := true) (s := 3) (by kernel_rfl) hs119.at1 rfl (by decide), trivial⟩, .inl ⟨_, F5, _, _, rfl, rfl, hs119.dr0.dr0, ((le47.trans le81).trans le85), ⟨a111, n112, none, 0, rfl, rfl, hb113, hs114, SK, (.inl rfl)⟩⟩⟩
  ·refine Sq (Rg [0, 1, 2, 3, 4, 5, 6, 7] ?_)
   refine SM (fun f w => ∃ (F8 : Mem), HS wb Fb w F8 ((sb b38 (Ba x24) 97) :: (sb b21 #[(vi 0), (vi 0), (.slice none ([] : List Expr).length 0)] 33) :: (sb bp0 (Ad x0 (some ⟨b28, o29, none⟩) n0_0) 100) :: Lf) /\ SG F1 F8 /\ FI f [] [(0, (pt bp0 0)), (2, (pt b21 0)), (3, (pt b38 0)), (4, (vi j48)), (57, (.bool ((x24.kind_ == 2) && (decide (j48 >= 0)))))]) ?_ ?_
   ·refine Vs 1 ?_
    refine Ld hs46.at0 ?_
    refine Vs 2 ?_
    refine SL (x24.kind_ == 2) (fun hb129 => ?_) (fun hb129 => ?_)
    ·refine Vgs hb129 2 ?_
     refine Pk1 hb129 ?_
     refine Vs 1 ?_
     exact SC ⟨rfl, F1, hs46, (SH _), (fJ ⟨rfl, rfl, rfl, rfl, (congrArg Value.bool (D0 hb129 rfl)), trivial⟩)⟩
    ·refine Ss hb129 2 ?_
     refine Pk0 hb129 ?_
     refine Vs 1 ?_
     exact SC ⟨rfl, F1, hs46, (SH _), (fJ ⟨rfl, rfl, rfl, rfl, (congrArg Value.bool (GI hb129 rfl)), trivial⟩)⟩
   ·rintro f w120 ⟨F8, hs121, le122, ⟨_, rfl⟩⟩
    refine Ac ?_
    refine Cd h74 (fun hb130 h131 => ?_) (fun hb130 h132 => ?_)
    ·refine Sq (Rg [0, 1, 2, 3, 4, 5, 6, 7, 8] ?_)
     refine Vs 4 ?_
     refine Ld hs121.at2 ?_
     obtain ⟨r133, hr134, h135⟩ := bind_some h131
     obtain ⟨a136, n137, hb138, hs139, hrun140⟩ := J6 (P := Tryz.prog) (T := Ag) (lo := (some (.const (vi 1)))) (hi := none) (mx := none) (t := 98) (E := 97) (by_ := 32) (c := n0_0) (a := (some ⟨b28, o29, none⟩)) (l := x0.l_) (r := r133) (il := 1) (ih := (x0.l_.length : Int)) (im := 0) (by kernel_rfl) (by kernel_rfl) hb0_0 (SJ hs0_0 (le47.trans le122)) (fun h => by first | rfl | cases h) hr134
     refine V 70 98 (hrun140 (x := (.tmp 69)) rfl rfl rfl trivial) ?_
     refine Vs 2 ?_
     refine St2 #[(.slice a136 r133.length n137), (vi x0.open_)] hs121 (fun w141 hs142 => ?_)
     refine Nss (Rg [0, 1, 2] ?_)
     refine Vs 2 ?_
     refine St1 #[(vi 2), (vi j48), (.slice none ([] : List Expr).length 0)] hs142 (fun w143 hs144 => ?_)
     refine Nt ?_
     refine Rt ?_
     refine Al ?_
     refine Aj ?_
     obtain rfl := Ab h135
     exact ⟨rfl, (.agg #[(vi 2), (vi j48), (.slice none ([] : List Expr).length 0)]), AB (l := [.cell 2 33]) (by kernel_rfl) (vs := [(.agg #[(vi 2), (vi j48), (.slice none ([] : List Expr).length 0)])]) ⟨b21, 0, rfl, Ak (t := 33) (g := true) (s := 3) (by kernel_rfl) hs144.at1 rfl (by decide), trivial⟩, .inl ⟨_, F8, _, _, rfl, rfl, hs144.dr0.dr0, (le47.trans le122), ⟨a136, n137, none, 0, rfl, rfl, hb138, hs139, SK, (.inl rfl)⟩⟩⟩
    ·refine Sq (Rg [0, 1, 2] ?_)
     refine Vs 1 ?_
     obtain ⟨r145, hr146, h147⟩ := bind_some h132
     refine CB AG (AJ N bp0 x0 (some ⟨b28, o29, none⟩) n0_0 hb0_0 (SJ hs0_0 (le47.trans le122)) (([105, 102] : SZ)) hs121.pk1.pk1.pk2 _ hr146) ?_
     rintro _ F9 w148 _ hs149 le150 ⟨ar145_0_0, nr145_0_0, rfl, rfl, hbr145_0_0, hsr145_0_0⟩
     refine Vs 1 ?_
     refine Nt ?_
     refine Cd h147 (fun hb152 h153 => ?_) (fun hb152 h154 => ?_)
     ·refine Sq (Rg [0, 1] ?_)
      refine Vs 1 ?_
      obtain ⟨r155, hr156, h157⟩ := bind_some h153
      refine CP Dp (DX N bp0 r145.1 ar145_0_0 nr145_0_0 hbr145_0_0 hsr145_0_0 hs149 _ hr156) ?_ ?_
      ·rintro r158 _ F10 w160 _ rfl hs161 le162 ⟨ar158_0_0, nr158_0_0, rfl, rfl, hbr158_0_0, hsr158_0_0⟩
       have h164 := BU h157
       refine Nss (Rg [0, 1, 2, 3] ?_)
       refine Vs 1 ?_
       obtain ⟨r165, hr166, h167⟩ := bind_some h164
       refine CP BJ (hsR145 (hG.mono (((le47.trans le122).trans le150).trans le162)) bp0 r158 ar158_0_0 nr158_0_0 hbr158_0_0 hsr158_0_0 hs161 _ hr166) ?_ ?_
       ·rintro r168 _ F11 w170 _ rfl hs171 le172 ⟨ar168_0_0, nr168_0_0, ar168_1_2, nr168_1_2, rfl, rfl, hbr168_0_0, hsr168_0_0, hbr168_1_2, hsr168_1_2⟩
        have h174 := BU h167
        refine Al' 33 #[(vi 0), (vi 0), (.slice none ([] : List Expr).length 0)] hs171 (fun b175 w176 hs177 => ?_)
        refine St0 (Ai r168.2 ar168_1_2 nr168_1_2) hs177 (fun w178 hs179 => ?_)
        refine Nss (Rg [0, 1] ?_)
        refine Vs 1 ?_
        obtain ⟨r180, hr181, h182⟩ := bind_some h174
        refine CP A2 (A5 N bp0 r168.1 ar168_0_0 nr168_0_0 hbr168_0_0 hsr168_0_0 (([44] : SZ)) hs179.pk3.pk3.pk2.pk3 _ hr181) ?_ ?_
        ·rintro r183 _ F12 w185 _ rfl hs186 le187 ⟨ar183_0_0, nr183_0_0, rfl, rfl, hbr183_0_0, hsr183_0_0⟩
         have h189 := BU h182
         refine Nss (Rg [0, 1, 2, 3] ?_)
         refine Vs 1 ?_
         obtain ⟨r190, hr191, h192⟩ := bind_some h189
         refine CP BJ (hsR145 (hG.mono (((((le47.trans le122).trans le150).trans le162).trans le172).trans le187)) bp0 r183 ar183_0_0 nr183_0_0 hbr183_0_0 hsr183_0_0 hs186 _ hr191) ?_ ?_
         ·rintro r193 _ F13 w195 _ rfl hs196 le197 ⟨ar193_0_0, nr193_0_0, ar193_1_2, nr193_1_2, rfl, rfl, hbr193_0_0, hsr193_0_0, hbr193_1_2, hsr193_1_2⟩
          have h199 := BU h192
          refine Al' 33 #[(vi 0), (vi 0), (.slice none ([] : List Expr).length 0)] hs196 (fun b200 w201 hs202 => ?_)
          refine St0 (Ai r193.2 ar193_1_2 nr193_1_2) hs202 (fun w203 hs204 => ?_)
          refine Nss (Rg [0, 1] ?_)
          refine Vs 1 ?_
          have hs205 := hs204.pk4.pk4.pk4.pk3.pk4
          obtain ⟨r206, hr207, h208⟩ := bind_some h199
          refine CP A2 (A5 N bp0 r193.1 ar193_0_0 nr193_0_0 hbr193_0_0 hsr193_0_0 (([44] : SZ)) hs205 _ hr207) ?_ ?_
          ·rintro r209 _ F14 w211 _ rfl hs212 le213 ⟨ar209_0_0, nr209_0_0, rfl, rfl, hbr209_0_0, hsr209_0_0⟩
           have h215 := BU h208
           refine Nss (Rg [0, 1, 2, 3] ?_)
           refine Vs 1 ?_
           obtain ⟨r216, hr217, h218⟩ := bind_some h215
           refine CP BJ (hsR145 (hG.mono (((((((le47.trans le122).trans le150).trans le162).trans le172).trans le187).trans le197).trans le213)) bp0 r209 ar209_0_0 nr209_0_0 hbr209_0_0 hsr209_0_0 hs212 _ hr217) ?_ ?_
           ·rintro r219 _ F15 w221 _ rfl hs222 le223 ⟨ar219_0_0, nr219_0_0, ar219_1_2, nr219_1_2, rfl, rfl, hbr219_0_0, hsr219_0_0, hbr219_1_2, hsr219_1_2⟩
            have h225 := BU h218
            refine Al' 33 #[(vi 0), (vi 0), (.slice none ([] : List Expr).length 0)] hs222 (fun b226 w227 hs228 => ?_)
            refine St0 (Ai r219.2 ar219_1_2 nr219_1_2) hs228 (fun w229 hs230 => ?_)
            refine Nss (Rg [0, 1] ?_)
            refine Vs 1 ?_
            have hs231 := hs230.pk5.pk5.pk5.pk5.pk4
            obtain ⟨r232, hr233, h234⟩ := bind_some h225
            refine CP Do (DW N bp0 r219.1 ar219_0_0 nr219_0_0 hbr219_0_0 hsr219_0_0 hs231.pk5 _ hr233) ?_ ?_
            ·rintro r235 _ F16 w237 _ rfl hs238 le239 ⟨ar235_0_0, nr235_0_0, rfl, rfl, hbr235_0_0, hsr235_0_0⟩
             have h241 := BU h234
             refine Nss (Rg [0, 1, 2, 3, 4, 5] ?_)
             refine Ld hs238.at3 ?_
             refine Ld hs238.at2 ?_
             refine Ld hs238.at1 ?_
             refine Bs 33 [(vi r168.2.Op), (vi r168.2.Value), (.slice ar168_1_2 r168.2.Kids.length nr168_1_2), (vi r193.2.Op), (vi r193.2.Value), (.slice ar193_1_2 r193.2.Kids.length nr193_1_2), (vi r219.2.Op), (vi r219.2.Value), (.slice ar219_1_2 r219.2.Kids.length nr219_1_2)] hs238 (fun b242 w243 hs244 => ?_)
             have hr246 : Av Ar 33 F16 (some ⟨b242, 0, none⟩) 3 [r168.2, r193.2, r219.2] (some b242, .cells ([(vi r168.2.Op), (vi r168.2.Value), (.slice ar168_1_2 r168.2.Kids.length nr168_1_2), (vi r193.2.Op), (vi r193.2.Value), (.slice ar193_1_2 r193.2.Kids.length nr193_1_2), (vi r219.2.Op), (vi r219.2.Value), (.slice ar219_1_2 r219.2.Kids.length nr219_1_2)] : List Value).toArray 33 (0, 0)) := SX ⟨(A6 ⟨ar168_1_2, nr168_1_2, rfl, hbr168_1_2, (SJ hsr168_1_2 ((((le187.trans le197).trans le213).trans le223).trans le239))⟩), ⟨(A6 ⟨ar193_1_2, nr193_1_2, rfl, hbr193_1_2, (SJ hsr193_1_2 ((le213.trans le223).trans le239))⟩), ⟨(A6 ⟨ar219_1_2, nr219_1_2, rfl, hbr219_1_2, (SJ hsr219_1_2 le239)⟩), rfl⟩⟩⟩ (by simp)
             refine Vs 1 ?_
             refine St6 #[(vi 11), (vi 0), (.slice (some ⟨b242, 0, none⟩) [r168.2, r193.2, r219.2].length 3)] hs244 (fun w247 hs248 => ?_)
             refine Nt ?_
             refine Rt ?_
             refine Al ?_
             refine Aj ?_
             have hb252 := SW hr246
             obtain ⟨F17, hs249, le250, hs251⟩ := hs248.fr0 hr246
             have hs253 := hs249.dr1.dr1.dr1.dr1.dr1
             obtain rfl := Ab h241
             exact ⟨rfl, (.agg #[(vi 11), (vi 0), (.slice (some ⟨b242, 0, none⟩) [r168.2, r193.2, r219.2].length 3)]), AB (l := [.cell 2 33]) (by kernel_rfl) (vs := [(.agg #[(vi 11), (vi 0), (.slice (some ⟨b242, 0, none⟩) [r168.2, r193.2, r219.2].length 3)])]) ⟨b21, 0, rfl, Ak (t := 33) (g := true) (s := 3) (by kernel_rfl) hs249.at5 rfl (by decide), trivial⟩, .inl ⟨_, F17, _, _, rfl, rfl, hs253, ((((((((((le47.trans le122).trans le150).trans le162).trans le172).trans le187).trans le197).trans le213).trans le223).trans le239).trans le250), ⟨ar235_0_0, nr235_0_0, (some ⟨b242, 0, none⟩), 3, rfl, rfl, hbr235_0_0, (SJ hsr235_0_0 le250), hb252, hs251⟩⟩⟩
            ·rintro b254 F18 w255 rfl hs256 le257
             have h258 := Bo h234
             refine An ?_
             refine AP ?_
             refine An ?_
             have hs260 := hs256.dr0.dr0.dr0.dr0.dr0
             obtain rfl := Ab h258
             exact Ch hs260 (((((((((le47.trans le122).trans le150).trans le162).trans le172).trans le187).trans le197).trans le213).trans le223).trans le257)
           ·rintro b261 F19 w262 rfl hs263 le264
            have h265 := Bo h218
            refine An ?_
            refine AP ?_
            refine An ?_
            obtain rfl := Ab h265
            exact Ch hs263.dr0.dr0.dr0.dr0 ((((((((le47.trans le122).trans le150).trans le162).trans le172).trans le187).trans le197).trans le213).trans le264)
          ·rintro b267 F20 w268 rfl hs269 le270
           have h271 := Bo h208
           refine An ?_
           refine AP ?_
           refine An ?_
           obtain rfl := Ab h271
           exact Ch hs269.dr0.dr0.dr0.dr0 (((((((le47.trans le122).trans le150).trans le162).trans le172).trans le187).trans le197).trans le270)
         ·rintro b273 F21 w274 rfl hs275 le276
          have h277 := Bo h192
          refine An ?_
          refine AP ?_
          refine An ?_
          obtain rfl := Ab h277
          exact Ch hs275.dr0.dr0.dr0 ((((((le47.trans le122).trans le150).trans le162).trans le172).trans le187).trans le276)
        ·rintro b279 F22 w280 rfl hs281 le282
         have h283 := Bo h182
         refine An ?_
         refine AP ?_
         refine An ?_
         obtain rfl := Ab h283
         exact Ch hs281.dr0.dr0.dr0 (((((le47.trans le122).trans le150).trans le162).trans le172).trans le282)
       ·rintro b285 F23 w286 rfl hs287 le288
        have h289 := Bo h167
        refine An ?_
        refine AP ?_
        refine An ?_
        obtain rfl := Ab h289
        exact Ch hs287.dr0.dr0 ((((le47.trans le122).trans le150).trans le162).trans le288)
      ·rintro b291 F24 w292 rfl hs293 le294
       have h295 := Bo h157
       refine An ?_
       refine AP ?_
       refine An ?_
       obtain rfl := Ab h295
       exact Ch hs293.dr0.dr0 (((le47.trans le122).trans le150).trans le294)
     ·refine Sq (Rg [0, 1, 2] ?_)
      refine Vs 1 ?_
      obtain ⟨r297, hr298, h299⟩ := bind_some h154
      refine CB B9 (Ce N bp0 r145.1 ar145_0_0 nr145_0_0 hbr145_0_0 hsr145_0_0 (([40] : SZ)) hs149 _ hr298) ?_
      rintro _ F25 w300 _ hs301 le302 ⟨rfl, rfl⟩
      refine Vs 1 ?_
      refine Nt ?_
      refine Cd h299 (fun hb304 h305 => ?_) (fun hb304 h306 => ?_)
      ·refine Sq (Rg [0, 1] ?_)
       refine Vs 1 ?_
       obtain ⟨r307, hr308, h309⟩ := bind_some h305
       refine CP Dp (DX N bp0 r145.1 ar145_0_0 nr145_0_0 hbr145_0_0 (SJ hsr145_0_0 le302) hs301 _ hr308) ?_ ?_
       ·rintro r310 _ F26 w312 _ rfl hs313 le314 ⟨ar310_0_0, nr310_0_0, rfl, rfl, hbr310_0_0, hsr310_0_0⟩
        have h316 := BU h309
        refine Nss (Rg [0, 1, 2, 3] ?_)
        refine Vs 1 ?_
        obtain ⟨r317, hr318, h319⟩ := bind_some h316
        refine CP BJ (hsR145 (hG.mono ((((le47.trans le122).trans le150).trans le302).trans le314)) bp0 r310 ar310_0_0 nr310_0_0 hbr310_0_0 hsr310_0_0 hs313 _ hr318) ?_ ?_
        ·rintro r320 _ F27 w322 _ rfl hs323 le324 ⟨ar320_0_0, nr320_0_0, ar320_1_2, nr320_1_2, rfl, rfl, hbr320_0_0, hsr320_0_0, hbr320_1_2, hsr320_1_2⟩
         have h326 := BU h319
         refine Al' 33 #[(vi 0), (vi 0), (.slice none ([] : List Expr).length 0)] hs323 (fun b327 w328 hs329 => ?_)
         refine St0 (Ai r320.2 ar320_1_2 nr320_1_2) hs329 (fun w330 hs331 => ?_)
         refine Nss (Rg [0, 1] ?_)
         refine Vs 1 ?_
         obtain ⟨r332, hr333, h334⟩ := bind_some h326
         refine CP Do (DW N bp0 r320.1 ar320_0_0 nr320_0_0 hbr320_0_0 hsr320_0_0 hs331.pk3.pk3.pk2.pk3 _ hr333) ?_ ?_
         ·rintro r335 _ F28 w337 _ rfl hs338 le339 ⟨ar335_0_0, nr335_0_0, rfl, rfl, hbr335_0_0, hsr335_0_0⟩
          have h341 := BU h334
          refine Nss (Rg [0, 1] ?_)
          refine Ld hs338.at1 ?_
          refine St3 (Ai r320.2 ar320_1_2 nr320_1_2) hs338 (fun w342 hs343 => ?_)
          refine Nt ?_
          refine Rt ?_
          refine Al ?_
          refine Aj ?_
          obtain rfl := Ab h341
          exact ⟨rfl, (.agg (Ai r320.2 ar320_1_2 nr320_1_2)), AB (l := [.cell 2 33]) (by kernel_rfl) (vs := [(.agg (Ai r320.2 ar320_1_2 nr320_1_2))]) ⟨b21, 0, rfl, Ak (t := 33) (g := true) (s := 3) (by kernel_rfl) hs343.at3 rfl (by decide), trivial⟩, .inl ⟨_, F28, _, _, rfl, rfl, hs343.dr1.dr1.dr1, ((((((le47.trans le122).trans le150).trans le302).trans le314).trans le324).trans le339), ⟨ar335_0_0, nr335_0_0, ar320_1_2, nr320_1_2, rfl, rfl, hbr335_0_0, hsr335_0_0, hbr320_1_2, (SJ hsr320_1_2 le339)⟩⟩⟩
         ·rintro b344 F29 w345 rfl hs346 le347
          have h348 := Bo h334
          refine An ?_
          refine AP ?_
          refine An ?_
          obtain rfl := Ab h348
          exact Ch hs346.dr0.dr0.dr0 ((((((le47.trans le122).trans le150).trans le302).trans le314).trans le324).trans le347)
        ·rintro b350 F30 w351 rfl hs352 le353
         have h354 := Bo h319
         refine An ?_
         refine AP ?_
         refine An ?_
         obtain rfl := Ab h354
         exact Ch hs352.dr0.dr0 (((((le47.trans le122).trans le150).trans le302).trans le314).trans le353)
       ·rintro b356 F31 w357 rfl hs358 le359
        have h360 := Bo h309
        refine An ?_
        refine AP ?_
        refine An ?_
        obtain rfl := Ab h360
        exact Ch hs358.dr0.dr0 ((((le47.trans le122).trans le150).trans le302).trans le359)
      ·refine Sc ?_
       refine Ax ?_
       refine Ac ?_
       refine Sq (Rg [0, 1, 2, 3] ?_)
       refine Vs 2 ?_
       refine Ld hs301.at1 ?_
       obtain ⟨r362, hr363, h364⟩ := bind_some h306
       refine CP AM (AQ N bp0 r145.1 ar145_0_0 nr145_0_0 hbr145_0_0 (SJ hsr145_0_0 le302) 60 x24.at_ hs301 _ hr363) ?_ ?_
       ·rintro _ _ _ _ _ rfl _ _ _; cases hr363
       ·rintro b367 F33 w368 rfl hs369 le370
        have h371 := Bo h364
        refine An ?_
        obtain rfl := Ab h371
        exact Ch hs369.dr0.dr0 ((((le47.trans le122).trans le150).trans le302).trans le370)
structure Rr where
 q145 : Aa -> Option (Af ⊕ (Aa × Expr))
 q185 : Aa -> Option (Af ⊕ (Aa × Expr))
 q212 : Aa -> Option (Af ⊕ (Aa × Expr))
 q226 : Aa -> Option (Af ⊕ (Aa × Expr))
 q233 : Aa -> Option (Af ⊕ (Aa × Expr))
 q239 : Aa -> Option (Af ⊕ (Aa × Expr))
 q243 : Aa -> Option (Af ⊕ (Aa × Expr))
def AW (N : Nat) : Nat -> Rr
 | 0 => ⟨fun _ => none, fun _ => none, fun _ => none, fun _ => none, fun _ => none, fun _ => none, fun _ => none⟩
 | k + 1 => ⟨D9 N (AW N k).q185, Ea N (AW N k).q212, Bw N (AW N k).q212 (AW N k).q226, Bu N (AW N k).q233, Er N (AW N k).q239, D8 N (AW N k).q243, Bc N (AW N k).q145⟩
theorem Lb (N : Nat) : ∀ k, L8 (AW N k).q145 /\ L6 (AW N k).q185 /\ JP (AW N k).q212 /\ L3 (AW N k).q226 /\ L2 (AW N k).q233 /\ L1 (AW N k).q239 /\ L0 (AW N k).q243
 | 0 => ⟨(by unfold L8; intros; rename_i h; cases h), (by unfold L6; intros; rename_i h; cases h), (by unfold JP; intros; rename_i h; cases h), (by unfold L3; intros; rename_i h; cases h), (by unfold L2; intros; rename_i h; cases h), (by unfold L1; intros; rename_i h; cases h), (by unfold L0; intros; rename_i h; cases h)⟩
 | k + 1 => by
  have ih := Lb N k
  exact ⟨@GF N (AW N k).q185 ih.2.1, @GH N (AW N k).q212 ih.2.2.1, @GG N (AW N k).q212 ih.2.2.1 (AW N k).q226 ih.2.2.2.1, @GB N (AW N k).q233 ih.2.2.2.2.1, @GY N (AW N k).q239 ih.2.2.2.2.2.1, @GD N (AW N k).q243 ih.2.2.2.2.2.2, @GE N (AW N k).q145 ih.1⟩
def BN (N : Nat) (x0 : Aa) : Option (Af ⊕ (Aa × Expr)) := (AW N N).q145 x0
theorem GU (N : Nat) {wb w0 : World} {Fb F0 : Mem} {Lf : Own} (hG : CA F0) (bp0 : Nat) (x0 : Aa) (a0_0 : S0) (n0_0 : Nat) (hb0_0 : LC x0.l_.length n0_0) (hs0_0 : SlA Ag F0 a0_0 x0.l_) (hs0 : HS wb Fb w0 F0 ((some bp0, (.cells #[(.slice a0_0 x0.l_.length n0_0), (.int .i64 x0.open_)] 100 (0, 0))) :: Lf)) (r : (Af ⊕ (Aa × Expr))) (h : BN N x0 = some r) :
  Calls Tryz.prog 145 ([(.pointer (some ⟨bp0, 0, none⟩))] : List Value).toArray w0 (BK wb Fb F0 Lf r (fun b => (.iface 158 (.agg #[(.int .i64 b.e_), (.int .i64 b.at_)]))) fun a F' v L' => ∃ (aq0_0 : S0) (nq0_0 : Nat) (aq1_2 : S0) (nq1_2 : Nat), v = (.agg #[(.int .i64 a.2.Op), (.int .i64 a.2.Value), (.slice aq1_2 a.2.Kids.length nq1_2)]) /\ L' = (some bp0, (.cells #[(.slice aq0_0 a.1.l_.length nq0_0), (.int .i64 a.1.open_)] 100 (0, 0))) :: Lf /\ LC a.1.l_.length nq0_0 /\ SlA Ag F' aq0_0 a.1.l_ /\ LC a.2.Kids.length nq1_2 /\ SlA Ar F' aq1_2 a.2.Kids) := (Lb N N).1 hG bp0 x0 a0_0 n0_0 hb0_0 hs0_0 hs0 r h
def Bv (N : Nat) (x0 : Aa) : Option (Af ⊕ (Aa × Bt)) :=
 ((idx x0.l_ 0).bind fun x24 => ((BN N x0).bind fun r38 => sk r38 (fun b50 => some (.inl b50)) (fun r41 => some (.inr (r41.1, ({ Expr := r41.2, at_ := x24.at_ } : Bt))))))
theorem BV : Aq Tryz.prog 86 := fun _ _ => by kernel_rfl
theorem B3 (N : Nat) {wb w0 : World} {Fb F0 : Mem} {Lf : Own} (hG : CA F0) (bp0 : Nat) (x0 : Aa) (a0_0 : S0) (n0_0 : Nat) (hb0_0 : LC x0.l_.length n0_0) (hs0_0 : SlA Ag F0 a0_0 x0.l_) (hs0 : HS wb Fb w0 F0 ((sb bp0 (Ad x0 a0_0 n0_0) 100) :: Lf)) (r : (Af ⊕ (Aa × Bt))) (h : Bv N x0 = some r) :
  Calls Tryz.prog 86 ([(pt bp0 0)] : List Value).toArray w0 (BK wb Fb F0 Lf r (fun b => (.iface 158 (.agg (AK b)))) fun a F' v L' => ∃ (aq0_0 : S0) (nq0_0 : Nat) (aq1_2 : S0) (nq1_2 : Nat), v = (.agg (Au a.2 aq1_2 nq1_2)) /\ L' = (sb bp0 (Ad a.1 aq0_0 nq0_0) 100) :: Lf /\ LC a.1.l_.length nq0_0 /\ SlA Ag F' aq0_0 a.1.l_ /\ LC a.2.Expr.Kids.length nq1_2 /\ SlA Ar F' aq1_2 a.2.Expr.Kids) := by
 refine Go 15 Tryz.func86 ?_
 refine Sq (Rg [0] ?_)
 refine Al' 113 #[(vi 0), (vi 0), (.slice none ([] : List Expr).length 0), (vi 0)] hs0 (fun b21 w22 hs23 => ?_)
 refine Nss (Rg [0, 1, 2, 3, 4, 5, 6, 7] ?_)
 refine Vs 3 ?_
 refine Ld hs23.at1 ?_
 obtain ⟨x24, hx25, h27⟩ := bind_some h
 obtain ⟨hi26, hx25'⟩ := Aw hx25
 obtain ⟨b28, o29, C30, E31, fz32, rfl, hF34, hE35⟩ := SQ hs0_0 hx25'
 have hc37 := hE35 _ _ hx25'
 refine Ix hi26 ?_
 refine Vs 1 ?_
 refine Lx 1 (hs23.pers _ _ hF34) hc37 ?_
 refine Vs 1 ?_
 refine Nss (Rg [0, 1, 2, 3, 4] ?_)
 refine Vs 1 ?_
 obtain ⟨r38, hr39, h40⟩ := bind_some h27
 refine CP BJ (GU N hG bp0 x0 (some ⟨b28, o29, none⟩) n0_0 hb0_0 hs0_0 hs23.pk1 _ hr39) ?_ ?_
 ·rintro r41 _ F1 w43 _ rfl hs44 le45 ⟨ar41_0_0, nr41_0_0, ar41_1_2, nr41_1_2, rfl, rfl, hbr41_0_0, hsr41_0_0, hbr41_1_2, hsr41_1_2⟩
  have h47 := BU h40
  refine Vs 2 ?_
  refine St1 #[(vi r41.2.Op), (vi r41.2.Value), (.slice ar41_1_2 r41.2.Kids.length nr41_1_2), (vi x24.at_)] hs44 (fun w48 hs49 => ?_)
  refine Nt ?_
  refine Rt ?_
  obtain rfl := Ab h47
  exact ⟨rfl, (.agg #[(vi r41.2.Op), (vi r41.2.Value), (.slice ar41_1_2 r41.2.Kids.length nr41_1_2), (vi x24.at_)]), AB (l := [.cell 2 113]) (by kernel_rfl) (vs := [(.agg #[(vi r41.2.Op), (vi r41.2.Value), (.slice ar41_1_2 r41.2.Kids.length nr41_1_2), (vi x24.at_)])]) ⟨b21, 0, rfl, Ak (t := 113) (g := true) (s := 4) (by kernel_rfl) hs49.at1 rfl (by decide), trivial⟩, .inl ⟨_, F1, _, _, rfl, rfl, hs49.dr1, le45, ⟨ar41_0_0, nr41_0_0, ar41_1_2, nr41_1_2, rfl, rfl, hbr41_0_0, hsr41_0_0, hbr41_1_2, hsr41_1_2⟩⟩⟩
 ·rintro b50 F2 w51 rfl hs52 le53
  have h54 := Bo h40
  refine An ?_
  obtain rfl := Ab h54
  exact Ch hs52.dr0 le53
def A0 (N : Nat) (x0 : Aa) (x1 : Bt) (x2 : Int) : Option (Af ⊕ Unit) :=
 ((Db N x1.Expr).bind fun r24 => ((DM N x1.Expr).bind fun r32 => (bif (decide (r32 > 32)) then ((AU N x0 2 x1.at_).bind fun r43 => sk r43 (fun b48 => some (.inl b48)) (fun r46 => none)) else (bif ((r24 == 0) || ((x2 != 0) && (r24 != x2))) then ((AU N x0 61 x1.at_).bind fun r66 => sk r66 (fun b71 => some (.inl b71)) (fun r69 => none)) else some (.inr ())))))
theorem B2 : Aq Tryz.prog 88 := fun _ _ => by kernel_rfl
theorem Ca (N : Nat) {wb w0 : World} {Fb F0 : Mem} {Lf : Own} (bp0 : Nat) (x0 : Aa) (a0_0 : S0) (n0_0 : Nat) (hb0_0 : LC x0.l_.length n0_0) (hs0_0 : SlA Ag F0 a0_0 x0.l_) (x1 : Bt) (a1_2 : S0) (n1_2 : Nat) (hb1_2 : LC x1.Expr.Kids.length n1_2) (hs1_2 : SlA Ar F0 a1_2 x1.Expr.Kids) (x2 : Int) (hs0 : HS wb Fb w0 F0 ((sb bp0 (Ad x0 a0_0 n0_0) 100) :: Lf)) (r : (Af ⊕ Unit)) (h : A0 N x0 x1 x2 = some r) :
  Calls Tryz.prog 88 ([(pt bp0 0), (.agg (Au x1 a1_2 n1_2)), (vi x2)] : List Value).toArray w0 (BK wb Fb F0 Lf r (fun b => (.iface 158 (.agg (AK b)))) fun a F' v L' => v = (.tuple #[]) /\ L' = (sb bp0 (Ad x0 a0_0 n0_0) 100) :: Lf) := by
 refine Go 35 Tryz.func88 ?_
 refine Sq (Rg [0] ?_)
 refine Bx' 113 (Au x1 a1_2 n1_2) hs0 (fun b21 w22 hs23 => ?_)
 refine Nss (Rg [0, 1, 2, 3] ?_)
 refine Vs 1 ?_
 refine Ld hs23.at0 ?_
 obtain ⟨r24, hr25, h26⟩ := bind_some h
 refine Cl' CT hs23 (ED N w22 F0 hs23.pers x1.Expr a1_2 n1_2 hb1_2 hs1_2 _ hr25) ?_
 rintro _ F1 w28 hs29 le30 rfl
 refine Vs 1 ?_
 refine Nt ?_
 refine Bk ?_
 refine Sq (Rg [0, 1, 2, 3, 4] ?_)
 refine Vs 1 ?_
 refine Ld hs29.at0 ?_
 obtain ⟨r32, hr33, h34⟩ := bind_some h26
 refine Cl' Dk hs29 (E5 N w28 F1 hs29.pers x1.Expr a1_2 n1_2 hb1_2 (SJ hs1_2 le30) _ hr33) ?_
 rintro _ F2 w36 hs37 le38 rfl
 refine Vs 2 ?_
 refine Nt ?_
 refine Cd h34 (fun hb40 h41 => ?_) (fun hb40 h42 => ?_)
 ·refine Rg [0, 1, 2, 3] ?_
  refine Vs 2 ?_
  refine Ld hs37.at0 ?_
  obtain ⟨r43, hr44, h45⟩ := bind_some h41
  refine CP AM (AQ N bp0 x0 a0_0 n0_0 hb0_0 (SJ hs0_0 (le30.trans le38)) 2 x1.at_ hs37.pk1 _ hr44) ?_ ?_
  ·rintro _ _ _ _ _ rfl _ _ _; cases hr44
  ·rintro b48 F4 w49 rfl hs50 le51
   have h52 := Bo h45
   refine AP ?_
   obtain rfl := Ab h52
   exact Ch hs50.dr0 ((le30.trans le38).trans le51)
 ·refine Sq (Rg [0, 1, 2, 3, 4, 5, 6, 7, 8, 9, 10, 11] ?_)
  refine SM (fun f w => ∃ (F5 : Mem), HS wb Fb w F5 ((sb b21 (Au x1 a1_2 n1_2) 113) :: (sb bp0 (Ad x0 a0_0 n0_0) 100) :: Lf) /\ SG F2 F5 /\ FI f [] [(0, (pt bp0 0)), (4, (pt b21 0)), (19, (.bool ((r24 == 0) || ((x2 != 0) && (r24 != x2)))))]) ?_ ?_
  ·refine Vs 3 ?_
   refine SL (r24 == 0) (fun hb61 => ?_) (fun hb61 => ?_)
   ·refine Ss hb61 3 ?_
    refine Su' 3 ?_
    refine Ss hb61 1 ?_
    refine Pk1 hb61 ?_
    refine Vs 1 ?_
    exact SC ⟨rfl, F2, hs37, (SH _), (fJ ⟨rfl, rfl, (congrArg Value.bool (FQ hb61 rfl)), trivial⟩)⟩
   ·refine Vgs hb61 3 ?_
    refine SL (x2 != 0) (fun hb62 => ?_) (fun hb62 => ?_)
    ·refine Vgs hb62 3 ?_
     refine Pg1 hb61 hb62 ?_
     refine Pk0 hb61 ?_
     refine Vs 1 ?_
     exact SC ⟨rfl, F2, hs37, (SH _), (fJ ⟨rfl, rfl, (congrArg Value.bool (B5 hb61 (D0 hb62 rfl))), trivial⟩)⟩
    ·refine Ss hb62 3 ?_
     refine Pg0 hb61 hb62 ?_
     refine Pk0 hb61 ?_
     refine Vs 1 ?_
     exact SC ⟨rfl, F2, hs37, (SH _), (fJ ⟨rfl, rfl, (congrArg Value.bool (B5 hb61 (GI hb62 rfl))), trivial⟩)⟩
  ·rintro f w54 ⟨F5, hs55, le56, ⟨_, rfl⟩⟩
   refine Ac ?_
   refine Cd h42 (fun hb63 h64 => ?_) (fun hb63 h65 => ?_)
   ·refine Rg [0, 1, 2, 3] ?_
    refine Vs 2 ?_
    refine Ld hs55.at0 ?_
    obtain ⟨r66, hr67, h68⟩ := bind_some h64
    refine CP AM (AQ N bp0 x0 a0_0 n0_0 hb0_0 (SJ hs0_0 ((le30.trans le38).trans le56)) 61 x1.at_ hs55.pk1 _ hr67) ?_ ?_
    ·rintro _ _ _ _ _ rfl _ _ _; cases hr67
    ·rintro b71 F7 w72 rfl hs73 le74
     have h75 := Bo h68
     refine AP ?_
     obtain rfl := Ab h75
     exact Ch hs73.dr0 (((le30.trans le38).trans le56).trans le74)
   ·refine Sc ?_
    refine Ax ?_
    obtain rfl := Ab h65
    exact ReP [] hs55.dr0 ((le30.trans le38).trans le56) ⟨rfl, rfl⟩
def Dd (N : Nat) (x0 : Aa) (z0 : Bt) : Option (Af ⊕ (Aa × Bt)) :=
 ((Bv N x0).bind fun r21 => sk r21 (fun b83 => some (.inl b83)) (fun r24 => ((idx r24.1.l_ 0).bind fun x33 => (bif (x33.kind_ != 0) then ((idx r24.1.l_ 0).bind fun x50 => ((AU N r24.1 60 x50.at_).bind fun r56 => sk r56 (fun b61 => some (.inl b61)) (fun r59 => none))) else ((A0 N r24.1 r24.2 0).bind fun r67 => sk r67 (fun b77 => some (.inl b77)) (fun r70 => some (.inr (r24.1, r24.2))))))))
theorem Gw : Aq Tryz.prog 85 := fun _ _ => by kernel_rfl
theorem GV (N : Nat) {wb w0 : World} {Fb F0 : Mem} {Lf : Own} (hG : CA F0) (bp0 : Nat) (x0 : Aa) (a0_0 : S0) (n0_0 : Nat) (hb0_0 : LC x0.l_.length n0_0) (hs0_0 : SlA Ag F0 a0_0 x0.l_) (bz0 : Nat) (z0 : Bt) (az0_2 : S0) (nz0_2 : Nat) (hbz0_2 : LC z0.Expr.Kids.length nz0_2) (hsz0_2 : SlA Ar F0 az0_2 z0.Expr.Kids) (hs0 : HS wb Fb w0 F0 ((sb bp0 (Ad x0 a0_0 n0_0) 100) :: (sb bz0 (Au z0 az0_2 nz0_2) 113) :: Lf)) (r : (Af ⊕ (Aa × Bt))) (h : Dd N x0 z0 = some r) :
  Calls Tryz.prog 85 ([(pt bp0 0), (pt bz0 0)] : List Value).toArray w0 (BK wb Fb F0 Lf r (fun b => (.iface 158 (.agg (AK b)))) fun a F' v L' => ∃ (aq0_0 : S0) (nq0_0 : Nat) (aq1_2 : S0) (nq1_2 : Nat), v = (.tuple #[]) /\ L' = (sb bp0 (Ad a.1 aq0_0 nq0_0) 100) :: (sb bz0 (Au a.2 aq1_2 nq1_2) 113) :: Lf /\ LC a.1.l_.length nq0_0 /\ SlA Ag F' aq0_0 a.1.l_ /\ LC a.2.Expr.Kids.length nq1_2 /\ SlA Ar F' aq1_2 a.2.Expr.Kids) := by
 refine Go 25 Tryz.func85 ?_
 refine Sq (Rg [0, 1, 2] ?_)
 refine Vs 1 ?_
 obtain ⟨r21, hr22, h23⟩ := bind_some h
 refine CP BV (B3 N hG bp0 x0 a0_0 n0_0 hb0_0 hs0_0 hs0 _ hr22) ?_ ?_
 ·rintro r24 _ F1 w26 _ rfl hs27 le28 ⟨ar24_0_0, nr24_0_0, ar24_1_2, nr24_1_2, rfl, rfl, hbr24_0_0, hsr24_0_0, hbr24_1_2, hsr24_1_2⟩
  have h30 := BU h23
  refine St1 (Au r24.2 ar24_1_2 nr24_1_2) hs27 (fun w31 hs32 => ?_)
  refine Nss ?_
  refine Sq (Rg [0, 1, 2, 3, 4, 5, 6, 7] ?_)
  refine Vs 3 ?_
  refine Ld hs32.at0 ?_
  obtain ⟨x33, hx34, h36⟩ := bind_some h30
  obtain ⟨hi35, hx34'⟩ := Aw hx34
  obtain ⟨b37, o38, C39, E40, fz41, rfl, hF43, hE44⟩ := SQ hsr24_0_0 hx34'
  have hc46 := hE44 _ _ hx34'
  refine Ix hi35 ?_
  refine Vs 1 ?_
  refine Lx 0 (hs32.pers _ _ hF43) hc46 ?_
  refine Vs 1 ?_
  refine Nt ?_
  refine Cd h36 (fun hb47 h48 => ?_) (fun hb47 h49 => ?_)
  ·refine Rg [0, 1, 2, 3, 4, 5, 6, 7, 8] ?_
   refine Vs 4 ?_
   refine Ld hs32.at0 ?_
   obtain ⟨x50, hx51, h53⟩ := bind_some h48
   obtain ⟨hi52, hx51'⟩ := Aw hx51
   have hc55 := hE44 _ _ hx51'
   refine Ix hi52 ?_
   refine Vs 1 ?_
   refine Lx 1 (hs32.pers _ _ hF43) hc55 ?_
   obtain ⟨r56, hr57, h58⟩ := bind_some h53
   refine CP AM (AQ N bp0 r24.1 (some ⟨b37, o38, none⟩) nr24_0_0 hbr24_0_0 hsr24_0_0 60 x50.at_ hs32 _ hr57) ?_ ?_
   ·rintro _ _ _ _ _ rfl _ _ _; cases hr57
   ·rintro b61 F3 w62 rfl hs63 le64
    have h65 := Bo h58
    refine An ?_
    obtain rfl := Ab h65
    exact Ch hs63.dr0 (le28.trans le64)
  ·refine Sc ?_
   refine Ac ?_
   refine Rg [0, 1, 2] ?_
   refine Vs 1 ?_
   refine Ld hs32.at1 ?_
   obtain ⟨r67, hr68, h69⟩ := bind_some h49
   refine CP B2 (Ca N bp0 r24.1 (some ⟨b37, o38, none⟩) nr24_0_0 hbr24_0_0 hsr24_0_0 r24.2 ar24_1_2 nr24_1_2 hbr24_1_2 hsr24_1_2 0 hs32 _ hr68) ?_ ?_
   ·rintro r70 _ F4 w72 _ rfl hs73 le74 ⟨rfl, rfl⟩
    have h76 := BU h69
    refine SC ?_
    obtain rfl := Ab h76
    exact ReP [] hs73 (le28.trans le74) ⟨(some ⟨b37, o38, none⟩), nr24_0_0, ar24_1_2, nr24_1_2, rfl, rfl, hbr24_0_0, (SJ hsr24_0_0 le74), hbr24_1_2, (SJ hsr24_1_2 le74)⟩
   ·rintro b77 F5 w78 rfl hs79 le80
    have h81 := Bo h69
    obtain rfl := Ab h81
    exact Ch hs79.dr0 (le28.trans le80)
 ·rintro b83 F6 w84 rfl hs85 le86
  have h87 := Bo h23
  refine An ?_
  obtain rfl := Ab h87
  exact Ch hs85.dr0 le86
def CV (N : Nat) (x0 : Aa) : Option (Af ⊕ Unit) :=
 (((idx x0.l_ 0).bind fun x30 => (bif (x30.kind_ != 0) then ((AD N x0 ([10] : SZ)).bind fun r47 => some (!r47)) else some false)).bind fun j24 => (bif j24 then ((idx x0.l_ 0).bind fun x57 => ((AU N x0 60 x57.at_).bind fun r71 => sk r71 (fun b76 => some (.inl b76)) (fun r74 => none))) else some (.inr ())))
theorem Dq : Aq Tryz.prog 136 := fun _ _ => by kernel_rfl
theorem DY (N : Nat) {wb w0 : World} {Fb F0 : Mem} {Lf : Own} (bp0 : Nat) (x0 : Aa) (a0_0 : S0) (n0_0 : Nat) (hb0_0 : LC x0.l_.length n0_0) (hs0_0 : SlA Ag F0 a0_0 x0.l_) (hs0 : HS wb Fb w0 F0 ((sb bp0 (Ad x0 a0_0 n0_0) 100) :: Lf)) (r : (Af ⊕ Unit)) (h : CV N x0 = some r) :
  Calls Tryz.prog 136 ([(pt bp0 0)] : List Value).toArray w0 (BK wb Fb F0 Lf r (fun b => (.iface 158 (.agg (AK b)))) fun a F' v L' => v = (.tuple #[]) /\ L' = (sb bp0 (Ad x0 a0_0 n0_0) 100) :: Lf) := by
 refine Go 24 Tryz.func136 ?_
 refine Sq (Rg [0, 1, 2, 3, 4, 5, 6, 7, 8, 9, 10, 11, 12] ?_)
 obtain ⟨j24, hj28, h29⟩ := bind_some h
 refine SM (fun f w => ∃ (F1 : Mem), HS wb Fb w F1 ((sb bp0 (Ad x0 a0_0 n0_0) 100) :: Lf) /\ SG F0 F1 /\ FI f [] [(0, (pt bp0 0)), (14, (.bool j24))]) ?_ ?_
 ·refine Vs 3 ?_
  refine Ld hs0.at0 ?_
  obtain ⟨x30, hx31, h33⟩ := bind_some hj28
  obtain ⟨hi32, hx31'⟩ := Aw hx31
  obtain ⟨b34, o35, C36, E37, fz38, rfl, hF40, hE41⟩ := SQ hs0_0 hx31'
  have hc43 := hE41 _ _ hx31'
  refine Ix hi32 ?_
  refine Vs 1 ?_
  refine Lx 0 (hs0.pers _ _ hF40) hc43 ?_
  refine Vs 2 ?_
  refine Sp h33 (fun hb44 h45 => ?_) (fun hb44 h46 => ?_)
  ·refine Vgs hb44 1 ?_
   obtain ⟨r47, hr48, h49⟩ := bind_some h45
   refine RWP.callB (dst := (some 12)) (ty := 4) (g := (some (8, true))) (by kernel_rfl) (Nz (d := 10) (by kernel_rfl) rfl hb44) (f0 := (.func 134)) (aos := #[(.tmp 11), (.const (.string ⟨([10] : SZ).toArray⟩))]) (ats := #[95, 9]) (fid := 134) (first := #[]) (cap := #[]) (args := [(pt bp0 0), (.string ⟨(([10] : SZ)).toArray⟩)]) rfl B9 rfl (Ce N bp0 x0 (some ⟨b34, o35, none⟩) n0_0 hb0_0 hs0_0 (([10] : SZ)) hs0 _ hr48) ?_
   rintro _ F2 w50 _ hs51 le52 ⟨rfl, rfl⟩
   refine Vgs hb44 1 ?_
   refine Pk1 hb44 ?_
   obtain rfl := Ab h49
   exact SC ⟨rfl, F2, hs51, le52, fI⟩
  ·refine Ss hb44 3 ?_
   refine Pk0 hb44 ?_
   obtain rfl := Ab h46
   exact SC ⟨rfl, F0, hs0, (SH _), fI⟩
 ·rintro f w21 ⟨F1, hs22, le23, ⟨_, rfl⟩⟩
  refine Ac ?_
  refine Cd h29 (fun hb54 h55 => ?_) (fun hb54 h56 => ?_)
  ·refine Rg [0, 1, 2, 3, 4, 5, 6, 7, 8] ?_
   refine Vs 4 ?_
   refine Ld hs22.at0 ?_
   obtain ⟨x57, hx58, h60⟩ := bind_some h55
   obtain ⟨hi59, hx58'⟩ := Aw hx58
   obtain ⟨b61, o62, C63, E64, fz65, rfl, hF67, hE68⟩ := SQ (SJ hs0_0 le23) hx58'
   have hc70 := hE68 _ _ hx58'
   refine Ix hi59 ?_
   refine Vs 1 ?_
   refine Lx 1 (hs22.pers _ _ hF67) hc70 ?_
   obtain ⟨r71, hr72, h73⟩ := bind_some h60
   refine CP AM (AQ N bp0 x0 (some ⟨b61, o62, none⟩) n0_0 hb0_0 (SJ hs0_0 le23) 60 x57.at_ hs22 _ hr72) ?_ ?_
   ·rintro _ _ _ _ _ rfl _ _ _; cases hr72
   ·rintro b76 F4 w77 rfl hs78 le79
    have h80 := Bo h73
    obtain rfl := Ab h80
    exact Ch hs78 (le23.trans le79)
  ·refine Sc ?_
   obtain rfl := Ab h56
   exact ReP [] hs22 le23 ⟨rfl, rfl⟩
def D7 (N : Nat) (x0 : Aa) (x1 : (List Expr)) (x2 : Int) : Option (Af ⊕ Unit) :=
 (bif ((x1.length : Int) == 64) then ((AU N x0 2 x2).bind fun r24 => sk r24 (fun b29 => some (.inl b29)) (fun r27 => none)) else some (.inr ()))
theorem FB : Aq Tryz.prog 137 := fun _ _ => by kernel_rfl
theorem FS (N : Nat) {wb w0 : World} {Fb F0 : Mem} {Lf : Own} (bp0 : Nat) (x0 : Aa) (a0_0 : S0) (n0_0 : Nat) (hb0_0 : LC x0.l_.length n0_0) (hs0_0 : SlA Ag F0 a0_0 x0.l_) (x1 : (List Expr)) (a1_0 : S0) (n1_0 : Nat) (x2 : Int) (hs0 : HS wb Fb w0 F0 ((sb bp0 (Ad x0 a0_0 n0_0) 100) :: Lf)) (r : (Af ⊕ Unit)) (h : D7 N x0 x1 x2 = some r) :
  Calls Tryz.prog 137 ([(pt bp0 0), (.slice a1_0 x1.length n1_0), (vi x2)] : List Value).toArray w0 (BK wb Fb F0 Lf r (fun b => (.iface 158 (.agg (AK b)))) fun a F' v L' => v = (.tuple #[]) /\ L' = (sb bp0 (Ad x0 a0_0 n0_0) 100) :: Lf) := by
 refine Go 12 Tryz.func137 ?_
 refine Sq (Rg [0, 1, 2] ?_)
 refine Vs 3 ?_
 refine Nt ?_
 refine Cd h (fun hb21 h22 => ?_) (fun hb21 h23 => ?_)
 ·refine Rg [0, 1, 2] ?_
  refine Vs 2 ?_
  obtain ⟨r24, hr25, h26⟩ := bind_some h22
  refine CP AM (AQ N bp0 x0 a0_0 n0_0 hb0_0 hs0_0 2 x2 hs0 _ hr25) ?_ ?_
  ·rintro _ _ _ _ _ rfl _ _ _; cases hr25
  ·rintro b29 F2 w30 rfl hs31 le32
   have h33 := Bo h26
   obtain rfl := Ab h33
   exact Ch hs31 le32
 ·refine Sc ?_
  obtain rfl := Ab h23
  exact ReP [] hs0 (SH _) ⟨rfl, rfl⟩
def Dn (N : Nat) (x0 : Aa) (x1 : (List Clause)) (x2 : Int) : Option (Af ⊕ Unit) :=
 (bif ((x1.length : Int) == 64) then ((AU N x0 2 x2).bind fun r24 => sk r24 (fun b29 => some (.inl b29)) (fun r27 => none)) else some (.inr ()))
theorem E0 : Aq Tryz.prog 138 := fun _ _ => by kernel_rfl
theorem Fj (N : Nat) {wb w0 : World} {Fb F0 : Mem} {Lf : Own} (bp0 : Nat) (x0 : Aa) (a0_0 : S0) (n0_0 : Nat) (hb0_0 : LC x0.l_.length n0_0) (hs0_0 : SlA Ag F0 a0_0 x0.l_) (x1 : (List Clause)) (a1_0 : S0) (n1_0 : Nat) (x2 : Int) (hs0 : HS wb Fb w0 F0 ((sb bp0 (Ad x0 a0_0 n0_0) 100) :: Lf)) (r : (Af ⊕ Unit)) (h : Dn N x0 x1 x2 = some r) :
  Calls Tryz.prog 138 ([(pt bp0 0), (.slice a1_0 x1.length n1_0), (vi x2)] : List Value).toArray w0 (BK wb Fb F0 Lf r (fun b => (.iface 158 (.agg (AK b)))) fun a F' v L' => v = (.tuple #[]) /\ L' = (sb bp0 (Ad x0 a0_0 n0_0) 100) :: Lf) := by
 refine Go 12 Tryz.func138 ?_
 refine Sq (Rg [0, 1, 2] ?_)
 refine Vs 3 ?_
 refine Nt ?_
 refine Cd h (fun hb21 h22 => ?_) (fun hb21 h23 => ?_)
 ·refine Rg [0, 1, 2] ?_
  refine Vs 2 ?_
  obtain ⟨r24, hr25, h26⟩ := bind_some h22
  refine CP AM (AQ N bp0 x0 a0_0 n0_0 hb0_0 hs0_0 2 x2 hs0 _ hr25) ?_ ?_
  ·rintro _ _ _ _ _ rfl _ _ _; cases hr25
  ·rintro b29 F2 w30 rfl hs31 le32
   have h33 := Bo h26
   obtain rfl := Ab h33
   exact Ch hs31 le32
 ·refine Sc ?_
  obtain rfl := Ab h23
  exact ReP [] hs0 (SH _) ⟨rfl, rfl⟩
def Hx (b : Nat) (S : SZ -> Option Value) (e : Option Nat × Obj) : Prop :=
 ∃ es clk, e = (some b, .map es clk) /\ ∀ k : SZ, ∃ r, Instr.findNow .string (.string ⟨k.toArray⟩) es.toList 0 = some r /\ r.map (·.2) = S k
def Ed (S : SZ -> Option Value) (k : SZ) (v : Value) : SZ -> Option Value := fun x => if x = k then some v else S x
theorem Im {d : TypeDesc} {k : Value} {e : MapEntry} {b : Bool} (hs : Instr.sameNow d k e.key = some b) : ∀ (es : List MapEntry) (i : Nat) (r : Option (Nat × Value)), Instr.findNow d k es i = some r ->
  ∃ r', Instr.findNow d k (es ++ [e]) i = some r' /\ r'.map (·.2) = match r with | some p => some p.2 | none => if b then some e.val else none
 | [], i, r, h => by
  simp only [Instr.findNow, Option.some.injEq] at h; subst h
  cases b with
  | true => exact ⟨some (i, e.val), by simp [Instr.findNow, hs], rfl⟩
  | false => exact ⟨none, by simp [Instr.findNow, hs], rfl⟩
 | x :: es, i, r, h => by
  unfold Instr.findNow at h
  cases hx : Instr.sameNow d k x.key with
  | none => rw [hx] at h; cases h
  | some c =>
   rw [hx] at h
   cases c with
   | true => simp only [Option.some.injEq] at h; subst h; exact ⟨some (i, x.val), by simp [Instr.findNow, hx], rfl⟩
   | false =>
    simp only at h
    obtain ⟨r', h1, h2⟩ := Im hs es (i + 1) r h
    exact ⟨r', by simp [Instr.findNow, hx, h1], h2⟩
theorem Hx.ins {b clk : Nat} {S : SZ -> Option Value} {es : Array MapEntry} (h : ∀ k : SZ, ∃ r, Instr.findNow .string (.string ⟨k.toArray⟩) es.toList 0 = some r /\ r.map (·.2) = S k) (k0 : SZ) (v : Value) (hn : S k0 = none) :
  Hx b (Ed S k0 v) (some b, .map (es.push ⟨.string ⟨k0.toArray⟩, v, clk⟩) (clk + 1)) := by
 refine ⟨_, _, rfl, fun k => ?_⟩
 obtain ⟨r, h1, h2⟩ := h k
 have hs : Instr.sameNow .string (.string ⟨k.toArray⟩) (.string ⟨k0.toArray⟩) = some (decide (k = k0)) := by
  simp only [Instr.sameNow, Option.some.injEq]
  rw [beq_toListBytes, ByteArray.toList_eq, ByteArray.toList_eq, Bool.eq_iff_iff]; simp
 obtain ⟨r', h3, h4⟩ := Im (e := ⟨.string ⟨k0.toArray⟩, v, clk⟩) hs es.toList 0 r h1
 refine ⟨r', by rw [Array.toList_push]; exact h3, ?_⟩
 rw [h4]
 unfold Ed
 cases r with
 | some p =>
  simp only at h2 ⊢
  have hne : k ≠ k0 := fun e => by rw [e, hn] at h2; cases h2
  rw [if_neg hne, <- h2]; rfl
 | none =>
  simp only at h2 ⊢
  by_cases hk : k = k0
  ·simp [hk]
  ·simp only [hk, decide_false, Bool.false_eq_true, if_false]; rw [<- h2]; rfl
theorem Hx.nil (b : Nat) : Hx b (fun _ => none) (some b, .map #[] 0) := ⟨_, _, rfl, fun _ => ⟨none, rfl, rfl⟩⟩
theorem Hx.congr {b : Nat} {S S' : SZ -> Option Value} {e : Option Nat × Obj} (h : Hx b S e) (hs : ∀ k, S k = S' k) : Hx b S' e := by
 obtain ⟨es, clk, h1, h2⟩ := h; exact ⟨es, clk, h1, fun k => by rw [<- hs k]; exact h2 k⟩
section
variable {P : Program} {w w0 : World} {F0 F : Mem} {L : Own} {ρ : Operand -> Value} {ty : TypeId}
theorem HS.ownAt' {k : Nat} {e : Option Nat × Obj} (h : HS w0 F0 w F L) (hk : L[k]? = some e) : ∀ b o, e = (some b, o) -> w.heap[b]? = some o := fun b o he => h.ownAt (by rw [hk, he])
theorem Mr {mt k vt : TypeId} {m x : Operand} {b : Nat} {S : SZ -> Option Value} {e : Option Nat × Obj} {t : SZ} {v : Value} (hm : ρ m = .map (some b)) (hx : ρ x = .string ⟨t.toArray⟩) (hu : P.underlying mt = some (.map k vt)) (hk : P.underlying k = some .string)
  (hw : ∀ b o, e = (some b, o) -> w.heap[b]? = some o) (hp : Hx b S e) (hS : S t = some v) : (Ao ρ (.lookup mt m x true) ty).run P w = .ok (.value (.tuple #[v, .bool true])) w := by
 obtain ⟨es, clk, rfl, h2⟩ := hp
 have hb := hw b _ rfl
 obtain ⟨r, h3, h4⟩ := h2 t
 rw [hS] at h4
 cases r with
 | none => cases h4
 | some p =>
  obtain ⟨i, v'⟩ := p
  simp only [Option.map_some, Option.some.injEq] at h4
  subst h4
  have e : Ao ρ (.lookup mt m x true) ty = (do pure (Next.value (<- Instr.lookup mt (ρ m) (ρ x) true))) := rfl
  rw [e, hm, hx]
  simp [Instr.lookup, run_underlying hu, MapKept.run_getObj_map hb, MapKept.run_checkKey hk (k := .string ⟨t.toArray⟩) trivial, MapKept.run_findKey hk h3, Result.andThen]
end
section
variable {P : Program} {n : Nat} {R : Array Oper} {PQ : List PanicEntry -> List Deferred -> World -> Prop} {Post : Fr -> World -> Prop} {zz fuel : Nat} {ll l' : List Bool} {zd : Bool} {Fs : Mem} {Lc Lz : Own} {w w0 : World} {F0 F : Mem} {L : Own} {f : Fr} {i : Nat} {dst : Option Nat} {ty : TypeId} {g : Option (Nat × Bool)}
theorem Ay.pMake {t : TypeId} (hl : ll.set i true = l') (hzd : l'.toArray.getD zz true = zd) (ho : opq R i = some (dst, .makeMap t none, ty, g)) (hg : gd R f g = true) (hs : HS w0 F0 w F L) (hle : SG Fs F) (hL : ∀ p, p ∈ Lc -> p ∈ L) (hLz : zd = false -> ∀ p, p ∈ Lz -> p ∈ L)
  (kk : ∀ b e w', HS w0 F0 w' F (e :: L) -> Hx b (fun _ => none) e -> DWP P n R PQ Post zz (DZ Fs Lc Lz) fuel l' (AY f dst (.map (some b))) w') : Ay P n R PQ Post zz (DZ Fs Lc Lz) fuel ll i f w :=
 ST hl hzd ho hg FZ (BI (hs.alloc _) hle (fun p hp => List.mem_cons_of_mem _ (hL p hp)) (fun e p hp => List.mem_cons_of_mem _ (hLz e p hp))) (kk _ _ _ (hs.alloc _) (Hx.nil _))
theorem Ay.pIns {mt k vt : TypeId} {m x y : Operand} {b : Nat} {S : SZ -> Option Value} {k0 : SZ} {v : Value} {e : Option Nat × Obj} (hl : ll.set i true = l') (hzd : l'.toArray.getD zz true = zd) (ho : opq R i = some (none, .insert mt m x y, ty, g)) (hg : gd R f g = true)
  (hm : fev f m = .map (some b)) (hx : fev f x = .string ⟨k0.toArray⟩) (hy : fev f y = v) (hu : P.underlying mt = some (.map k vt)) (hk : P.underlying k = some .string) (hn : S k0 = none)
  (hs : HS w0 F0 w F (e :: L)) (hp : Hx b S e) (hle : SG Fs F) (hL : ∀ p, p ∈ Lc -> p ∈ L) (hLz : zd = false -> ∀ p, p ∈ Lz -> p ∈ L)
  (kk : ∀ e' w', HS w0 F0 w' F (e' :: L) -> Hx b (Ed S k0 v) e' -> DWP P n R PQ Post zz (DZ Fs Lc Lz) fuel l' f w') : Ay P n R PQ Post zz (DZ Fs Lc Lz) fuel ll i f w := by
 obtain ⟨es, clk, rfl, h2⟩ := hp
 have hb := hs.ownAt (k := 0) rfl
 obtain ⟨r, h3, h4⟩ := h2 k0
 rw [hn] at h4
 have hr : r = none := by cases r with | none => rfl | some p => cases h4
 subst hr
 have hs' := hs.put (k := 0) rfl (.map (es.push ⟨.string ⟨k0.toArray⟩, v, clk⟩) (clk + 1))
 have hset : (setObj b (.map (es.push ⟨.string ⟨k0.toArray⟩, v, clk⟩) (clk + 1))).run P w = .ok () (Cm w b (.map (es.push ⟨.string ⟨k0.toArray⟩, v, clk⟩) (clk + 1))) := by
  rw [MapKept.run_setObj_map _ hb]; rfl
 refine SU hl hzd ho hg (w' := Cm w b (.map (es.push ⟨.string ⟨k0.toArray⟩, v, clk⟩) (clk + 1))) ?_ (BI hs' hle (fun p hp => List.mem_cons_of_mem _ (hL p hp)) (fun e p hp => List.mem_cons_of_mem _ (hLz e p hp))) (kk _ _ hs' (Hx.ins h2 k0 v hn))
 have e : Ao (fev f) (.insert mt m x y) ty = (do Instr.mapUpdate mt (fev f m) (fev f x) (fev f y); pure .skip) := rfl
 rw [e, hm, hx, hy]
 simp [Instr.mapUpdate, run_underlying hu, MapKept.run_getObj_map hb, MapKept.run_checkKey hk (k := .string ⟨k0.toArray⟩) trivial, MapKept.run_findKey hk h3, Result.andThen, hset]
abbrev SY := @Ay.pIns
end
def Eg (b : Nat) : SZ -> Option Value := fun t => if t = [112, 111, 105, 110, 116, 115] then some (.pointer (some ⟨b, 0, none⟩)) else if t = [109, 117, 108, 116, 105, 112, 108, 105, 101, 114] then some (.pointer (some ⟨b, 1, none⟩)) else if t = [112, 101, 110, 97, 108, 116, 121] then some (.pointer (some ⟨b, 2, none⟩)) else none
section
variable {b : Nat} {t : SZ}
theorem OJ (h : (t == ([112, 111, 105, 110, 116, 115] : SZ)) = true) : Eg b t = some (.pointer (some ⟨b, 0, none⟩)) := by
 have := eq_of_beq h; subst this; rfl
end
theorem Nr {wb w : World} {Fb F : Mem} {L : Own} {f : Fr} {bp : Nat} {Q : Exit -> Fr -> World -> Prop} (hs0 : HS wb Fb w F L) (h1 : f 1 = .pointer (some ⟨bp, 0, none⟩))
  (k : ∀ (f' : Fr) (w' : World) (e : Option Nat × Obj) (b : Nat), HS wb Fb w' F (e :: L) -> Hx b (Eg bp) e -> f' 6 = .map (some b) -> (f'.d = f.d /\ f' 0 = f 0 /\ f' 4 = f 4) -> Q .normal f' w') : CWP Tryz.prog none 114 (cs1 (cs2 (cs2 (Cb Tryz.f81)))) Q f w := by
 refine CWP.regionD (by kernel_rfl) (by kernel_rfl) (by kernel_rfl) (by kernel_rfl) (z := 15) (F := F) (Lc := []) (Lz := []) (l := [false, false, false, false, false, false, false, false, false, false, false, false, false, false, false]) (fuel := 15) (by kernel_rfl) (by kernel_rfl) hs0 (by simp) (by simp) (fun f' w' => ∃ e b, HS wb Fb w' F (e :: L) /\ Hx b (Eg bp) e /\ f' 6 = .map (some b) /\ f'.d = f.d /\ f' 0 = f 0 /\ f' 4 = f 4) (fun wd hw => ?_) ?_
 ·refine SR (i := 1) (v := (.pointer (some ⟨bp, 0, none⟩))) (zd := true) (dst := (some 49)) (ty := 102) (g := none) (by kernel_rfl) (by kernel_rfl) (by kernel_rfl) (by kernel_rfl) (by kernel_rfl) rfl (fun wq hq => (AL (x := .tmp 1) (v := (.pointer (some ⟨bp, 0, none⟩))) h1)) (l' := [false, true, false, false, false, false, false, false, false, false, false, false, false, false, false]) (by kernel_rfl) ?_
  refine SR (i := 2) (v := (.pointer (some ⟨bp, 0, none⟩))) (zd := true) (dst := (some 50)) (ty := 0) (g := none) (by kernel_rfl) (by kernel_rfl) (by kernel_rfl) (by kernel_rfl) (by kernel_rfl) rfl (fun wq hq => (C7 (x := .tmp 49) (a := ⟨bp, 0, none⟩) rfl)) (l' := [false, true, true, false, false, false, false, false, false, false, false, false, false, false, false]) (by kernel_rfl) ?_
  refine SR (i := 3) (v := (.pointer (some ⟨bp, 0, none⟩))) (zd := true) (dst := (some 51)) (ty := 0) (g := none) (by kernel_rfl) (by kernel_rfl) (by kernel_rfl) (by kernel_rfl) (by kernel_rfl) rfl (fun wq hq => (BX (s := 26) (x := .tmp 50) (i := 0) (o := 0) (k := 1) (b := bp) (o0 := 0) rfl (by kernel_rfl) rfl (o1 := 0) rfl)) (l' := [false, true, true, true, false, false, false, false, false, false, false, false, false, false, false]) (by kernel_rfl) ?_
  refine SR (i := 5) (v := (.pointer (some ⟨bp, 0, none⟩))) (zd := true) (dst := (some 52)) (ty := 102) (g := none) (by kernel_rfl) (by kernel_rfl) (by kernel_rfl) (by kernel_rfl) (by kernel_rfl) rfl (fun wq hq => (AL (x := .tmp 1) (v := (.pointer (some ⟨bp, 0, none⟩))) h1)) (l' := [false, true, true, true, false, true, false, false, false, false, false, false, false, false, false]) (by kernel_rfl) ?_
  refine SR (i := 6) (v := (.pointer (some ⟨bp, 0, none⟩))) (zd := true) (dst := (some 53)) (ty := 0) (g := none) (by kernel_rfl) (by kernel_rfl) (by kernel_rfl) (by kernel_rfl) (by kernel_rfl) rfl (fun wq hq => (C7 (x := .tmp 52) (a := ⟨bp, 0, none⟩) rfl)) (l' := [false, true, true, true, false, true, true, false, false, false, false, false, false, false, false]) (by kernel_rfl) ?_
  refine SR (i := 7) (v := (.pointer (some ⟨bp, 1, none⟩))) (zd := true) (dst := (some 54)) (ty := 0) (g := none) (by kernel_rfl) (by kernel_rfl) (by kernel_rfl) (by kernel_rfl) (by kernel_rfl) rfl (fun wq hq => (BX (s := 26) (x := .tmp 53) (i := 1) (o := 1) (k := 1) (b := bp) (o0 := 0) rfl (by kernel_rfl) rfl (o1 := 1) rfl)) (l' := [false, true, true, true, false, true, true, true, false, false, false, false, false, false, false]) (by kernel_rfl) ?_
  refine SR (i := 9) (v := (.pointer (some ⟨bp, 0, none⟩))) (zd := true) (dst := (some 55)) (ty := 102) (g := none) (by kernel_rfl) (by kernel_rfl) (by kernel_rfl) (by kernel_rfl) (by kernel_rfl) rfl (fun wq hq => (AL (x := .tmp 1) (v := (.pointer (some ⟨bp, 0, none⟩))) h1)) (l' := [false, true, true, true, false, true, true, true, false, true, false, false, false, false, false]) (by kernel_rfl) ?_
  refine SR (i := 10) (v := (.pointer (some ⟨bp, 0, none⟩))) (zd := true) (dst := (some 56)) (ty := 0) (g := none) (by kernel_rfl) (by kernel_rfl) (by kernel_rfl) (by kernel_rfl) (by kernel_rfl) rfl (fun wq hq => (C7 (x := .tmp 55) (a := ⟨bp, 0, none⟩) rfl)) (l' := [false, true, true, true, false, true, true, true, false, true, true, false, false, false, false]) (by kernel_rfl) ?_
  refine SR (i := 11) (v := (.pointer (some ⟨bp, 2, none⟩))) (zd := true) (dst := (some 57)) (ty := 0) (g := none) (by kernel_rfl) (by kernel_rfl) (by kernel_rfl) (by kernel_rfl) (by kernel_rfl) rfl (fun wq hq => (BX (s := 26) (x := .tmp 56) (i := 2) (o := 2) (k := 1) (b := bp) (o0 := 0) rfl (by kernel_rfl) rfl (o1 := 2) rfl)) (l' := [false, true, true, true, false, true, true, true, false, true, true, true, false, false, false]) (by kernel_rfl) ?_
  refine SS (i := 0) (by kernel_rfl) ?_
  refine Ay.pMake (l' := [true, true, true, true, false, true, true, true, false, true, true, true, false, false, false]) (zd := true) (by kernel_rfl) (by kernel_rfl) (dst := some 48) (ty := 167) (g := none) (by kernel_rfl) rfl (t := 167) hw (SH _) (by simp) (fun e => by cases e) (fun b e0 w0 hs1 hp0 => ?_)
  refine DWP.three (i := 4) (j := 8) (k := 12) (by kernel_rfl) ?_ ?_ ?_
  ·
   refine SY (l' := [true, true, true, true, true, true, true, true, false, true, true, true, false, false, false]) (zd := true) (by kernel_rfl) (by kernel_rfl) (ty := 0) (g := none) (by kernel_rfl) rfl (mt := 167) (k := 9) (vt := 166) (m := .tmp 48) (x := .const (.string ⟨([112, 111, 105, 110, 116, 115] : SZ).toArray⟩)) (y := .tmp 51) (k0 := [112, 111, 105, 110, 116, 115]) (v := .pointer (some ⟨bp, 0, none⟩)) rfl rfl rfl (by kernel_rfl) (by kernel_rfl) (by simp [Ed]) hs1 hp0 (SH _) (by simp) (fun e => by cases e) (fun e11 w11 hs11 hp11 => ?_)
   refine DWP.two (i := 8) (j := 12) (by kernel_rfl) ?_ ?_
   ·
    refine SY (l' := [true, true, true, true, true, true, true, true, true, true, true, true, false, false, false]) (zd := true) (by kernel_rfl) (by kernel_rfl) (ty := 0) (g := none) (by kernel_rfl) rfl (mt := 167) (k := 9) (vt := 166) (m := .tmp 48) (x := .const (.string ⟨([109, 117, 108, 116, 105, 112, 108, 105, 101, 114] : SZ).toArray⟩)) (y := .tmp 54) (k0 := [109, 117, 108, 116, 105, 112, 108, 105, 101, 114]) (v := .pointer (some ⟨bp, 1, none⟩)) rfl rfl rfl (by kernel_rfl) (by kernel_rfl) (by simp [Ed]) hs11 hp11 (SH _) (by simp) (fun e => by cases e) (fun e12 w12 hs12 hp12 => ?_)
    refine SS (i := 12) (by kernel_rfl) ?_
    refine SY (l' := [true, true, true, true, true, true, true, true, true, true, true, true, true, false, false]) (zd := true) (by kernel_rfl) (by kernel_rfl) (ty := 0) (g := none) (by kernel_rfl) rfl (mt := 167) (k := 9) (vt := 166) (m := .tmp 48) (x := .const (.string ⟨([112, 101, 110, 97, 108, 116, 121] : SZ).toArray⟩)) (y := .tmp 57) (k0 := [112, 101, 110, 97, 108, 116, 121]) (v := .pointer (some ⟨bp, 2, none⟩)) rfl rfl rfl (by kernel_rfl) (by kernel_rfl) (by simp [Ed]) hs12 hp12 (SH _) (by simp) (fun e => by cases e) (fun e13 w13 hs13 hp13 => ?_)
    refine SS (i := 13) (by kernel_rfl) ?_
    refine ST (l' := [true, true, true, true, true, true, true, true, true, true, true, true, true, true, false]) (zd := true) (by kernel_rfl) (by kernel_rfl) (dst := some 58) (ty := 167) (g := none) (by kernel_rfl) rfl (AL (x := .tmp 48) (v := .map (some b)) rfl) (BI hs13 (SH _) (by simp) (fun e => by cases e)) ?_
    refine SS (i := 14) (by kernel_rfl) ?_
    refine ST (l' := [true, true, true, true, true, true, true, true, true, true, true, true, true, true, true]) (zd := true) (by kernel_rfl) (by kernel_rfl) (dst := some 6) (ty := 167) (g := none) (by kernel_rfl) rfl (Az (x := .tmp 58) (v := .map (some b)) rfl) (BI hs13 (SH _) (by simp) (fun e => by cases e)) ?_
    exact SV (by kernel_rfl) ⟨_, b, hs13, hp13.congr (fun k => by by_cases a : k = [112, 111, 105, 110, 116, 115] <;> by_cases b : k = [109, 117, 108, 116, 105, 112, 108, 105, 101, 114] <;> by_cases c : k = [112, 101, 110, 97, 108, 116, 121] <;> simp_all [Ed, Eg]), rfl, rfl, rfl, rfl⟩
   ·
    refine SY (l' := [true, true, true, true, true, true, true, true, false, true, true, true, true, false, false]) (zd := true) (by kernel_rfl) (by kernel_rfl) (ty := 0) (g := none) (by kernel_rfl) rfl (mt := 167) (k := 9) (vt := 166) (m := .tmp 48) (x := .const (.string ⟨([112, 101, 110, 97, 108, 116, 121] : SZ).toArray⟩)) (y := .tmp 57) (k0 := [112, 101, 110, 97, 108, 116, 121]) (v := .pointer (some ⟨bp, 2, none⟩)) rfl rfl rfl (by kernel_rfl) (by kernel_rfl) (by simp [Ed]) hs11 hp11 (SH _) (by simp) (fun e => by cases e) (fun e14 w14 hs14 hp14 => ?_)
    refine SS (i := 8) (by kernel_rfl) ?_
    refine SY (l' := [true, true, true, true, true, true, true, true, true, true, true, true, true, false, false]) (zd := true) (by kernel_rfl) (by kernel_rfl) (ty := 0) (g := none) (by kernel_rfl) rfl (mt := 167) (k := 9) (vt := 166) (m := .tmp 48) (x := .const (.string ⟨([109, 117, 108, 116, 105, 112, 108, 105, 101, 114] : SZ).toArray⟩)) (y := .tmp 54) (k0 := [109, 117, 108, 116, 105, 112, 108, 105, 101, 114]) (v := .pointer (some ⟨bp, 1, none⟩)) rfl rfl rfl (by kernel_rfl) (by kernel_rfl) (by simp [Ed]) hs14 hp14 (SH _) (by simp) (fun e => by cases e) (fun e15 w15 hs15 hp15 => ?_)
    refine SS (i := 13) (by kernel_rfl) ?_
    refine ST (l' := [true, true, true, true, true, true, true, true, true, true, true, true, true, true, false]) (zd := true) (by kernel_rfl) (by kernel_rfl) (dst := some 58) (ty := 167) (g := none) (by kernel_rfl) rfl (AL (x := .tmp 48) (v := .map (some b)) rfl) (BI hs15 (SH _) (by simp) (fun e => by cases e)) ?_
    refine SS (i := 14) (by kernel_rfl) ?_
    refine ST (l' := [true, true, true, true, true, true, true, true, true, true, true, true, true, true, true]) (zd := true) (by kernel_rfl) (by kernel_rfl) (dst := some 6) (ty := 167) (g := none) (by kernel_rfl) rfl (Az (x := .tmp 58) (v := .map (some b)) rfl) (BI hs15 (SH _) (by simp) (fun e => by cases e)) ?_
    exact SV (by kernel_rfl) ⟨_, b, hs15, hp15.congr (fun k => by by_cases a : k = [112, 111, 105, 110, 116, 115] <;> by_cases b : k = [109, 117, 108, 116, 105, 112, 108, 105, 101, 114] <;> by_cases c : k = [112, 101, 110, 97, 108, 116, 121] <;> simp_all [Ed, Eg]), rfl, rfl, rfl, rfl⟩
  ·
   refine SY (l' := [true, true, true, true, false, true, true, true, true, true, true, true, false, false, false]) (zd := true) (by kernel_rfl) (by kernel_rfl) (ty := 0) (g := none) (by kernel_rfl) rfl (mt := 167) (k := 9) (vt := 166) (m := .tmp 48) (x := .const (.string ⟨([109, 117, 108, 116, 105, 112, 108, 105, 101, 114] : SZ).toArray⟩)) (y := .tmp 54) (k0 := [109, 117, 108, 116, 105, 112, 108, 105, 101, 114]) (v := .pointer (some ⟨bp, 1, none⟩)) rfl rfl rfl (by kernel_rfl) (by kernel_rfl) (by simp [Ed]) hs1 hp0 (SH _) (by simp) (fun e => by cases e) (fun e16 w16 hs16 hp16 => ?_)
   refine DWP.two (i := 4) (j := 12) (by kernel_rfl) ?_ ?_
   ·
    refine SY (l' := [true, true, true, true, true, true, true, true, true, true, true, true, false, false, false]) (zd := true) (by kernel_rfl) (by kernel_rfl) (ty := 0) (g := none) (by kernel_rfl) rfl (mt := 167) (k := 9) (vt := 166) (m := .tmp 48) (x := .const (.string ⟨([112, 111, 105, 110, 116, 115] : SZ).toArray⟩)) (y := .tmp 51) (k0 := [112, 111, 105, 110, 116, 115]) (v := .pointer (some ⟨bp, 0, none⟩)) rfl rfl rfl (by kernel_rfl) (by kernel_rfl) (by simp [Ed]) hs16 hp16 (SH _) (by simp) (fun e => by cases e) (fun e17 w17 hs17 hp17 => ?_)
    refine SS (i := 12) (by kernel_rfl) ?_
    refine SY (l' := [true, true, true, true, true, true, true, true, true, true, true, true, true, false, false]) (zd := true) (by kernel_rfl) (by kernel_rfl) (ty := 0) (g := none) (by kernel_rfl) rfl (mt := 167) (k := 9) (vt := 166) (m := .tmp 48) (x := .const (.string ⟨([112, 101, 110, 97, 108, 116, 121] : SZ).toArray⟩)) (y := .tmp 57) (k0 := [112, 101, 110, 97, 108, 116, 121]) (v := .pointer (some ⟨bp, 2, none⟩)) rfl rfl rfl (by kernel_rfl) (by kernel_rfl) (by simp [Ed]) hs17 hp17 (SH _) (by simp) (fun e => by cases e) (fun e18 w18 hs18 hp18 => ?_)
    refine SS (i := 13) (by kernel_rfl) ?_
    refine ST (l' := [true, true, true, true, true, true, true, true, true, true, true, true, true, true, false]) (zd := true) (by kernel_rfl) (by kernel_rfl) (dst := some 58) (ty := 167) (g := none) (by kernel_rfl) rfl (AL (x := .tmp 48) (v := .map (some b)) rfl) (BI hs18 (SH _) (by simp) (fun e => by cases e)) ?_
    refine SS (i := 14) (by kernel_rfl) ?_
    refine ST (l' := [true, true, true, true, true, true, true, true, true, true, true, true, true, true, true]) (zd := true) (by kernel_rfl) (by kernel_rfl) (dst := some 6) (ty := 167) (g := none) (by kernel_rfl) rfl (Az (x := .tmp 58) (v := .map (some b)) rfl) (BI hs18 (SH _) (by simp) (fun e => by cases e)) ?_
    exact SV (by kernel_rfl) ⟨_, b, hs18, hp18.congr (fun k => by by_cases a : k = [112, 111, 105, 110, 116, 115] <;> by_cases b : k = [109, 117, 108, 116, 105, 112, 108, 105, 101, 114] <;> by_cases c : k = [112, 101, 110, 97, 108, 116, 121] <;> simp_all [Ed, Eg]), rfl, rfl, rfl, rfl⟩
   ·
    refine SY (l' := [true, true, true, true, false, true, true, true, true, true, true, true, true, false, false]) (zd := true) (by kernel_rfl) (by kernel_rfl) (ty := 0) (g := none) (by kernel_rfl) rfl (mt := 167) (k := 9) (vt := 166) (m := .tmp 48) (x := .const (.string ⟨([112, 101, 110, 97, 108, 116, 121] : SZ).toArray⟩)) (y := .tmp 57) (k0 := [112, 101, 110, 97, 108, 116, 121]) (v := .pointer (some ⟨bp, 2, none⟩)) rfl rfl rfl (by kernel_rfl) (by kernel_rfl) (by simp [Ed]) hs16 hp16 (SH _) (by simp) (fun e => by cases e) (fun e19 w19 hs19 hp19 => ?_)
    refine SS (i := 4) (by kernel_rfl) ?_
    refine SY (l' := [true, true, true, true, true, true, true, true, true, true, true, true, true, false, false]) (zd := true) (by kernel_rfl) (by kernel_rfl) (ty := 0) (g := none) (by kernel_rfl) rfl (mt := 167) (k := 9) (vt := 166) (m := .tmp 48) (x := .const (.string ⟨([112, 111, 105, 110, 116, 115] : SZ).toArray⟩)) (y := .tmp 51) (k0 := [112, 111, 105, 110, 116, 115]) (v := .pointer (some ⟨bp, 0, none⟩)) rfl rfl rfl (by kernel_rfl) (by kernel_rfl) (by simp [Ed]) hs19 hp19 (SH _) (by simp) (fun e => by cases e) (fun e20 w20 hs20 hp20 => ?_)
    refine SS (i := 13) (by kernel_rfl) ?_
    refine ST (l' := [true, true, true, true, true, true, true, true, true, true, true, true, true, true, false]) (zd := true) (by kernel_rfl) (by kernel_rfl) (dst := some 58) (ty := 167) (g := none) (by kernel_rfl) rfl (AL (x := .tmp 48) (v := .map (some b)) rfl) (BI hs20 (SH _) (by simp) (fun e => by cases e)) ?_
    refine SS (i := 14) (by kernel_rfl) ?_
    refine ST (l' := [true, true, true, true, true, true, true, true, true, true, true, true, true, true, true]) (zd := true) (by kernel_rfl) (by kernel_rfl) (dst := some 6) (ty := 167) (g := none) (by kernel_rfl) rfl (Az (x := .tmp 58) (v := .map (some b)) rfl) (BI hs20 (SH _) (by simp) (fun e => by cases e)) ?_
    exact SV (by kernel_rfl) ⟨_, b, hs20, hp20.congr (fun k => by by_cases a : k = [112, 111, 105, 110, 116, 115] <;> by_cases b : k = [109, 117, 108, 116, 105, 112, 108, 105, 101, 114] <;> by_cases c : k = [112, 101, 110, 97, 108, 116, 121] <;> simp_all [Ed, Eg]), rfl, rfl, rfl, rfl⟩
  ·
   refine SY (l' := [true, true, true, true, false, true, true, true, false, true, true, true, true, false, false]) (zd := true) (by kernel_rfl) (by kernel_rfl) (ty := 0) (g := none) (by kernel_rfl) rfl (mt := 167) (k := 9) (vt := 166) (m := .tmp 48) (x := .const (.string ⟨([112, 101, 110, 97, 108, 116, 121] : SZ).toArray⟩)) (y := .tmp 57) (k0 := [112, 101, 110, 97, 108, 116, 121]) (v := .pointer (some ⟨bp, 2, none⟩)) rfl rfl rfl (by kernel_rfl) (by kernel_rfl) (by simp [Ed]) hs1 hp0 (SH _) (by simp) (fun e => by cases e) (fun e21 w21 hs21 hp21 => ?_)
   refine DWP.two (i := 4) (j := 8) (by kernel_rfl) ?_ ?_
   ·
    refine SY (l' := [true, true, true, true, true, true, true, true, false, true, true, true, true, false, false]) (zd := true) (by kernel_rfl) (by kernel_rfl) (ty := 0) (g := none) (by kernel_rfl) rfl (mt := 167) (k := 9) (vt := 166) (m := .tmp 48) (x := .const (.string ⟨([112, 111, 105, 110, 116, 115] : SZ).toArray⟩)) (y := .tmp 51) (k0 := [112, 111, 105, 110, 116, 115]) (v := .pointer (some ⟨bp, 0, none⟩)) rfl rfl rfl (by kernel_rfl) (by kernel_rfl) (by simp [Ed]) hs21 hp21 (SH _) (by simp) (fun e => by cases e) (fun e22 w22 hs22 hp22 => ?_)
    refine SS (i := 8) (by kernel_rfl) ?_
    refine SY (l' := [true, true, true, true, true, true, true, true, true, true, true, true, true, false, false]) (zd := true) (by kernel_rfl) (by kernel_rfl) (ty := 0) (g := none) (by kernel_rfl) rfl (mt := 167) (k := 9) (vt := 166) (m := .tmp 48) (x := .const (.string ⟨([109, 117, 108, 116, 105, 112, 108, 105, 101, 114] : SZ).toArray⟩)) (y := .tmp 54) (k0 := [109, 117, 108, 116, 105, 112, 108, 105, 101, 114]) (v := .pointer (some ⟨bp, 1, none⟩)) rfl rfl rfl (by kernel_rfl) (by kernel_rfl) (by simp [Ed]) hs22 hp22 (SH _) (by simp) (fun e => by cases e) (fun e23 w23 hs23 hp23 => ?_)
    refine SS (i := 13) (by kernel_rfl) ?_
    refine ST (l' := [true, true, true, true, true, true, true, true, true, true, true, true, true, true, false]) (zd := true) (by kernel_rfl) (by kernel_rfl) (dst := some 58) (ty := 167) (g := none) (by kernel_rfl) rfl (AL (x := .tmp 48) (v := .map (some b)) rfl) (BI hs23 (SH _) (by simp) (fun e => by cases e)) ?_
    refine SS (i := 14) (by kernel_rfl) ?_
    refine ST (l' := [true, true, true, true, true, true, true, true, true, true, true, true, true, true, true]) (zd := true) (by kernel_rfl) (by kernel_rfl) (dst := some 6) (ty := 167) (g := none) (by kernel_rfl) rfl (Az (x := .tmp 58) (v := .map (some b)) rfl) (BI hs23 (SH _) (by simp) (fun e => by cases e)) ?_
    exact SV (by kernel_rfl) ⟨_, b, hs23, hp23.congr (fun k => by by_cases a : k = [112, 111, 105, 110, 116, 115] <;> by_cases b : k = [109, 117, 108, 116, 105, 112, 108, 105, 101, 114] <;> by_cases c : k = [112, 101, 110, 97, 108, 116, 121] <;> simp_all [Ed, Eg]), rfl, rfl, rfl, rfl⟩
   ·
    refine SY (l' := [true, true, true, true, false, true, true, true, true, true, true, true, true, false, false]) (zd := true) (by kernel_rfl) (by kernel_rfl) (ty := 0) (g := none) (by kernel_rfl) rfl (mt := 167) (k := 9) (vt := 166) (m := .tmp 48) (x := .const (.string ⟨([109, 117, 108, 116, 105, 112, 108, 105, 101, 114] : SZ).toArray⟩)) (y := .tmp 54) (k0 := [109, 117, 108, 116, 105, 112, 108, 105, 101, 114]) (v := .pointer (some ⟨bp, 1, none⟩)) rfl rfl rfl (by kernel_rfl) (by kernel_rfl) (by simp [Ed]) hs21 hp21 (SH _) (by simp) (fun e => by cases e) (fun e24 w24 hs24 hp24 => ?_)
    refine SS (i := 4) (by kernel_rfl) ?_
    refine SY (l' := [true, true, true, true, true, true, true, true, true, true, true, true, true, false, false]) (zd := true) (by kernel_rfl) (by kernel_rfl) (ty := 0) (g := none) (by kernel_rfl) rfl (mt := 167) (k := 9) (vt := 166) (m := .tmp 48) (x := .const (.string ⟨([112, 111, 105, 110, 116, 115] : SZ).toArray⟩)) (y := .tmp 51) (k0 := [112, 111, 105, 110, 116, 115]) (v := .pointer (some ⟨bp, 0, none⟩)) rfl rfl rfl (by kernel_rfl) (by kernel_rfl) (by simp [Ed]) hs24 hp24 (SH _) (by simp) (fun e => by cases e) (fun e25 w25 hs25 hp25 => ?_)
    refine SS (i := 13) (by kernel_rfl) ?_
    refine ST (l' := [true, true, true, true, true, true, true, true, true, true, true, true, true, true, false]) (zd := true) (by kernel_rfl) (by kernel_rfl) (dst := some 58) (ty := 167) (g := none) (by kernel_rfl) rfl (AL (x := .tmp 48) (v := .map (some b)) rfl) (BI hs25 (SH _) (by simp) (fun e => by cases e)) ?_
    refine SS (i := 14) (by kernel_rfl) ?_
    refine ST (l' := [true, true, true, true, true, true, true, true, true, true, true, true, true, true, true]) (zd := true) (by kernel_rfl) (by kernel_rfl) (dst := some 6) (ty := 167) (g := none) (by kernel_rfl) rfl (Az (x := .tmp 58) (v := .map (some b)) rfl) (BI hs25 (SH _) (by simp) (fun e => by cases e)) ?_
    exact SV (by kernel_rfl) ⟨_, b, hs25, hp25.congr (fun k => by by_cases a : k = [112, 111, 105, 110, 116, 115] <;> by_cases b : k = [109, 117, 108, 116, 105, 112, 108, 105, 101, 114] <;> by_cases c : k = [112, 101, 110, 97, 108, 116, 121] <;> simp_all [Ed, Eg]), rfl, rfl, rfl, rfl⟩
 ·rintro f' w' ⟨e, b, h1, h2, h3, h4, h5⟩
  exact k f' w' e b h1 h2 h3 ⟨h4, h5⟩
def EJ (N : Nat) (x0 : Aa) (x1 : C6) : Option (Af ⊕ (Aa × C6)) :=
 ((idx x0.l_ 0).bind fun x21 => ((Ap N x0 ([114, 101, 112, 101, 97, 116] : SZ)).bind fun r41 => (bif r41.2 then ((AH N r41.1 ([58] : SZ)).bind fun r51 => sk r51 (fun b242 => some (.inl b242)) (fun r54 => ((Bv N r54).bind fun r61 => sk r61 (fun b235 => some (.inl b235)) (fun r64 => ((CV N r64.1).bind fun r77 => sk r77 (fun b228 => some (.inl b228)) (fun r80 => (((D7 N r64.1 x1.Repeats x21.at_).bind fun r100 => sk r100 (fun b110 => some (.inl b110)) (fun r103 => some (.inr ()))).bind fun j92 => sk j92 (fun b222 => some (.inl b222)) (fun J99 => ((A0 N r64.1 r64.2 1).bind fun r118 => sk r118 (fun b215 => some (.inl b215)) (fun r121 => (((C4 x1.Repeats [({ Op := 0, Value := 0, Kids := ([] : List Expr) } : Expr)]).bind fun r142 => ((idx r142 (x1.Repeats.length : Int)).bind fun x151 => some (r142.set ((x1.Repeats.length : Int) : Int).toNat r64.2.Expr))).bind fun j133 => some (.inr (r64.1, ({ Points := x1.Points, Multipliers := x1.Multipliers, Penalties := x1.Penalties, Repeats := j133 } : C6)))))))))))))) else (bif (x21.text_ == ([112, 111, 105, 110, 116, 115] : SZ)) then ((Ap N r41.1 x21.text_).bind fun r264 => (bif (!r264.2) then ((AU N r264.1 60 x21.at_).bind fun r274 => sk r274 (fun b279 => some (.inl b279)) (fun r277 => none)) else ((AH N r264.1 ([58] : SZ)).bind fun r286 => sk r286 (fun b489 => some (.inl b489)) (fun r289 => ((Bv N r289).bind fun r296 => sk r296 (fun b482 => some (.inl b482)) (fun r299 => ((AH N r299.1 ([61, 62] : SZ)).bind fun r319 => sk r319 (fun b475 => some (.inl b475)) (fun r322 => ((Bv N r322).bind fun r329 => sk r329 (fun b468 => some (.inl b468)) (fun r332 => ((CV N r332.1).bind fun r354 => sk r354 (fun b461 => some (.inl b461)) (fun r357 => (((Dn N r332.1 x1.Points x21.at_).bind fun r378 => sk r378 (fun b388 => some (.inl b388)) (fun r381 => some (.inr ()))).bind fun j369 => sk j369 (fun b455 => some (.inl b455)) (fun J377 => ((A0 N r332.1 r299.2 2).bind fun r396 => sk r396 (fun b448 => some (.inl b448)) (fun r399 => ((A0 N r332.1 r332.2 1).bind fun r406 => sk r406 (fun b441 => some (.inl b441)) (fun r409 => (((C4 x1.Points [({ When := r299.2.Expr, Then := r332.2.Expr } : Clause)]).bind fun r430 => some r430).bind fun j421 => some (.inr (r332.1, ({ Points := j421, Multipliers := x1.Multipliers, Penalties := x1.Penalties, Repeats := x1.Repeats } : C6)))))))))))))))))))))) else none))))
theorem Gr : Aq Tryz.prog 81 := fun _ _ => by kernel_rfl
theorem GT (N : Nat) {wb w0 : World} {Fb F0 : Mem} {Lf : Own} (hG : CA F0) (bp0 : Nat) (x0 : Aa) (a0_0 : S0) (n0_0 : Nat) (hb0_0 : LC x0.l_.length n0_0) (hs0_0 : SlA Ag F0 a0_0 x0.l_) (bp1 : Nat) (x1 : C6) (a1_0 : S0) (n1_0 : Nat) (e1_0 : Option Nat × Obj) (a1_1 : S0) (n1_1 : Nat) (e1_1 : Option Nat × Obj) (a1_2 : S0) (n1_2 : Nat) (e1_2 : Option Nat × Obj) (a1_3 : S0) (n1_3 : Nat) (e1_3 : Option Nat × Obj) (hr1_0 : Av AC 56 F0 a1_0 n1_0 x1.Points e1_0) (hr1_1 : Av AC 56 F0 a1_1 n1_1 x1.Multipliers e1_1) (hr1_2 : Av AC 56 F0 a1_2 n1_2 x1.Penalties e1_2) (hr1_3 : Av Ar 33 F0 a1_3 n1_3 x1.Repeats e1_3) (hs0 : HS wb Fb w0 F0 ((sb bp0 (Ad x0 a0_0 n0_0) 100) :: (sb bp1 (BC x1 a1_0 n1_0 a1_1 n1_1 a1_2 n1_2 a1_3 n1_3) 26) :: e1_0 :: e1_1 :: e1_2 :: e1_3 :: Lf)) (r : (Af ⊕ (Aa × C6))) (h : EJ N x0 x1 = some r) :
  Calls Tryz.prog 81 ([(pt bp0 0), (pt bp1 0)] : List Value).toArray w0 (BK wb Fb F0 Lf r (fun b => (.iface 158 (.agg (AK b)))) fun a F' v L' => ∃ (aq0_0 : S0) (nq0_0 : Nat) (aq1_0 : S0) (nq1_0 : Nat) (eq1_0 : Option Nat × Obj) (aq1_1 : S0) (nq1_1 : Nat) (eq1_1 : Option Nat × Obj) (aq1_2 : S0) (nq1_2 : Nat) (eq1_2 : Option Nat × Obj) (aq1_3 : S0) (nq1_3 : Nat) (eq1_3 : Option Nat × Obj), v = (.tuple #[]) /\ L' = (sb bp0 (Ad a.1 aq0_0 nq0_0) 100) :: (sb bp1 (BC a.2 aq1_0 nq1_0 aq1_1 nq1_1 aq1_2 nq1_2 aq1_3 nq1_3) 26) :: eq1_0 :: eq1_1 :: eq1_2 :: eq1_3 :: Lf /\ LC a.1.l_.length nq0_0 /\ SlA Ag F' aq0_0 a.1.l_ /\ Av AC 56 F' aq1_0 nq1_0 a.2.Points eq1_0 /\ Av AC 56 F' aq1_1 nq1_1 a.2.Multipliers eq1_1 /\ Av AC 56 F' aq1_2 nq1_2 a.2.Penalties eq1_2 /\ Av Ar 33 F' aq1_3 nq1_3 a.2.Repeats eq1_3) := by
 refine Go 114 Tryz.func81 ?_
 refine Sq (Rg [0, 1, 2, 3, 4, 5, 6, 7] ?_)
 refine Vs 3 ?_
 refine Ld hs0.at0 ?_
 obtain ⟨x21, hx22, h24⟩ := bind_some h
 obtain ⟨hi23, hx22'⟩ := Aw hx22
 obtain ⟨b25, o26, C27, E28, fz29, rfl, hF31, hE32⟩ := SQ hs0_0 hx22'
 have hc34 := hE32 _ _ hx22'
 refine Ix hi23 ?_
 refine Lx 0 (hs0.pers _ _ hF31) hc34 ?_
 refine Al' 97 #[(vi 0), (vi 0), (.string ⟨(([] : SZ)).toArray⟩)] hs0 (fun b35 w36 hs37 => ?_)
 refine St0 (Ba x21) hs37 (fun w38 hs39 => ?_)
 refine Nss ?_
 refine Sq (Rg [0, 1] ?_)
 refine Vs 1 ?_
 have hs40 := hs39.pk6.pk6.pk6.pk6.pk6.pk5
 obtain ⟨r41, hr42, h43⟩ := bind_some h24
 refine CB AG (AJ N bp0 x0 (some ⟨b25, o26, none⟩) n0_0 hb0_0 hs0_0 (([114, 101, 112, 101, 97, 116] : SZ)) hs40.pk6 _ hr42) ?_
 rintro _ F1 w44 _ hs45 le46 ⟨ar41_0_0, nr41_0_0, rfl, rfl, hbr41_0_0, hsr41_0_0⟩
 refine Nt ?_
 refine Cd h43 (fun hb48 h49 => ?_) (fun hb48 h50 => ?_)
 ·refine Sq (Rg [0, 1] ?_)
  refine Vs 1 ?_
  obtain ⟨r51, hr52, h53⟩ := bind_some h49
  refine CP A2 (A5 N bp0 r41.1 ar41_0_0 nr41_0_0 hbr41_0_0 hsr41_0_0 (([58] : SZ)) hs45 _ hr52) ?_ ?_
  ·rintro r54 _ F2 w56 _ rfl hs57 le58 ⟨ar54_0_0, nr54_0_0, rfl, rfl, hbr54_0_0, hsr54_0_0⟩
   have h60 := BU h53
   refine Nss (Rg [0, 1, 2, 3] ?_)
   refine Vs 1 ?_
   obtain ⟨r61, hr62, h63⟩ := bind_some h60
   refine CP BV (B3 N (hG.mono (le46.trans le58)) bp0 r54 ar54_0_0 nr54_0_0 hbr54_0_0 hsr54_0_0 hs57 _ hr62) ?_ ?_
   ·rintro r64 _ F3 w66 _ rfl hs67 le68 ⟨ar64_0_0, nr64_0_0, ar64_1_2, nr64_1_2, rfl, rfl, hbr64_0_0, hsr64_0_0, hbr64_1_2, hsr64_1_2⟩
    have h70 := BU h63
    refine Al' 113 #[(vi 0), (vi 0), (.slice none ([] : List Expr).length 0), (vi 0)] hs67 (fun b71 w72 hs73 => ?_)
    refine St0 (Au r64.2 ar64_1_2 nr64_1_2) hs73 (fun w74 hs75 => ?_)
    refine Nss (Rg [0, 1] ?_)
    refine Vs 1 ?_
    have hs76 := hs75.pk7.pk7.pk7.pk7.pk7.pk7
    obtain ⟨r77, hr78, h79⟩ := bind_some h70
    refine CP Dq (DY N bp0 r64.1 ar64_0_0 nr64_0_0 hbr64_0_0 hsr64_0_0 hs76.pk6.pk7 _ hr78) ?_ ?_
    ·rintro r80 _ F4 w82 _ rfl hs83 le84 ⟨rfl, rfl⟩
     have h86 := BU h79
     refine Nss ?_
     obtain ⟨j92, hj97, h98⟩ := bind_some h86
     refine RDP 8 8 [(sb bp0 (Ad r64.1 ar64_0_0 nr64_0_0) 100), (sb b71 (Au r64.2 ar64_1_2 nr64_1_2) 113), (sb b35 (Ba x21) 97), (sb bp1 (BC x1 a1_0 n1_0 a1_1 n1_1 a1_2 n1_2 a1_3 n1_3) 26), e1_0, e1_1, e1_2, e1_3] [] hs83 (fun c d w => d = [] /\ ∃ (b : Af) (Fp : Mem), j92 = .inl b /\ c = [{ v := (.iface 158 (.agg (AK b))), recovered := false }] /\ HS wb Fb w Fp Lf /\ SG F4 Fp) (fun f w => ∃ (J99 : Unit), j92 = .inr J99 /\ ∃ (F5 : Mem), HS wb Fb w F5 ((sb bp0 (Ad r64.1 ar64_0_0 nr64_0_0) 100) :: (sb b71 (Au r64.2 ar64_1_2 nr64_1_2) 113) :: (sb bp1 (BC x1 a1_0 n1_0 a1_1 n1_1 a1_2 n1_2 a1_3 n1_3) 26) :: e1_0 :: e1_1 :: e1_2 :: e1_3 :: Lf) /\ SG F4 F5 /\ FI f [] [(0, (pt bp0 0)), (1, (pt bp1 0)), (5, (pt b71 0))]) (fun wd87 hw88 => ?_) ?_ ?_
     ·refine Dv [0, 1, 2, 3] ?_
      refine Dl 4 (fun _ hq => (hq.1.2 3 _ _ rfl)) ?_
      refine Dv [5] ?_
      refine Dl 6 (fun _ hq => (hq.1.2 2 _ _ rfl)) ?_
      refine D1 7 ?_
      obtain ⟨r100, hr101, h102⟩ := bind_some hj97
      refine DCP FB (FS N bp0 r64.1 ar64_0_0 nr64_0_0 hbr64_0_0 (SJ hsr64_0_0 le84) x1.Repeats a1_3 n1_3 x21.at_ hw88 _ hr101) ?_ ?_
      ·rintro r103 _ F6 w105 _ rfl hs106 le107 ⟨rfl, rfl⟩
       have h109 := BU h102
       refine ⟨BI hs106 le107 (by simp) (zdT (by kernel_rfl)), ?_⟩
       obtain rfl := Ab h109
       exact SV (by kernel_rfl) ⟨_, rfl, F6, hs106.dr2, le107, fI⟩
      ·rintro b110 F7 w111 rfl hs112 le113
       have h114 := Bo h102
       obtain rfl := Ab h114
       have hs116 := hs112.dr0.dr0.dr0.dr0.dr0
       exact ⟨rfl, _, _, rfl, rfl, hs116.dr0.dr0, le113⟩
     ·rintro f w89 ⟨J99, rfl, F5, hs90, le91, ⟨_, rfl⟩⟩
      have h117 := BU h98
      refine Ac ?_
      refine Sq (Rg [0, 1, 2] ?_)
      refine Vs 1 ?_
      refine Ld hs90.at1 ?_
      obtain ⟨r118, hr119, h120⟩ := bind_some h117
      refine CP B2 (Ca N bp0 r64.1 ar64_0_0 nr64_0_0 hbr64_0_0 (SJ hsr64_0_0 (le84.trans le91)) r64.2 ar64_1_2 nr64_1_2 hbr64_1_2 (SJ hsr64_1_2 (le84.trans le91)) 1 hs90 _ hr119) ?_ ?_
      ·rintro r121 _ F8 w123 _ rfl hs124 le125 ⟨rfl, rfl⟩
       have h127 := BU h120
       refine Nss ?_
       obtain ⟨j133, hj135, h136⟩ := bind_some h127
       refine RD 14 14 [(sb bp0 (Ad r64.1 ar64_0_0 nr64_0_0) 100), (sb b71 (Au r64.2 ar64_1_2 nr64_1_2) 113), e1_0, e1_1, e1_2] [] hs124 (fun f w => ∃ (F9 : Mem) (aj133_0 : S0) (nj133_0 : Nat) (ej133_0 : Option Nat × Obj), HS wb Fb w F9 ((sb bp0 (Ad r64.1 ar64_0_0 nr64_0_0) 100) :: (sb bp1 #[(.slice a1_0 x1.Points.length n1_0), (.slice a1_1 x1.Multipliers.length n1_1), (.slice a1_2 x1.Penalties.length n1_2), (.slice aj133_0 j133.length nj133_0)] 26) :: e1_0 :: e1_1 :: e1_2 :: ej133_0 :: Lf) /\ SG F8 F9 /\ FI f [] [] /\ Av Ar 33 F9 aj133_0 nj133_0 j133 ej133_0) (fun wd128 hw129 => ?_) ?_
       ·refine Dv [0, 1, 2, 4] ?_
        refine Dl 5 (fun _ hq => (hq.1.2 1 _ _ rfl)) ?_
        refine DWP.two (i := 3) (j := 7) (by kernel_rfl) ?_ ?_
        ·refine ST (l' := [true, true, true, true, true, true, false, false, false, false, false, false, false, false]) (zd := true) (by kernel_rfl) (by kernel_rfl) (dst := (some 39)) (ty := 24) (g := none) (by kernel_rfl) rfl (B6 (t := 24) (x := (.tmp 38)) (b := bp1) (o := 3) (g := false) (s := 1) (C := (BC x1 a1_0 n1_0 a1_1 n1_1 a1_2 n1_2 a1_3 n1_3)) (v := (.slice a1_3 x1.Repeats.length n1_3)) rfl (by kernel_rfl) hw129.at2 rfl rfl rfl) (BI hw129 (SH _) (by simp) (fun e => by cases e)) ?_
         refine Dv [6] ?_
         refine D1 7 ?_
         refine DBs 33 [(vi 0), (vi 0), (.slice none ([] : List Expr).length 0)] hw129 (SH _) (fun b137 w138 hs139 => ?_)
         have hr141 : Av Ar 33 F8 (some ⟨b137, 0, none⟩) 1 [({ Op := 0, Value := 0, Kids := ([] : List Expr) } : Expr)] (some b137, .cells ([(vi 0), (vi 0), (.slice none ([] : List Expr).length 0)] : List Value).toArray 33 (0, 0)) := SX ⟨(A6 ⟨none, 0, rfl, SK, (.inl rfl)⟩), rfl⟩ (by simp)
         refine D1 8 ?_
         obtain ⟨r142, hap143, h144⟩ := bind_some hj135
         refine Sd Pn hs139 (hr1_3.mono (((((le46.trans le58).trans le68).trans le84).trans le91).trans le125)) (hs139.rd0 hr141) hap143 (SH _) (fun a145 n146 e147 w148 hs149 hr150 => ?_)
         obtain ⟨x151, hx152, h154⟩ := bind_some h144
         obtain ⟨hi153, hx152'⟩ := Aw hx152
         obtain ⟨b155, C156, rfl, rfl, hE159⟩ := Av.open hr150 hx152'
         have hr160 := hr150
         obtain ⟨ae161_2, ne161_2, hc162, hbe161_2, hse161_2⟩ := (AR (hE159 _ _ hx152'))
         refine Dj 9 hi153 ?_
         refine Dv [11, 12] ?_
         refine DWP.two (i := 10) (j := 13) (by kernel_rfl) ?_ ?_
         ·refine Ay.storeRow (l' := [true, true, true, true, true, true, true, true, true, true, true, true, true, false]) (zd := true) (by kernel_rfl) (by kernel_rfl) (ty := 0) (g := none) (by kernel_rfl) rfl (x := (.tmp 45)) (y := (.tmp 41)) (t := 33) (v := (.agg (Ai r64.2.Expr ar64_1_2 nr64_1_2))) (gg := true) (b := b155) (j := ((x1.Repeats.length : Int) : Int).toNat) (C := C156) (T := Ar) (E := 33) (u := r64.2.Expr) rfl rfl (by kernel_rfl) hs149 (k := 7) rfl hr160 hx152' (A6 ⟨ar64_1_2, nr64_1_2, rfl, hbr64_1_2, (SJ hsr64_1_2 ((le84.trans le91).trans le125))⟩) rfl (SH _) (fun _ => by simp) (fun e => by cases e) (fun C163 w164 (hs165 : HS wb Fb w164 F8 ((some b137, .cells ([(vi 0), (vi 0), (.slice none ([] : List Expr).length 0)] : List Value).toArray 33 (0, 0)) :: (sb bp0 (Ad r64.1 ar64_0_0 nr64_0_0) 100) :: (sb b71 (Au r64.2 ar64_1_2 nr64_1_2) 113) :: (sb bp1 (BC x1 a1_0 n1_0 a1_1 n1_1 a1_2 n1_2 a1_3 n1_3) 26) :: e1_0 :: e1_1 :: e1_2 :: (some b155, .cells C163 33 (0, 0)) :: Lf)) hr166 => ?_)
          refine D1 13 ?_
          refine Ay.store (l' := [true, true, true, true, true, true, true, true, true, true, true, true, true, true]) (zd := true) (by kernel_rfl) (by kernel_rfl) (ty := 0) (g := none) (by kernel_rfl) rfl (x := (.tmp 47)) (y := (.tmp 44)) (t := 24) (gg := false) (s := 1) (v := (.slice (some ⟨b155, 0, none⟩) (r142.set ((x1.Repeats.length : Int) : Int).toNat r64.2.Expr).length n146)) (b := bp1) (o := 3) (C := (BC x1 a1_0 n1_0 a1_1 n1_1 a1_2 n1_2 a1_3 n1_3)) rfl (LR rfl) (by kernel_rfl) hs165 (k := 3) rfl rfl rfl rfl (C' := #[(.slice a1_0 x1.Points.length n1_0), (.slice a1_1 x1.Multipliers.length n1_1), (.slice a1_2 x1.Penalties.length n1_2), (.slice (some ⟨b155, 0, none⟩) (r142.set ((x1.Repeats.length : Int) : Int).toNat r64.2.Expr).length n146)]) rfl (SH _) (by simp) (fun e => by cases e) (fun w167 (hs168 : HS wb Fb w167 F8 ((some b137, .cells ([(vi 0), (vi 0), (.slice none ([] : List Expr).length 0)] : List Value).toArray 33 (0, 0)) :: (sb bp0 (Ad r64.1 ar64_0_0 nr64_0_0) 100) :: (sb b71 (Au r64.2 ar64_1_2 nr64_1_2) 113) :: (sb bp1 #[(.slice a1_0 x1.Points.length n1_0), (.slice a1_1 x1.Multipliers.length n1_1), (.slice a1_2 x1.Penalties.length n1_2), (.slice (some ⟨b155, 0, none⟩) (r142.set ((x1.Repeats.length : Int) : Int).toNat r64.2.Expr).length n146)] 26) :: e1_0 :: e1_1 :: e1_2 :: (some b155, .cells C163 33 (0, 0)) :: Lf)) => ?_)
          obtain rfl := Ab h154
          exact SV (by kernel_rfl) ⟨F8, (some ⟨b155, 0, none⟩), n146, (some b155, .cells C163 33 (0, 0)), hs168.dr0.dr1, (SH _), fI, hr166⟩
         ·refine Rx #[(.slice a1_0 x1.Points.length n1_0), (.slice a1_1 x1.Multipliers.length n1_1), (.slice a1_2 x1.Penalties.length n1_2), (.slice (some ⟨b155, 0, none⟩) r142.length n146)] hs149 (SH _) (fun w169 hs170 => ?_)
          refine D1 10 ?_
          refine Ay.storeRow (l' := [true, true, true, true, true, true, true, true, true, true, true, true, true, true]) (zd := true) (by kernel_rfl) (by kernel_rfl) (ty := 0) (g := none) (by kernel_rfl) rfl (x := (.tmp 45)) (y := (.tmp 41)) (t := 33) (v := (.agg (Ai r64.2.Expr ar64_1_2 nr64_1_2))) (gg := true) (b := b155) (j := ((x1.Repeats.length : Int) : Int).toNat) (C := C156) (T := Ar) (E := 33) (u := r64.2.Expr) rfl rfl (by kernel_rfl) hs170 (k := 7) rfl hr160 hx152' (A6 ⟨ar64_1_2, nr64_1_2, rfl, hbr64_1_2, (SJ hsr64_1_2 ((le84.trans le91).trans le125))⟩) rfl (SH _) (fun _ => by simp) (fun e => by cases e) (fun C171 w172 (hs173 : HS wb Fb w172 F8 ((some b137, .cells ([(vi 0), (vi 0), (.slice none ([] : List Expr).length 0)] : List Value).toArray 33 (0, 0)) :: (sb bp0 (Ad r64.1 ar64_0_0 nr64_0_0) 100) :: (sb b71 (Au r64.2 ar64_1_2 nr64_1_2) 113) :: (sb bp1 #[(.slice a1_0 x1.Points.length n1_0), (.slice a1_1 x1.Multipliers.length n1_1), (.slice a1_2 x1.Penalties.length n1_2), (.slice (some ⟨b155, 0, none⟩) r142.length n146)] 26) :: e1_0 :: e1_1 :: e1_2 :: (some b155, .cells C171 33 (0, 0)) :: Lf)) hr174 => ?_)
          have hs175 : HS wb Fb w172 F8 ((some b137, .cells ([(vi 0), (vi 0), (.slice none ([] : List Expr).length 0)] : List Value).toArray 33 (0, 0)) :: (sb bp0 (Ad r64.1 ar64_0_0 nr64_0_0) 100) :: (sb b71 (Au r64.2 ar64_1_2 nr64_1_2) 113) :: (sb bp1 #[(.slice a1_0 x1.Points.length n1_0), (.slice a1_1 x1.Multipliers.length n1_1), (.slice a1_2 x1.Penalties.length n1_2), (.slice (some ⟨b155, 0, none⟩) (r142.set ((x1.Repeats.length : Int) : Int).toNat r64.2.Expr).length n146)] 26) :: e1_0 :: e1_1 :: e1_2 :: (some b155, .cells C171 33 (0, 0)) :: Lf) := by have hq := hs173; simp only [List.length_set] at hq ⊢; exact hq
          obtain rfl := Ab h154
          exact SV (by kernel_rfl) ⟨F8, (some ⟨b155, 0, none⟩), n146, (some b155, .cells C171 33 (0, 0)), hs175.dr0.dr1, (SH _), fI, hr174⟩
        ·refine DBs 33 [(vi 0), (vi 0), (.slice none ([] : List Expr).length 0)] hw129 (SH _) (fun b176 w177 hs178 => ?_)
         have hr180 : Av Ar 33 F8 (some ⟨b176, 0, none⟩) 1 [({ Op := 0, Value := 0, Kids := ([] : List Expr) } : Expr)] (some b176, .cells ([(vi 0), (vi 0), (.slice none ([] : List Expr).length 0)] : List Value).toArray 33 (0, 0)) := SX ⟨(A6 ⟨none, 0, rfl, SK, (.inl rfl)⟩), rfl⟩ (by simp)
         refine D1 3 ?_
         refine ST (l' := [true, true, true, true, true, true, false, true, false, false, false, false, false, false]) (zd := true) (by kernel_rfl) (by kernel_rfl) (dst := (some 39)) (ty := 24) (g := none) (by kernel_rfl) rfl (B6 (t := 24) (x := (.tmp 38)) (b := bp1) (o := 3) (g := false) (s := 1) (C := (BC x1 a1_0 n1_0 a1_1 n1_1 a1_2 n1_2 a1_3 n1_3)) (v := (.slice a1_3 x1.Repeats.length n1_3)) rfl (by kernel_rfl) hs178.at3 rfl rfl rfl) (BI hs178 (SH _) (by simp) (fun e => by cases e)) ?_
         refine Dv [6] ?_
         refine D1 8 ?_
         obtain ⟨r181, hap182, h183⟩ := bind_some hj135
         refine Sd Pn hs178 (hr1_3.mono (((((le46.trans le58).trans le68).trans le84).trans le91).trans le125)) (hs178.rd0 hr180) hap182 (SH _) (fun a184 n185 e186 w187 hs188 hr189 => ?_)
         obtain ⟨x190, hx191, h193⟩ := bind_some h183
         obtain ⟨hi192, hx191'⟩ := Aw hx191
         obtain ⟨b194, C195, rfl, rfl, hE198⟩ := Av.open hr189 hx191'
         have hr199 := hr189
         obtain ⟨ae200_2, ne200_2, hc201, hbe200_2, hse200_2⟩ := (AR (hE198 _ _ hx191'))
         refine Dj 9 hi192 ?_
         refine Dv [11, 12] ?_
         refine DWP.two (i := 10) (j := 13) (by kernel_rfl) ?_ ?_
         ·refine Ay.storeRow (l' := [true, true, true, true, true, true, true, true, true, true, true, true, true, false]) (zd := true) (by kernel_rfl) (by kernel_rfl) (ty := 0) (g := none) (by kernel_rfl) rfl (x := (.tmp 45)) (y := (.tmp 41)) (t := 33) (v := (.agg (Ai r64.2.Expr ar64_1_2 nr64_1_2))) (gg := true) (b := b194) (j := ((x1.Repeats.length : Int) : Int).toNat) (C := C195) (T := Ar) (E := 33) (u := r64.2.Expr) rfl rfl (by kernel_rfl) hs188 (k := 7) rfl hr199 hx191' (A6 ⟨ar64_1_2, nr64_1_2, rfl, hbr64_1_2, (SJ hsr64_1_2 ((le84.trans le91).trans le125))⟩) rfl (SH _) (fun _ => by simp) (fun e => by cases e) (fun C202 w203 (hs204 : HS wb Fb w203 F8 ((some b176, .cells ([(vi 0), (vi 0), (.slice none ([] : List Expr).length 0)] : List Value).toArray 33 (0, 0)) :: (sb bp0 (Ad r64.1 ar64_0_0 nr64_0_0) 100) :: (sb b71 (Au r64.2 ar64_1_2 nr64_1_2) 113) :: (sb bp1 (BC x1 a1_0 n1_0 a1_1 n1_1 a1_2 n1_2 a1_3 n1_3) 26) :: e1_0 :: e1_1 :: e1_2 :: (some b194, .cells C202 33 (0, 0)) :: Lf)) hr205 => ?_)
          refine D1 13 ?_
          refine Ay.store (l' := [true, true, true, true, true, true, true, true, true, true, true, true, true, true]) (zd := true) (by kernel_rfl) (by kernel_rfl) (ty := 0) (g := none) (by kernel_rfl) rfl (x := (.tmp 47)) (y := (.tmp 44)) (t := 24) (gg := false) (s := 1) (v := (.slice (some ⟨b194, 0, none⟩) (r181.set ((x1.Repeats.length : Int) : Int).toNat r64.2.Expr).length n185)) (b := bp1) (o := 3) (C := (BC x1 a1_0 n1_0 a1_1 n1_1 a1_2 n1_2 a1_3 n1_3)) rfl (LR rfl) (by kernel_rfl) hs204 (k := 3) rfl rfl rfl rfl (C' := #[(.slice a1_0 x1.Points.length n1_0), (.slice a1_1 x1.Multipliers.length n1_1), (.slice a1_2 x1.Penalties.length n1_2), (.slice (some ⟨b194, 0, none⟩) (r181.set ((x1.Repeats.length : Int) : Int).toNat r64.2.Expr).length n185)]) rfl (SH _) (by simp) (fun e => by cases e) (fun w206 (hs207 : HS wb Fb w206 F8 ((some b176, .cells ([(vi 0), (vi 0), (.slice none ([] : List Expr).length 0)] : List Value).toArray 33 (0, 0)) :: (sb bp0 (Ad r64.1 ar64_0_0 nr64_0_0) 100) :: (sb b71 (Au r64.2 ar64_1_2 nr64_1_2) 113) :: (sb bp1 #[(.slice a1_0 x1.Points.length n1_0), (.slice a1_1 x1.Multipliers.length n1_1), (.slice a1_2 x1.Penalties.length n1_2), (.slice (some ⟨b194, 0, none⟩) (r181.set ((x1.Repeats.length : Int) : Int).toNat r64.2.Expr).length n185)] 26) :: e1_0 :: e1_1 :: e1_2 :: (some b194, .cells C202 33 (0, 0)) :: Lf)) => ?_)
          obtain rfl := Ab h193
          exact SV (by kernel_rfl) ⟨F8, (some ⟨b194, 0, none⟩), n185, (some b194, .cells C202 33 (0, 0)), hs207.dr0.dr1, (SH _), fI, hr205⟩
         ·refine Rx #[(.slice a1_0 x1.Points.length n1_0), (.slice a1_1 x1.Multipliers.length n1_1), (.slice a1_2 x1.Penalties.length n1_2), (.slice (some ⟨b194, 0, none⟩) r181.length n185)] hs188 (SH _) (fun w208 hs209 => ?_)
          refine D1 10 ?_
          refine Ay.storeRow (l' := [true, true, true, true, true, true, true, true, true, true, true, true, true, true]) (zd := true) (by kernel_rfl) (by kernel_rfl) (ty := 0) (g := none) (by kernel_rfl) rfl (x := (.tmp 45)) (y := (.tmp 41)) (t := 33) (v := (.agg (Ai r64.2.Expr ar64_1_2 nr64_1_2))) (gg := true) (b := b194) (j := ((x1.Repeats.length : Int) : Int).toNat) (C := C195) (T := Ar) (E := 33) (u := r64.2.Expr) rfl rfl (by kernel_rfl) hs209 (k := 7) rfl hr199 hx191' (A6 ⟨ar64_1_2, nr64_1_2, rfl, hbr64_1_2, (SJ hsr64_1_2 ((le84.trans le91).trans le125))⟩) rfl (SH _) (fun _ => by simp) (fun e => by cases e) (fun C210 w211 (hs212 : HS wb Fb w211 F8 ((some b176, .cells ([(vi 0), (vi 0), (.slice none ([] : List Expr).length 0)] : List Value).toArray 33 (0, 0)) :: (sb bp0 (Ad r64.1 ar64_0_0 nr64_0_0) 100) :: (sb b71 (Au r64.2 ar64_1_2 nr64_1_2) 113) :: (sb bp1 #[(.slice a1_0 x1.Points.length n1_0), (.slice a1_1 x1.Multipliers.length n1_1), (.slice a1_2 x1.Penalties.length n1_2), (.slice (some ⟨b194, 0, none⟩) r181.length n185)] 26) :: e1_0 :: e1_1 :: e1_2 :: (some b194, .cells C210 33 (0, 0)) :: Lf)) hr213 => ?_)
          have hs214 : HS wb Fb w211 F8 ((some b176, .cells ([(vi 0), (vi 0), (.slice none ([] : List Expr).length 0)] : List Value).toArray 33 (0, 0)) :: (sb bp0 (Ad r64.1 ar64_0_0 nr64_0_0) 100) :: (sb b71 (Au r64.2 ar64_1_2 nr64_1_2) 113) :: (sb bp1 #[(.slice a1_0 x1.Points.length n1_0), (.slice a1_1 x1.Multipliers.length n1_1), (.slice a1_2 x1.Penalties.length n1_2), (.slice (some ⟨b194, 0, none⟩) (r181.set ((x1.Repeats.length : Int) : Int).toNat r64.2.Expr).length n185)] 26) :: e1_0 :: e1_1 :: e1_2 :: (some b194, .cells C210 33 (0, 0)) :: Lf) := by have hq := hs212; simp only [List.length_set] at hq ⊢; exact hq
          obtain rfl := Ab h193
          exact SV (by kernel_rfl) ⟨F8, (some ⟨b194, 0, none⟩), n185, (some b194, .cells C210 33 (0, 0)), hs214.dr0.dr1, (SH _), fI, hr213⟩
       ·rintro f w130 ⟨F9, aj133_0, nj133_0, ej133_0, hs131, le132, ⟨_, rfl⟩, hrj133_0⟩
        refine Ac ?_
        refine Rt ?_
        refine Aj ?_
        obtain rfl := Ab h136
        exact ReP [] hs131 ((((((le46.trans le58).trans le68).trans le84).trans le91).trans le125).trans le132) ⟨ar64_0_0, nr64_0_0, a1_0, n1_0, e1_0, a1_1, n1_1, e1_1, a1_2, n1_2, e1_2, aj133_0, nj133_0, ej133_0, rfl, rfl, hbr64_0_0, (SJ hsr64_0_0 (((le84.trans le91).trans le125).trans le132)), (hr1_0.mono ((((((le46.trans le58).trans le68).trans le84).trans le91).trans le125).trans le132)), (hr1_1.mono ((((((le46.trans le58).trans le68).trans le84).trans le91).trans le125).trans le132)), (hr1_2.mono ((((((le46.trans le58).trans le68).trans le84).trans le91).trans le125).trans le132)), hrj133_0⟩
      ·rintro b215 F10 w216 rfl hs217 le218
       have h219 := Bo h120
       refine An ?_
       refine An ?_
       have hs221 := hs217.dr0.dr0.dr0.dr0.dr0
       obtain rfl := Ab h219
       exact Ch hs221.dr0 (((((le46.trans le58).trans le68).trans le84).trans le91).trans le218)
     ·rintro c f w223 ⟨hd226, b222, F11, rfl, rfl, hs224, le225⟩
      have h227 := Bo h98
      refine An ?_
      refine An ?_
      obtain rfl := Ab h227
      exact ⟨hd226, .inr ⟨_, F11, rfl, rfl, hs224, ((((le46.trans le58).trans le68).trans le84).trans le225)⟩⟩
    ·rintro b228 F12 w229 rfl hs230 le231
     have h232 := Bo h79
     refine An ?_
     refine An ?_
     have hs234 := hs230.dr0.dr0.dr0.dr0.dr0
     obtain rfl := Ab h232
     exact Ch hs234.dr0.dr0 (((le46.trans le58).trans le68).trans le231)
   ·rintro b235 F13 w236 rfl hs237 le238
    have h239 := Bo h63
    refine An ?_
    refine An ?_
    have hs241 := hs237.dr0.dr0.dr0.dr0.dr0
    obtain rfl := Ab h239
    exact Ch hs241.dr0 ((le46.trans le58).trans le238)
  ·rintro b242 F14 w243 rfl hs244 le245
   have h246 := Bo h53
   refine An ?_
   refine An ?_
   have hs248 := hs244.dr0.dr0.dr0.dr0.dr0
   obtain rfl := Ab h246
   exact Ch hs248.dr0 (le46.trans le245)
 ·refine Sc ?_
  refine Ac ?_
  refine Sq ?_
  refine Nr (L := ((sb bp0 (Ad r41.1 ar41_0_0 nr41_0_0) 100) :: (sb b35 (Ba x21) 97) :: (sb bp1 (BC x1 a1_0 n1_0 a1_1 n1_1 a1_2 n1_2 a1_3 n1_3) 26) :: e1_0 :: e1_1 :: e1_2 :: e1_3 :: Lf)) hs45 rfl (fun f249 w250 e251 b252 hs253 hp254 h255 hkeep => ?_)
  have h256 : f249.d = [] := (hkeep.1).trans rfl
  have h257 : f249 0 = (pt bp0 0) := (hkeep.2.1).trans rfl
  have h258 : f249 4 = (pt b35 0) := (hkeep.2.2).trans rfl
  clear hkeep
  have hs259 : HS wb Fb w250 F1 (e251 :: (sb bp0 (Ad r41.1 ar41_0_0 nr41_0_0) 100) :: (sb b35 (Ba x21) 97) :: (sb bp1 (BC x1 a1_0 n1_0 a1_1 n1_1 a1_2 n1_2 a1_3 n1_3) 26) :: e1_0 :: e1_1 :: e1_2 :: e1_3 :: Lf) := hs253
  refine Ac ?_
  refine Sq (Rg [0, 1, 2, 3, 4, 5, 6, 7, 8] ?_)
  refine V 60 167 (mv 6 (.map (some b252)) h255) ?_
  refine V 61 0 (fa 97 4 2 2 1 b35 0 2 h258) ?_
  refine Ld hs259.at2 ?_
  refine Sp h50 (fun hb260 h261 => ?_) (fun hb260 h262 => ?_)
  ·refine V 63 168 (Mr (mt := 167) (k := 9) (vt := 166) (m := (.tmp 60)) (x := (.tmp 62)) rfl rfl (by kernel_rfl) (by kernel_rfl) (hs259.ownAt' (k := 0) rfl) hp254 (OJ hb260)) ?_
   refine Vs 5 ?_
   refine Nss ?_
   refine Sq (Rg [0, 1, 2, 3, 4, 5, 6, 7, 8] ?_)
   refine Vs 3 ?_
   refine Vg 69 95 2 false 68 rfl (mv 0 (pt bp0 0) h257) ?_
   refine Vg 70 0 2 false 68 rfl (fa 97 4 2 2 1 b35 0 2 h258) ?_
   refine Vg 71 9 2 false 68 rfl (ld 9 70 b35 2 false 1 (.string ⟨(x21.text_).toArray⟩) hs259.at2) ?_
   have hs263 := hs259.pk7.pk7.pk7.pk7.pk7
   obtain ⟨r264, hr265, h266⟩ := bind_some h261
   refine RWP.callB (dst := (some 72)) (ty := 4) (g := (some (2, false))) (by kernel_rfl) (Nz (d := 68) (by kernel_rfl) rfl rfl) (f0 := (.func 80)) (aos := #[(.tmp 69), (.tmp 71)]) (ats := #[95, 9]) (fid := 80) (first := #[]) (cap := #[]) (args := [(pt bp0 0), (.string ⟨(x21.text_).toArray⟩)]) rfl AG rfl (AJ N bp0 r41.1 ar41_0_0 nr41_0_0 hbr41_0_0 hsr41_0_0 x21.text_ hs263.pk7.pk6.pk7 _ hr265) ?_
   rintro _ F15 w267 _ hs268 le269 ⟨ar264_0_0, nr264_0_0, rfl, rfl, hbr264_0_0, hsr264_0_0⟩
   refine Vg 73 4 2 false 68 rfl (LI (t := 4) (x := (.tmp 72)) (a := r264.2) rfl) ?_
   refine Pk0 (rfl : false = false) ?_
   refine Nt ?_
   refine Cd h266 (fun hb271 h272 => ?_) (fun hb271 h273 => ?_)
   ·refine Rg [0, 1, 2, 3] ?_
    refine V 75 95 (mv 0 (pt bp0 0) h257) ?_
    refine V 76 0 (fa 97 4 1 1 1 b35 0 1 h258) ?_
    refine Ld hs268.at2 ?_
    obtain ⟨r274, hr275, h276⟩ := bind_some h272
    refine CP AM (AQ N bp0 r264.1 ar264_0_0 nr264_0_0 hbr264_0_0 hsr264_0_0 60 x21.at_ hs268 _ hr275) ?_ ?_
    ·rintro _ _ _ _ _ rfl _ _ _; cases hr275
    ·rintro b279 F17 w280 rfl hs281 le282
     have h283 := Bo h276
     refine An ?_
     have hs285 := hs281.dr0.dr0.dr0.dr0.dr0
     obtain rfl := Ab h283
     exact ⟨h256, .inr ⟨_, F17, rfl, rfl, hs285.dr0.dr0, ((le46.trans le269).trans le282)⟩⟩
   ·refine Sc ?_
    refine Ac ?_
    refine Sq (Rg [0, 1] ?_)
    refine V 79 95 (mv 0 (pt bp0 0) h257) ?_
    obtain ⟨r286, hr287, h288⟩ := bind_some h273
    refine CP A2 (A5 N bp0 r264.1 ar264_0_0 nr264_0_0 hbr264_0_0 hsr264_0_0 (([58] : SZ)) hs268 _ hr287) ?_ ?_
    ·rintro r289 _ F18 w291 _ rfl hs292 le293 ⟨ar289_0_0, nr289_0_0, rfl, rfl, hbr289_0_0, hsr289_0_0⟩
     have h295 := BU h288
     refine Nss (Rg [0, 1, 2, 3] ?_)
     refine V 81 95 (mv 0 (pt bp0 0) h257) ?_
     obtain ⟨r296, hr297, h298⟩ := bind_some h295
     refine CP BV (B3 N (hG.mono ((le46.trans le269).trans le293)) bp0 r289 ar289_0_0 nr289_0_0 hbr289_0_0 hsr289_0_0 hs292 _ hr297) ?_ ?_
     ·rintro r299 _ F19 w301 _ rfl hs302 le303 ⟨ar299_0_0, nr299_0_0, ar299_1_2, nr299_1_2, rfl, rfl, hbr299_0_0, hsr299_0_0, hbr299_1_2, hsr299_1_2⟩
      have h305 := BU h298
      refine Al' 113 #[(vi 0), (vi 0), (.slice none ([] : List Expr).length 0), (vi 0)] hs302 (fun b306 w307 hs308 => ?_)
      refine St0 (Au r299.2 ar299_1_2 nr299_1_2) hs308 (fun w309 hs310 => ?_)
      refine Nss (Rg [0, 1] ?_)
      refine V 83 95 (mv 0 (pt bp0 0) h257) ?_
      have hs317 : HS wb Fb w309 F19 (e251 :: (sb b35 (Ba x21) 97) :: (sb bp1 (BC x1 a1_0 n1_0 a1_1 n1_1 a1_2 n1_2 a1_3 n1_3) 26) :: e1_0 :: e1_1 :: e1_2 :: e1_3 :: (sb b306 (Au r299.2 ar299_1_2 nr299_1_2) 113) :: (sb bp0 (Ad r299.1 ar299_0_0 nr299_0_0) 100) :: Lf) := hs310.pm [2, 3, 4, 5, 6, 7, 8, 0, 1]
      have hs318 : HS wb Fb w309 F19 ((sb bp0 (Ad r299.1 ar299_0_0 nr299_0_0) 100) :: (sb b306 (Au r299.2 ar299_1_2 nr299_1_2) 113) :: e251 :: (sb b35 (Ba x21) 97) :: (sb bp1 (BC x1 a1_0 n1_0 a1_1 n1_1 a1_2 n1_2 a1_3 n1_3) 26) :: e1_0 :: e1_1 :: e1_2 :: e1_3 :: Lf) := hs317.pk7.pick (k := 8) rfl
      obtain ⟨r319, hr320, h321⟩ := bind_some h305
      refine CP A2 (A5 N bp0 r299.1 ar299_0_0 nr299_0_0 hbr299_0_0 hsr299_0_0 (([61, 62] : SZ)) hs318 _ hr320) ?_ ?_
      ·rintro r322 _ F20 w324 _ rfl hs325 le326 ⟨ar322_0_0, nr322_0_0, rfl, rfl, hbr322_0_0, hsr322_0_0⟩
       have h328 := BU h321
       refine Nss (Rg [0, 1, 2, 3] ?_)
       refine V 85 95 (mv 0 (pt bp0 0) h257) ?_
       obtain ⟨r329, hr330, h331⟩ := bind_some h328
       refine CP BV (B3 N (hG.mono ((((le46.trans le269).trans le293).trans le303).trans le326)) bp0 r322 ar322_0_0 nr322_0_0 hbr322_0_0 hsr322_0_0 hs325 _ hr330) ?_ ?_
       ·rintro r332 _ F21 w334 _ rfl hs335 le336 ⟨ar332_0_0, nr332_0_0, ar332_1_2, nr332_1_2, rfl, rfl, hbr332_0_0, hsr332_0_0, hbr332_1_2, hsr332_1_2⟩
        have h338 := BU h331
        refine Al' 113 #[(vi 0), (vi 0), (.slice none ([] : List Expr).length 0), (vi 0)] hs335 (fun b339 w340 hs341 => ?_)
        refine St0 (Au r332.2 ar332_1_2 nr332_1_2) hs341 (fun w342 hs343 => ?_)
        refine Nss (Rg [0, 1] ?_)
        refine V 87 95 (mv 0 (pt bp0 0) h257) ?_
        have hs353 : HS wb Fb w342 F21 ((sb bp0 (Ad r332.1 ar332_0_0 nr332_0_0) 100) :: (sb b339 (Au r332.2 ar332_1_2 nr332_1_2) 113) :: (sb b306 (Au r299.2 ar299_1_2 nr299_1_2) 113) :: e251 :: (sb b35 (Ba x21) 97) :: (sb bp1 (BC x1 a1_0 n1_0 a1_1 n1_1 a1_2 n1_2 a1_3 n1_3) 26) :: e1_0 :: e1_1 :: e1_2 :: e1_3 :: Lf) := hs343.pm [1, 0, 2, 3, 4, 5, 6, 7, 8, 9]
        obtain ⟨r354, hr355, h356⟩ := bind_some h338
        refine CP Dq (DY N bp0 r332.1 ar332_0_0 nr332_0_0 hbr332_0_0 hsr332_0_0 hs353 _ hr355) ?_ ?_
        ·rintro r357 _ F22 w359 _ rfl hs360 le361 ⟨rfl, rfl⟩
         have h363 := BU h356
         refine Nss ?_
         obtain ⟨j369, hj375, h376⟩ := bind_some h363
         refine RDP 7 7 [(sb bp0 (Ad r332.1 ar332_0_0 nr332_0_0) 100), (sb b339 (Au r332.2 ar332_1_2 nr332_1_2) 113), (sb b306 (Au r299.2 ar299_1_2 nr299_1_2) 113), e251, (sb b35 (Ba x21) 97), (sb bp1 (BC x1 a1_0 n1_0 a1_1 n1_1 a1_2 n1_2 a1_3 n1_3) 26), e1_0, e1_1, e1_2, e1_3] [] hs360 (fun c d w => d = [] /\ ∃ (b : Af) (Fp : Mem), j369 = .inl b /\ c = [{ v := (.iface 158 (.agg (AK b))), recovered := false }] /\ HS wb Fb w Fp Lf /\ SG F22 Fp) (fun f w => ∃ (J377 : Unit), j369 = .inr J377 /\ ∃ (F23 : Mem), HS wb Fb w F23 ((sb bp0 (Ad r332.1 ar332_0_0 nr332_0_0) 100) :: (sb b339 (Au r332.2 ar332_1_2 nr332_1_2) 113) :: (sb b306 (Au r299.2 ar299_1_2 nr299_1_2) 113) :: (sb bp1 (BC x1 a1_0 n1_0 a1_1 n1_1 a1_2 n1_2 a1_3 n1_3) 26) :: e1_0 :: e1_1 :: e1_2 :: e1_3 :: Lf) /\ SG F22 F23 /\ FI f [] [(0, (pt bp0 0)), (7, (pt bp1 0)), (9, (pt b306 0)), (10, (pt b339 0))]) (fun wd364 hw365 => ?_) ?_ ?_
         ·refine Dt 0 89 95 _ (fun _ hq => mv 0 (pt bp0 0) h257) ?_
          refine Dv [1, 2] ?_
          refine Dl 3 (fun _ hq => (hq.1.2 5 _ _ rfl)) ?_
          refine Dt 4 93 0 (pt b35 1) (fun _ hq => fa 97 4 1 1 1 b35 0 1 h258) ?_
          refine Dl 5 (fun _ hq => (hq.1.2 4 _ _ rfl)) ?_
          refine D1 6 ?_
          obtain ⟨r378, hr379, h380⟩ := bind_some hj375
          refine DCP E0 (Fj N bp0 r332.1 ar332_0_0 nr332_0_0 hbr332_0_0 (SJ hsr332_0_0 le361) x1.Points a1_0 n1_0 x21.at_ hw365 _ hr379) ?_ ?_
          ·rintro r381 _ F24 w383 _ rfl hs384 le385 ⟨rfl, rfl⟩
           have h387 := BU h380
           refine ⟨BI hs384 le385 (by simp) (zdT (by kernel_rfl)), ?_⟩
           obtain rfl := Ab h387
           exact SV (by kernel_rfl) ⟨_, rfl, F24, hs384.dr3.dr3, le385, (fJ ⟨h257, rfl, rfl, rfl, trivial⟩ (hd := h256))⟩
          ·rintro b388 F25 w389 rfl hs390 le391
           have h392 := Bo h380
           obtain rfl := Ab h392
           have hs394 := hs390.dr0.dr0.dr0.dr0.dr0
           exact ⟨h256, _, _, rfl, rfl, hs394.dr0.dr0.dr0.dr0, le391⟩
         ·rintro f w366 ⟨J377, rfl, F23, hs367, le368, ⟨_, rfl⟩⟩
          have h395 := BU h376
          refine Ac ?_
          refine Sq (Rg [0, 1, 2] ?_)
          refine Vs 1 ?_
          refine Ld hs367.at2 ?_
          obtain ⟨r396, hr397, h398⟩ := bind_some h395
          refine CP B2 (Ca N bp0 r332.1 ar332_0_0 nr332_0_0 hbr332_0_0 (SJ hsr332_0_0 (le361.trans le368)) r299.2 ar299_1_2 nr299_1_2 hbr299_1_2 (SJ hsr299_1_2 (((le326.trans le336).trans le361).trans le368)) 2 hs367 _ hr397) ?_ ?_
          ·rintro r399 _ F26 w401 _ rfl hs402 le403 ⟨rfl, rfl⟩
           have h405 := BU h398
           refine Nss (Rg [0, 1, 2] ?_)
           refine Vs 1 ?_
           refine Ld hs402.at1 ?_
           obtain ⟨r406, hr407, h408⟩ := bind_some h405
           refine CP B2 (Ca N bp0 r332.1 ar332_0_0 nr332_0_0 hbr332_0_0 (SJ hsr332_0_0 ((le361.trans le368).trans le403)) r332.2 ar332_1_2 nr332_1_2 hbr332_1_2 (SJ hsr332_1_2 ((le361.trans le368).trans le403)) 1 hs402 _ hr407) ?_ ?_
           ·rintro r409 _ F27 w411 _ rfl hs412 le413 ⟨rfl, rfl⟩
            have h415 := BU h408
            refine Nt ?_
            obtain ⟨j421, hj423, h424⟩ := bind_some h415
            refine RD 12 13 [(sb bp0 (Ad r332.1 ar332_0_0 nr332_0_0) 100), (sb b339 (Au r332.2 ar332_1_2 nr332_1_2) 113), (sb b306 (Au r299.2 ar299_1_2 nr299_1_2) 113), e1_1, e1_2, e1_3] [(sb bp1 (BC x1 a1_0 n1_0 a1_1 n1_1 a1_2 n1_2 a1_3 n1_3) 26)] hs412 (fun f w => ∃ (F28 : Mem) (aj421_0 : S0) (nj421_0 : Nat) (ej421_0 : Option Nat × Obj), HS wb Fb w F28 ((sb bp0 (Ad r332.1 ar332_0_0 nr332_0_0) 100) :: (sb bp1 #[(.slice aj421_0 j421.length nj421_0), (.slice a1_1 x1.Multipliers.length n1_1), (.slice a1_2 x1.Penalties.length n1_2), (.slice a1_3 x1.Repeats.length n1_3)] 26) :: ej421_0 :: e1_1 :: e1_2 :: e1_3 :: Lf) /\ SG F27 F28 /\ FI f [] [] /\ Av AC 56 F28 aj421_0 nj421_0 j421 ej421_0) (fun wd416 hw417 => ?_) ?_
            ·refine Dv [0, 1, 2] ?_
             refine Dl 3 (fun _ hq => ((hq.2 rfl).2 0 _ _ rfl)) ?_
             refine Dv [4] ?_
             refine Dl 5 (fun _ hq => (hq.1.2 2 _ _ rfl)) ?_
             refine Dv [6] ?_
             refine Dl 7 (fun _ hq => (hq.1.2 1 _ _ rfl)) ?_
             refine Dv [8] ?_
             refine D1 9 ?_
             refine DBs 56 [(vi r299.2.Expr.Op), (vi r299.2.Expr.Value), (.slice ar299_1_2 r299.2.Expr.Kids.length nr299_1_2), (vi r332.2.Expr.Op), (vi r332.2.Expr.Value), (.slice ar332_1_2 r332.2.Expr.Kids.length nr332_1_2)] hw417 (SH _) (fun b425 w426 hs427 => ?_)
             have hr429 : Av AC 56 F27 (some ⟨b425, 0, none⟩) 1 [({ When := r299.2.Expr, Then := r332.2.Expr } : Clause)] (some b425, .cells ([(vi r299.2.Expr.Op), (vi r299.2.Expr.Value), (.slice ar299_1_2 r299.2.Expr.Kids.length nr299_1_2), (vi r332.2.Expr.Op), (vi r332.2.Expr.Value), (.slice ar332_1_2 r332.2.Expr.Kids.length nr332_1_2)] : List Value).toArray 56 (0, 0)) := SX ⟨⟨ar299_1_2, nr299_1_2, ar332_1_2, nr332_1_2, rfl, hbr299_1_2, (SJ hsr299_1_2 (((((le326.trans le336).trans le361).trans le368).trans le403).trans le413)), hbr332_1_2, (SJ hsr332_1_2 (((le361.trans le368).trans le403).trans le413))⟩, rfl⟩ (by simp)
             refine D1 10 ?_
             obtain ⟨r430, hap431, h432⟩ := bind_some hj423
             refine Sx N5 hs427 (hr1_0.mono (((((((((le46.trans le269).trans le293).trans le303).trans le326).trans le336).trans le361).trans le368).trans le403).trans le413)) (hs427.rd0 hr429) hap431 (SH _) (fun a433 n434 e435 w436 hs437 hr438 => ?_)
             refine Dv [11] ?_
             refine D1 12 ?_
             refine Su #[(.slice a433 r430.length n434), (.slice a1_1 x1.Multipliers.length n1_1), (.slice a1_2 x1.Penalties.length n1_2), (.slice a1_3 x1.Repeats.length n1_3)] hs437 (SH _) (fun w439 hs440 => ?_)
             obtain rfl := Ab h432
             exact SV (by kernel_rfl) ⟨F27, a433, n434, e435, hs440.dr0.dr1.dr1, (SH _), fI, hr438⟩
            ·rintro f w418 ⟨F28, aj421_0, nj421_0, ej421_0, hs419, le420, ⟨_, rfl⟩, hrj421_0⟩
             obtain rfl := Ab h424
             exact ReP [] hs419 ((((((((((le46.trans le269).trans le293).trans le303).trans le326).trans le336).trans le361).trans le368).trans le403).trans le413).trans le420) ⟨ar332_0_0, nr332_0_0, aj421_0, nj421_0, ej421_0, a1_1, n1_1, e1_1, a1_2, n1_2, e1_2, a1_3, n1_3, e1_3, rfl, rfl, hbr332_0_0, (SJ hsr332_0_0 ((((le361.trans le368).trans le403).trans le413).trans le420)), hrj421_0, (hr1_1.mono ((((((((((le46.trans le269).trans le293).trans le303).trans le326).trans le336).trans le361).trans le368).trans le403).trans le413).trans le420)), (hr1_2.mono ((((((((((le46.trans le269).trans le293).trans le303).trans le326).trans le336).trans le361).trans le368).trans le403).trans le413).trans le420)), (hr1_3.mono ((((((((((le46.trans le269).trans le293).trans le303).trans le326).trans le336).trans le361).trans le368).trans le403).trans le413).trans le420))⟩
           ·rintro b441 F29 w442 rfl hs443 le444
            have h445 := Bo h408
            refine An ?_
            have hs447 := hs443.dr0.dr0.dr0.dr0.dr0
            obtain rfl := Ab h445
            exact Ch hs447.dr0.dr0 (((((((((le46.trans le269).trans le293).trans le303).trans le326).trans le336).trans le361).trans le368).trans le403).trans le444)
          ·rintro b448 F30 w449 rfl hs450 le451
           have h452 := Bo h398
           refine An ?_
           have hs454 := hs450.dr0.dr0.dr0.dr0.dr0
           obtain rfl := Ab h452
           exact Ch hs454.dr0.dr0 ((((((((le46.trans le269).trans le293).trans le303).trans le326).trans le336).trans le361).trans le368).trans le451)
         ·rintro c f w456 ⟨hd459, b455, F31, rfl, rfl, hs457, le458⟩
          have h460 := Bo h376
          refine An ?_
          obtain rfl := Ab h460
          exact ⟨hd459, .inr ⟨_, F31, rfl, rfl, hs457, (((((((le46.trans le269).trans le293).trans le303).trans le326).trans le336).trans le361).trans le458)⟩⟩
        ·rintro b461 F32 w462 rfl hs463 le464
         have h465 := Bo h356
         refine An ?_
         have hs467 := hs463.dr0.dr0.dr0.dr0.dr0
         obtain rfl := Ab h465
         exact ⟨h256, .inr ⟨_, F32, rfl, rfl, hs467.dr0.dr0.dr0.dr0, ((((((le46.trans le269).trans le293).trans le303).trans le326).trans le336).trans le464)⟩⟩
       ·rintro b468 F33 w469 rfl hs470 le471
        have h472 := Bo h331
        refine An ?_
        have hs474 := hs470.dr0.dr0.dr0.dr0.dr0
        obtain rfl := Ab h472
        exact ⟨h256, .inr ⟨_, F33, rfl, rfl, hs474.dr0.dr0.dr0, (((((le46.trans le269).trans le293).trans le303).trans le326).trans le471)⟩⟩
      ·rintro b475 F34 w476 rfl hs477 le478
       have h479 := Bo h321
       refine An ?_
       have hs481 := hs477.dr0.dr0.dr0.dr0.dr0
       obtain rfl := Ab h479
       exact ⟨h256, .inr ⟨_, F34, rfl, rfl, hs481.dr0.dr0.dr0, ((((le46.trans le269).trans le293).trans le303).trans le478)⟩⟩
     ·rintro b482 F35 w483 rfl hs484 le485
      have h486 := Bo h298
      refine An ?_
      have hs488 := hs484.dr0.dr0.dr0.dr0.dr0
      obtain rfl := Ab h486
      exact ⟨h256, .inr ⟨_, F35, rfl, rfl, hs488.dr0.dr0, (((le46.trans le269).trans le293).trans le485)⟩⟩
    ·rintro b489 F36 w490 rfl hs491 le492
     have h493 := Bo h288
     refine An ?_
     have hs495 := hs491.dr0.dr0.dr0.dr0.dr0
     obtain rfl := Ab h493
     exact ⟨h256, .inr ⟨_, F36, rfl, rfl, hs495.dr0.dr0, ((le46.trans le269).trans le492)⟩⟩
  ·cases h262
def DA (N : Nat) (x0 : Aa) (z0 : C6) : (List Ah × Int × List Clause × List Clause × List Clause × List Expr) -> Option (Bn (Af ⊕ (Aa × C6)) (List Ah × Int × List Clause × List Clause × List Clause × List Expr)) := fun s24 =>
 ((idx s24.1 0).bind fun x42 => (bif (x42.kind_ != 0) then ((Ap N ({ l_ := s24.1, open_ := s24.2.1 } : Aa) ([10] : SZ)).bind fun r59 => (bif (!r59.2) then ((EJ N r59.1 ({ Points := s24.2.2.1, Multipliers := s24.2.2.2.1, Penalties := s24.2.2.2.2.1, Repeats := s24.2.2.2.2.2 } : C6)).bind fun r69 => sk r69 (fun b80 => some (.ret (.inl b80))) (fun r72 => some (.next (r72.1.l_, r72.1.open_, r72.2.Points, r72.2.Multipliers, r72.2.Penalties, r72.2.Repeats)))) else some (.next (r59.1.l_, r59.1.open_, s24.2.2.1, s24.2.2.2.1, s24.2.2.2.2.1, s24.2.2.2.2.2)))) else some (.done (s24.1, s24.2.1, s24.2.2.1, s24.2.2.2.1, s24.2.2.2.2.1, s24.2.2.2.2.2))))
def Hb (N : Nat) (x0 : Aa) (z0 : C6) : Option (Af ⊕ (Aa × C6)) :=
 ((AX (DA N x0 z0) N (x0.l_, x0.open_, z0.Points, z0.Multipliers, z0.Penalties, z0.Repeats)).bind fun o => o.k (fun r => some r) (fun s31 => some (.inr (({ l_ := s31.1, open_ := s31.2.1 } : Aa), ({ Points := s31.2.2.1, Multipliers := s31.2.2.2.1, Penalties := s31.2.2.2.2.1, Repeats := s31.2.2.2.2.2 } : C6)))))
theorem I4 : Aq Tryz.prog 79 := fun _ _ => by kernel_rfl
theorem JK (N : Nat) {wb w0 : World} {Fb F0 : Mem} {Lf : Own} (hG : CA F0) (bp0 : Nat) (x0 : Aa) (a0_0 : S0) (n0_0 : Nat) (hb0_0 : LC x0.l_.length n0_0) (hs0_0 : SlA Ag F0 a0_0 x0.l_) (bz0 : Nat) (z0 : C6) (az0_0 : S0) (nz0_0 : Nat) (ez0_0 : Option Nat × Obj) (az0_1 : S0) (nz0_1 : Nat) (ez0_1 : Option Nat × Obj) (az0_2 : S0) (nz0_2 : Nat) (ez0_2 : Option Nat × Obj) (az0_3 : S0) (nz0_3 : Nat) (ez0_3 : Option Nat × Obj) (hrz0_0 : Av AC 56 F0 az0_0 nz0_0 z0.Points ez0_0) (hrz0_1 : Av AC 56 F0 az0_1 nz0_1 z0.Multipliers ez0_1) (hrz0_2 : Av AC 56 F0 az0_2 nz0_2 z0.Penalties ez0_2) (hrz0_3 : Av Ar 33 F0 az0_3 nz0_3 z0.Repeats ez0_3) (hs0 : HS wb Fb w0 F0 ((sb bp0 (Ad x0 a0_0 n0_0) 100) :: (sb bz0 (BC z0 az0_0 nz0_0 az0_1 nz0_1 az0_2 nz0_2 az0_3 nz0_3) 26) :: ez0_0 :: ez0_1 :: ez0_2 :: ez0_3 :: Lf)) (r : (Af ⊕ (Aa × C6))) (h : Hb N x0 z0 = some r) :
  Calls Tryz.prog 79 ([(pt bp0 0), (pt bz0 0)] : List Value).toArray w0 (BK wb Fb F0 Lf r (fun b => (.iface 158 (.agg (AK b)))) fun a F' v L' => ∃ (aq0_0 : S0) (nq0_0 : Nat) (aq1_0 : S0) (nq1_0 : Nat) (eq1_0 : Option Nat × Obj) (aq1_1 : S0) (nq1_1 : Nat) (eq1_1 : Option Nat × Obj) (aq1_2 : S0) (nq1_2 : Nat) (eq1_2 : Option Nat × Obj) (aq1_3 : S0) (nq1_3 : Nat) (eq1_3 : Option Nat × Obj), v = (.tuple #[]) /\ L' = (sb bp0 (Ad a.1 aq0_0 nq0_0) 100) :: (sb bz0 (BC a.2 aq1_0 nq1_0 aq1_1 nq1_1 aq1_2 nq1_2 aq1_3 nq1_3) 26) :: eq1_0 :: eq1_1 :: eq1_2 :: eq1_3 :: Lf /\ LC a.1.l_.length nq0_0 /\ SlA Ag F' aq0_0 a.1.l_ /\ Av AC 56 F' aq1_0 nq1_0 a.2.Points eq1_0 /\ Av AC 56 F' aq1_1 nq1_1 a.2.Multipliers eq1_1 /\ Av AC 56 F' aq1_2 nq1_2 a.2.Penalties eq1_2 /\ Av Ar 33 F' aq1_3 nq1_3 a.2.Repeats eq1_3) := by
 refine Go 16 Tryz.func79 ?_
 obtain ⟨o21, ho22, h23⟩ := bind_some h
 refine SN (fun f w => ∃ (s31 : (List Ah × Int × List Clause × List Clause × List Clause × List Expr)) (F2 : Mem) (as31_0 : S0) (ns31_0 : Nat) (as31_2 : S0) (ns31_2 : Nat) (es31_2 : Option Nat × Obj) (as31_3 : S0) (ns31_3 : Nat) (es31_3 : Option Nat × Obj) (as31_4 : S0) (ns31_4 : Nat) (es31_4 : Option Nat × Obj) (as31_5 : S0) (ns31_5 : Nat) (es31_5 : Option Nat × Obj), o21 = .done s31 /\ HS wb Fb w F2 ((sb bp0 #[(.slice as31_0 s31.1.length ns31_0), (vi s31.2.1)] 100) :: (sb bz0 #[(.slice as31_2 s31.2.2.1.length ns31_2), (.slice as31_3 s31.2.2.2.1.length ns31_3), (.slice as31_4 s31.2.2.2.2.1.length ns31_4), (.slice as31_5 s31.2.2.2.2.2.length ns31_5)] 26) :: es31_2 :: es31_3 :: es31_4 :: es31_5 :: Lf) /\ SG F0 F2 /\ FI f [] [] /\ LC s31.1.length ns31_0 /\ SlA Ag F2 as31_0 s31.1 /\ Av AC 56 F2 as31_2 ns31_2 s31.2.2.1 es31_2 /\ Av AC 56 F2 as31_3 ns31_3 s31.2.2.2.1 es31_3 /\ Av AC 56 F2 as31_4 ns31_4 s31.2.2.2.2.1 es31_4 /\ Av Ar 33 F2 as31_5 ns31_5 s31.2.2.2.2.2 es31_5) ?_ ?_
 ·refine Bk ?_
  refine SF (by kernel_rfl) (fun m f w => ∃ (s24 : (List Ah × Int × List Clause × List Clause × List Clause × List Expr)) (F1 : Mem) (as24_0 : S0) (ns24_0 : Nat) (as24_2 : S0) (ns24_2 : Nat) (es24_2 : Option Nat × Obj) (as24_3 : S0) (ns24_3 : Nat) (es24_3 : Option Nat × Obj) (as24_4 : S0) (ns24_4 : Nat) (es24_4 : Option Nat × Obj) (as24_5 : S0) (ns24_5 : Nat) (es24_5 : Option Nat × Obj), AX (DA N x0 z0) m s24 = some o21 /\ HS wb Fb w F1 ((sb bp0 #[(.slice as24_0 s24.1.length ns24_0), (vi s24.2.1)] 100) :: (sb bz0 #[(.slice as24_2 s24.2.2.1.length ns24_2), (.slice as24_3 s24.2.2.2.1.length ns24_3), (.slice as24_4 s24.2.2.2.2.1.length ns24_4), (.slice as24_5 s24.2.2.2.2.2.length ns24_5)] 26) :: es24_2 :: es24_3 :: es24_4 :: es24_5 :: Lf) /\ SG F0 F1 /\ FI f [] [(0, (pt bp0 0)), (1, (pt bz0 0))] /\ LC s24.1.length ns24_0 /\ SlA Ag F1 as24_0 s24.1 /\ Av AC 56 F1 as24_2 ns24_2 s24.2.2.1 es24_2 /\ Av AC 56 F1 as24_3 ns24_3 s24.2.2.2.1 es24_3 /\ Av AC 56 F1 as24_4 ns24_4 s24.2.2.2.2.1 es24_4 /\ Av Ar 33 F1 as24_5 ns24_5 s24.2.2.2.2.2 es24_5) N ⟨(x0.l_, x0.open_, z0.Points, z0.Multipliers, z0.Penalties, z0.Repeats), F0, a0_0, n0_0, az0_0, nz0_0, ez0_0, az0_1, nz0_1, ez0_1, az0_2, nz0_2, ez0_2, az0_3, nz0_3, ez0_3, ho22, hs0, (SH _), fI, hb0_0, hs0_0, hrz0_0, hrz0_1, hrz0_2, hrz0_3⟩ ?_
  rintro m36 f w25 ⟨s24, F1, as24_0, ns24_0, as24_2, ns24_2, es24_2, as24_3, ns24_3, es24_3, as24_4, ns24_4, es24_4, as24_5, ns24_5, es24_5, hit37, hs26, le27, ⟨_, rfl⟩, hbs24_0, hss24_0, hrs24_2, hrs24_3, hrs24_4, hrs24_5⟩
  obtain ⟨m38, fl39, rfl, hb40, hnx41⟩ := Bf hit37
  refine Sq ?_
  refine Sq (Rg [0, 1, 2, 3, 4, 5, 6, 7] ?_)
  refine Vs 3 ?_
  refine Ld hs26.at0 ?_
  obtain ⟨x42, hx43, h45⟩ := bind_some hb40
  obtain ⟨hi44, hx43'⟩ := Aw hx43
  obtain ⟨b46, o47, C48, E49, fz50, rfl, hF52, hE53⟩ := SQ hss24_0 hx43'
  have hc55 := hE53 _ _ hx43'
  refine Ix hi44 ?_
  refine Vs 1 ?_
  refine Lx 0 (hs26.pers _ _ hF52) hc55 ?_
  refine Vs 1 ?_
  refine Nt ?_
  refine Cd h45 (fun hb56 h57 => ?_) (fun hb56 h58 => ?_)
  ·refine Sc ?_
   refine Ac ?_
   refine Bk ?_
   refine Sq (Rg [0, 1, 2] ?_)
   refine Vs 1 ?_
   obtain ⟨r59, hr60, h61⟩ := bind_some h57
   refine CB AG (AJ N bp0 (({ l_ := s24.1, open_ := s24.2.1 } : Aa)) (some ⟨b46, o47, none⟩) ns24_0 hbs24_0 hss24_0 (([10] : SZ)) hs26 _ hr60) ?_
   rintro _ F3 w62 _ hs63 le64 ⟨ar59_0_0, nr59_0_0, rfl, rfl, hbr59_0_0, hsr59_0_0⟩
   refine Vs 1 ?_
   refine Nt ?_
   refine Cd h61 (fun hb66 h67 => ?_) (fun hb66 h68 => ?_)
   ·refine Rg [0, 1] ?_
    refine Vs 1 ?_
    obtain ⟨r69, hr70, h71⟩ := bind_some h67
    refine CP Gr (GT N (hG.mono (le27.trans le64)) bp0 r59.1 ar59_0_0 nr59_0_0 hbr59_0_0 hsr59_0_0 bz0 (({ Points := s24.2.2.1, Multipliers := s24.2.2.2.1, Penalties := s24.2.2.2.2.1, Repeats := s24.2.2.2.2.2 } : C6)) as24_2 ns24_2 es24_2 as24_3 ns24_3 es24_3 as24_4 ns24_4 es24_4 as24_5 ns24_5 es24_5 (hrs24_2.mono le64) (hrs24_3.mono le64) (hrs24_4.mono le64) (hrs24_5.mono le64) hs63 _ hr70) ?_ ?_
    ·rintro r72 _ F4 w74 _ rfl hs75 le76 ⟨ar72_0_0, nr72_0_0, ar72_1_0, nr72_1_0, er72_1_0, ar72_1_1, nr72_1_1, er72_1_1, ar72_1_2, nr72_1_2, er72_1_2, ar72_1_3, nr72_1_3, er72_1_3, rfl, rfl, hbr72_0_0, hsr72_0_0, hrr72_1_0, hrr72_1_1, hrr72_1_2, hrr72_1_3⟩
     have h78 := BU h71
     refine SC ?_
     refine Ax ?_
     have hn79 := A8 h78 hnx41
     exact ⟨m38, Nat.lt_succ_self _, (r72.1.l_, r72.1.open_, r72.2.Points, r72.2.Multipliers, r72.2.Penalties, r72.2.Repeats), F4, ar72_0_0, nr72_0_0, ar72_1_0, nr72_1_0, er72_1_0, ar72_1_1, nr72_1_1, er72_1_1, ar72_1_2, nr72_1_2, er72_1_2, ar72_1_3, nr72_1_3, er72_1_3, hn79, hs75, ((le27.trans le64).trans le76), fI, hbr72_0_0, hsr72_0_0, hrr72_1_0, hrr72_1_1, hrr72_1_2, hrr72_1_3⟩
    ·rintro b80 F5 w81 rfl hs82 le83
     have h84 := Bo h71
     refine AP ?_
     refine An ?_
     refine AP ?_
     have hret := Cs h84 hnx41
     subst hret
     refine .inr ?_
     obtain rfl := Ab h23
     exact Ch hs82 ((le27.trans le64).trans le83)
   ·refine Sc ?_
    refine Ax ?_
    have hn86 := A8 h68 hnx41
    exact ⟨m38, Nat.lt_succ_self _, (r59.1.l_, r59.1.open_, s24.2.2.1, s24.2.2.2.1, s24.2.2.2.2.1, s24.2.2.2.2.2), F3, ar59_0_0, nr59_0_0, as24_2, ns24_2, es24_2, as24_3, ns24_3, es24_3, as24_4, ns24_4, es24_4, as24_5, ns24_5, es24_5, hn86, hs63, (le27.trans le64), fI, hbr59_0_0, hsr59_0_0, (hrs24_2.mono le64), (hrs24_3.mono le64), (hrs24_4.mono le64), (hrs24_5.mono le64)⟩
  ·refine Ex ?_
   refine AF ?_
   refine AF ?_
   refine AZ rfl ?_
   have ho87 := Bm h58 hnx41
   exact .inl ⟨rfl, (s24.1, s24.2.1, s24.2.2.1, s24.2.2.2.1, s24.2.2.2.2.1, s24.2.2.2.2.2), F1, (some ⟨b46, o47, none⟩), ns24_0, as24_2, ns24_2, es24_2, as24_3, ns24_3, es24_3, as24_4, ns24_4, es24_4, as24_5, ns24_5, es24_5, ho87, hs26, le27, fI, hbs24_0, hss24_0, hrs24_2, hrs24_3, hrs24_4, hrs24_5⟩
 ·rintro f w32 ⟨s31, F2, as31_0, ns31_0, as31_2, ns31_2, es31_2, as31_3, ns31_3, es31_3, as31_4, ns31_4, es31_4, as31_5, ns31_5, es31_5, rfl, hs33, le34, ⟨_, rfl⟩, hbs31_0, hss31_0, hrs31_2, hrs31_3, hrs31_4, hrs31_5⟩
  have h88 := Cu h23
  obtain rfl := Ab h88
  exact ReP [] hs33 le34 ⟨as31_0, ns31_0, as31_2, ns31_2, es31_2, as31_3, ns31_3, es31_3, as31_4, ns31_4, es31_4, as31_5, ns31_5, es31_5, rfl, rfl, hbs31_0, hss31_0, hrs31_2, hrs31_3, hrs31_4, hrs31_5⟩
def OU : Expr := { Op := 0, Value := 0, Kids := ([] : List Expr) }
def NQ : Bt := { Expr := OU, at_ := 0 }
def Ma : C6 := { Points := ([] : List Clause), Multipliers := ([] : List Clause), Penalties := ([] : List Clause), Repeats := ([] : List Expr) }
def Hn {α β : Type} (N : Nat) (s : SZ) (run : Aa -> Option (Af ⊕ α)) (z : β) (f : α -> β) : Option (β × Int × Int) :=
 bif decide ((s.length : Int) > 65536) then some (z, 2, 0) else (CD N s).bind fun l => (run { l_ := l, open_ := 0 }).bind fun q => sk q (fun b => bif b.e_ != 0 then some (z, b.e_, b.at_) else none) (fun a => some (f a, 0, 0))
def A4 (N : Nat) (x0 : SZ) : Option (Expr × Int × Int) := Hn N x0 (fun p => Dd N p NQ) OU (fun a => a.2.Expr)
def DL (N : Nat) (x0 : SZ) : Option (C6 × Int × Int) := Hn N x0 (fun p => Hb N p Ma) Ma (fun a => a.2)
theorem MT {α : Type} {b : Bool} {x y : α} (h : b = true) : (bif b then x else y) = x := by subst h; rfl
theorem Lp {α : Type} {b : Bool} {x y : α} (h : b = false) : (bif b then x else y) = y := by subst h; rfl
theorem Cn : Aq Tryz.prog 25 := fun _ _ => by kernel_rfl
set_option maxRecDepth 100000 in
theorem Cz (N : Nat) (w0 : World) (F0 : Mem) (hF : S1 w0 F0) (hG : CA F0) (x0 : SZ) (r : Expr × Int × Int) (h : A4 N x0 = some r) :
  Calls Tryz.prog 25 ([.string ⟨x0.toArray⟩] : List Value).toArray w0 (AV w0 F0 fun F' v => ∃ (aq0_2 : S0) (nq0_2 : Nat), v = (.tuple #[(.agg #[(.int .i64 r.1.Op), (.int .i64 r.1.Value), (.slice aq0_2 r.1.Kids.length nq0_2)]), (.int .i64 r.2.1), (.int .i64 r.2.2)]) /\ LC r.1.Kids.length nq0_2 /\ SlA Ar F' aq0_2 r.1.Kids) := by
 have hs0 := SI hF
 refine EB (n := 21) (c := Cb Tryz.f25) Tryz.func25 (by kernel_rfl) (by kernel_rfl) (by kernel_rfl) ?_
 refine Sq ?_
 refine Rg [0, 1, 2] ?_
 refine SO (dst := some 2) (ty := 0) (g := none) (by kernel_rfl) rfl (t := 33) (z := .agg #[.int .i64 0, .int .i64 0, .slice none 0 0]) (by kernel_rfl) (C := #[.int .i64 0, .int .i64 0, .slice none 0 0]) rfl hs0 (fun b2 w1 hs1 => ?_)
 refine V 3 27 (Az (x := .const (.int .i64 0)) (v := .int .i64 0) rfl) ?_
 refine V 4 3 (Az (x := .const (.int .i64 0)) (v := .int .i64 0) rfl) ?_
 refine SC ?_
 refine Ac ?_
 refine Sq ?_
 refine Rg [0] ?_
 refine SO (dst := some 5) (ty := 0) (g := none) (by kernel_rfl) rfl (t := 113) (z := .agg #[.int .i64 0, .int .i64 0, .slice none 0 0, .int .i64 0]) (by kernel_rfl) (C := #[.int .i64 0, .int .i64 0, .slice none 0 0, .int .i64 0]) rfl hs1 (fun b5 w2 hs2 => ?_)
 refine SC ?_
 refine Ac ?_
 refine Sq ?_
 refine Rg [0, 1, 2, 3, 4, 5, 6, 7] ?_
 refine V 9 9 (AL (x := .tmp 0) (v := .string ⟨x0.toArray⟩) rfl) ?_
 refine V 10 103 (CJ (fn := .func 85) (first := #[]) (cap := #[.tmp 5]) (fl := []) (cl := [.pointer (some ⟨b5, 0, none⟩)]) rfl rfl) ?_
 obtain ⟨X, hX⟩ : ∃ X : Own, X = [(some b2, .cells #[.int .i64 0, .int .i64 0, .slice none 0 0] 33 (0, 0))] := ⟨_, rfl⟩
 refine SE (dst := some 11) (ty := 88) (g := none) (by kernel_rfl) rfl (C8 (f := .func 78) (aos := #[.tmp 9, .tmp 10]) (ats := #[9, 103]) (g := 78) (first := #[]) (cap := #[]) (args := [.string ⟨x0.toArray⟩, .func (.func 85) #[] #[.pointer (some ⟨b5, 0, none⟩)]]) rfl Hd rfl)
  (IA N hs2 x0 (g := 85) (cap := [.pointer (some ⟨b5, 0, none⟩)]) Gw (fun o F' L' => match o with
   | none => ∃ (e : Expr) (at_ : Int) (a : S0) (n : Nat), L' = (some b5, .cells #[.int .i64 e.Op, .int .i64 e.Value, .slice a e.Kids.length n, .int .i64 at_] 113 (0, 0)) :: X /\ LC e.Kids.length n /\ SlA Ar F' a e.Kids /\ some (e, (0 : Int), (0 : Int)) = some r
   | some x => (bif x.e_ != 0 then some (OU, x.e_, x.at_) else none) = some r /\ (L' = X \/ ∃ o, L' = (some b5, o) :: X)) ?_ ?_) ?_
 ·intro hc F'
  unfold A4 Hn at h
  rw [MT hc] at h
  exact ⟨h, .inr ⟨_, by rw [hX]⟩⟩
 ·intro hc
  unfold A4 Hn at h
  rw [Lp hc] at h
  obtain ⟨l, hl, h⟩ := bind_some h
  obtain ⟨q, hq, h⟩ := bind_some h
  refine ⟨l, hl, fun w3 F3 be_ ba_ bp a n le3 hb hsl hs3 => ?_⟩
  have hs4 : HS w0 F0 w3 F3 ((some bp, .cells #[.slice a l.length n, .int .i64 0] 100 (0, 0)) :: (some b5, .cells #[.int .i64 0, .int .i64 0, .slice none 0 0, .int .i64 0] 113 (0, 0)) :: (some ba_, ba 0) :: (some be_, be 0) :: X) := by
   rw [hX]; exact (hs3.pick (k := 3) rfl).pick (k := 1) rfl
  refine (GV N (hG.mono (hs3.le)) bp { l_ := l, open_ := 0 } a n hb hsl b5 NQ none 0 SK (.inl rfl) hs4 q hq).mono ?_
  rintro e w4 (⟨a1, F4, v, L', rfl, rfl, hs5, le5, aq, nq, az, nz, rfl, rfl, h1, h2, h3, h4⟩ | ⟨x, F4, rfl, rfl, hs5, le5⟩)
  ·exact .inl ⟨_, F4, _, rfl, ((hs5.drop 0).pick (k := 2) rfl).pick (k := 2) rfl, le5, _, _, az, nz, rfl, h3, h4, h⟩
  ·exact .inr ⟨x, F4, _, rfl, hs5, le5, h, .inl rfl⟩
 ·rintro e w5 ⟨o, F5, L5, rfl, hs5, le5, hK⟩
  cases o with
  | none =>
   obtain ⟨e, at_, a, n, rfl, hb, hsl, hr⟩ := hK
   simp only
   refine V 8 88 (AL (x := .tmp 11) (v := .tuple #[.int .i64 0, .int .i64 0]) rfl) ?_
   refine V 12 27 (BH (x := .tmp 8) (vs := #[.int .i64 0, .int .i64 0]) (i := 0) (v := .int .i64 0) rfl rfl) ?_
   refine V 13 3 (BH (x := .tmp 8) (vs := #[.int .i64 0, .int .i64 0]) (i := 1) (v := .int .i64 0) rfl rfl) ?_
   refine V 6 27 (Az (x := .tmp 12) (v := .int .i64 0) rfl) ?_
   refine V 7 3 (Az (x := .tmp 13) (v := .int .i64 0) rfl) ?_
   refine SC ?_
   refine Ac ?_
   refine Sq ?_
   refine Sq ?_
   refine Rg [0, 1] ?_
   refine V 14 27 (AL (x := .tmp 6) (v := .int .i64 0) rfl) ?_
   refine V 15 4 (HH (t := 27) (t' := 27) (x := .tmp 14) (y := .const (.int .i64 0)) (k := .i64) (a := 0) (b := 0) rfl rfl) ?_
   refine SC ?_
   refine Ac ?_
   refine CWP.cond0 (t := false) (by kernel_rfl) rfl rfl ?_
   refine CWP.skip (by kernel_rfl) ?_
   refine Ac ?_
   refine Sq ?_
   refine Rg [0, 1, 2, 3, 4] ?_
   refine V 19 0 (BX (s := 113) (x := .tmp 5) (i := 0) (o := 0) (k := 3) (b := b5) (o0 := 0) rfl (by kernel_rfl) rfl (o1 := 0) rfl) ?_
   refine V 20 33 (B6 (t := 33) (x := .tmp 19) (b := b5) (o := 0) (g := true) (s := 3) (C := #[.int .i64 e.Op, .int .i64 e.Value, .slice a e.Kids.length n, .int .i64 at_]) (v := .agg #[.int .i64 e.Op, .int .i64 e.Value, .slice a e.Kids.length n]) rfl (by kernel_rfl) (hs5.ownAt (k := 0) rfl) rfl rfl rfl) ?_
   subst hX
   refine SP (ty := 0) (g := none) (by kernel_rfl) rfl (x := .tmp 2) (y := .tmp 20) (t := 33) (gg := true) (s := 3) (v := .agg #[.int .i64 e.Op, .int .i64 e.Value, .slice a e.Kids.length n]) (b := b2) (o := 0) (C := #[.int .i64 0, .int .i64 0, .slice none 0 0]) rfl rfl (by kernel_rfl) hs5 (k := 1) rfl rfl rfl rfl (C' := #[.int .i64 e.Op, .int .i64 e.Value, .slice a e.Kids.length n]) rfl (fun w6 hs6 => ?_)
   refine V 3 27 (Az (x := .const (.int .i64 0)) (v := .int .i64 0) rfl) ?_
   refine V 4 3 (Az (x := .const (.int .i64 0)) (v := .int .i64 0) rfl) ?_
   refine SC ?_
   refine Ac ?_
   refine CWP.ret (by kernel_rfl) ?_
   obtain rfl := Ab hr
   exact ⟨rfl, _, AB (l := [.cell 2 33, .tmp 3, .tmp 4]) (by kernel_rfl) (vs := [.agg #[.int .i64 e.Op, .int .i64 e.Value, .slice a e.Kids.length n], .int .i64 0, .int .i64 0]) ⟨b2, 0, rfl, Ak (t := 33) (g := true) (s := 3) (by kernel_rfl) (hs6.ownAt (k := 1) rfl) rfl (by decide), rfl, rfl, trivial⟩, _, F5, rfl, hs6.clear, a, n, rfl, hb, hsl⟩
  | some x =>
   obtain ⟨hr, hL⟩ := hK
   have hs6 : HS w0 F0 w5 F5 X := by
    rcases hL with rfl | ⟨o, rfl⟩
    ·exact hs5
    ·exact hs5.drop 0
   clear hs5 hL
   cases hne : x.e_ != 0 with
   | false => rw [hne] at hr; cases hr
   | true =>
    rw [hne] at hr
    obtain rfl := Ab hr
    simp only
    refine V 8 88 (AL (x := .tmp 11) (v := .tuple #[.int .i64 x.e_, .int .i64 x.at_]) rfl) ?_
    refine V 12 27 (BH (x := .tmp 8) (vs := #[.int .i64 x.e_, .int .i64 x.at_]) (i := 0) (v := .int .i64 x.e_) rfl rfl) ?_
    refine V 13 3 (BH (x := .tmp 8) (vs := #[.int .i64 x.e_, .int .i64 x.at_]) (i := 1) (v := .int .i64 x.at_) rfl rfl) ?_
    refine V 6 27 (Az (x := .tmp 12) (v := .int .i64 x.e_) rfl) ?_
    refine V 7 3 (Az (x := .tmp 13) (v := .int .i64 x.at_) rfl) ?_
    refine SC ?_
    refine Ac ?_
    refine Sq ?_
    refine Sq ?_
    refine Rg [0, 1] ?_
    refine V 14 27 (AL (x := .tmp 6) (v := .int .i64 x.e_) rfl) ?_
    refine V 15 4 (HH (t := 27) (t' := 27) (x := .tmp 14) (y := .const (.int .i64 0)) (k := .i64) (a := x.e_) (b := 0) rfl rfl) ?_
    refine SC ?_
    refine Ac ?_
    refine CWP.cond1 (t := x.e_ != 0) (by kernel_rfl) rfl hne ?_
    refine Sq ?_
    refine Rg [0, 1, 2, 3, 4, 5] ?_
    refine V 16 33 (Ft (t := 33) (parts := #[]) (vs := []) rfl (cs := [.int .i64 0, .int .i64 0, .slice none 0 0]) (by kernel_rfl)) ?_
    refine V 17 27 (AL (x := .tmp 6) (v := .int .i64 x.e_) rfl) ?_
    refine V 18 3 (AL (x := .tmp 7) (v := .int .i64 x.at_) rfl) ?_
    subst hX
    refine SP (ty := 0) (g := none) (by kernel_rfl) rfl (x := .tmp 2) (y := .tmp 16) (t := 33) (gg := true) (s := 3) (v := .agg #[.int .i64 0, .int .i64 0, .slice none 0 0]) (b := b2) (o := 0) (C := #[.int .i64 0, .int .i64 0, .slice none 0 0]) rfl rfl (by kernel_rfl) hs6 (k := 0) rfl rfl rfl rfl (C' := #[.int .i64 0, .int .i64 0, .slice none 0 0]) rfl (fun w7 hs7 => ?_)
    refine V 3 27 (Az (x := .tmp 17) (v := .int .i64 x.e_) rfl) ?_
    refine V 4 3 (Az (x := .tmp 18) (v := .int .i64 x.at_) rfl) ?_
    refine SC ?_
    refine Ac ?_
    refine CWP.ret (by kernel_rfl) ?_
    refine Aj ?_
    exact ⟨rfl, _, AB (l := [.cell 2 33, .tmp 3, .tmp 4]) (by kernel_rfl) (vs := [.agg #[.int .i64 0, .int .i64 0, .slice none 0 0], .int .i64 x.e_, .int .i64 x.at_]) ⟨b2, 0, rfl, Ak (t := 33) (g := true) (s := 3) (by kernel_rfl) (hs7.ownAt (k := 0) rfl) rfl (by decide), rfl, rfl, trivial⟩, _, F5, rfl, hs7.clear, none, 0, rfl, SK, .inl rfl⟩
theorem Gx : Aq Tryz.prog 22 := fun _ _ => by kernel_rfl
set_option maxRecDepth 100000 in
theorem Hf (N : Nat) (w0 : World) (F0 : Mem) (hF : S1 w0 F0) (hG : CA F0) (x0 : SZ) (r : C6 × Int × Int) (h : DL N x0 = some r) :
  Calls Tryz.prog 22 ([.string ⟨x0.toArray⟩] : List Value).toArray w0 (AV w0 F0 fun F' v => ∃ (aq0_0 : S0) (nq0_0 : Nat) (aq0_1 : S0) (nq0_1 : Nat) (aq0_2 : S0) (nq0_2 : Nat) (aq0_3 : S0) (nq0_3 : Nat), v = (.tuple #[(.agg #[(.slice aq0_0 r.1.Points.length nq0_0), (.slice aq0_1 r.1.Multipliers.length nq0_1), (.slice aq0_2 r.1.Penalties.length nq0_2), (.slice aq0_3 r.1.Repeats.length nq0_3)]), (.int .i64 r.2.1), (.int .i64 r.2.2)]) /\ LC r.1.Points.length nq0_0 /\ SlA AC F' aq0_0 r.1.Points /\ LC r.1.Multipliers.length nq0_1 /\ SlA AC F' aq0_1 r.1.Multipliers /\ LC r.1.Penalties.length nq0_2 /\ SlA AC F' aq0_2 r.1.Penalties /\ LC r.1.Repeats.length nq0_3 /\ SlA Ar F' aq0_3 r.1.Repeats) := by
 have hs0 := SI hF
 refine EB (n := 20) (c := Cb Tryz.f22) Tryz.func22 (by kernel_rfl) (by kernel_rfl) (by kernel_rfl) ?_
 refine Sq ?_
 refine Rg [0, 1, 2] ?_
 refine SO (dst := some 2) (ty := 0) (g := none) (by kernel_rfl) rfl (t := 26) (z := .agg #[.slice none 0 0, .slice none 0 0, .slice none 0 0, .slice none 0 0]) (by kernel_rfl) (C := #[.slice none 0 0, .slice none 0 0, .slice none 0 0, .slice none 0 0]) rfl hs0 (fun b2 w1 hs1 => ?_)
 refine V 3 27 (Az (x := .const (.int .i64 0)) (v := .int .i64 0) rfl) ?_
 refine V 4 3 (Az (x := .const (.int .i64 0)) (v := .int .i64 0) rfl) ?_
 refine SC ?_
 refine Ac ?_
 refine Sq ?_
 refine Rg [0] ?_
 refine SO (dst := some 5) (ty := 0) (g := none) (by kernel_rfl) rfl (t := 26) (z := .agg #[.slice none 0 0, .slice none 0 0, .slice none 0 0, .slice none 0 0]) (by kernel_rfl) (C := #[.slice none 0 0, .slice none 0 0, .slice none 0 0, .slice none 0 0]) rfl hs1 (fun b5 w2 hs2 => ?_)
 refine SC ?_
 refine Ac ?_
 refine Sq ?_
 refine Rg [0, 1, 2, 3, 4, 5, 6, 7] ?_
 refine V 9 9 (AL (x := .tmp 0) (v := .string ⟨x0.toArray⟩) rfl) ?_
 refine V 10 103 (CJ (fn := .func 79) (first := #[]) (cap := #[.tmp 5]) (fl := []) (cl := [.pointer (some ⟨b5, 0, none⟩)]) rfl rfl) ?_
 obtain ⟨X, hX⟩ : ∃ X : Own, X = [(some b2, .cells #[.slice none 0 0, .slice none 0 0, .slice none 0 0, .slice none 0 0] 26 (0, 0))] := ⟨_, rfl⟩
 refine SE (dst := some 11) (ty := 88) (g := none) (by kernel_rfl) rfl (C8 (f := .func 78) (aos := #[.tmp 9, .tmp 10]) (ats := #[9, 103]) (g := 78) (first := #[]) (cap := #[]) (args := [.string ⟨x0.toArray⟩, .func (.func 79) #[] #[.pointer (some ⟨b5, 0, none⟩)]]) rfl Hd rfl)
  (IA N hs2 x0 (g := 79) (cap := [.pointer (some ⟨b5, 0, none⟩)]) I4 (fun o F' L' => match o with
   | none => ∃ (e : C6) (a0 : S0) (n0 : Nat) (a1 : S0) (n1 : Nat) (a2 : S0) (n2 : Nat) (a3 : S0) (n3 : Nat), L' = (some b5, .cells #[.slice a0 e.Points.length n0, .slice a1 e.Multipliers.length n1, .slice a2 e.Penalties.length n2, .slice a3 e.Repeats.length n3] 26 (0, 0)) :: X /\ LC e.Points.length n0 /\ SlA AC F' a0 e.Points /\ LC e.Multipliers.length n1 /\ SlA AC F' a1 e.Multipliers /\ LC e.Penalties.length n2 /\ SlA AC F' a2 e.Penalties /\ LC e.Repeats.length n3 /\ SlA Ar F' a3 e.Repeats /\ some (e, (0 : Int), (0 : Int)) = some r
   | some x => (bif x.e_ != 0 then some (Ma, x.e_, x.at_) else none) = some r /\ (L' = X \/ ∃ o, L' = (some b5, o) :: X)) ?_ ?_) ?_
 ·intro hc F'
  unfold DL Hn at h
  rw [MT hc] at h
  exact ⟨h, .inr ⟨_, by rw [hX]⟩⟩
 ·intro hc
  unfold DL Hn at h
  rw [Lp hc] at h
  obtain ⟨l, hl, h⟩ := bind_some h
  obtain ⟨q, hq, h⟩ := bind_some h
  refine ⟨l, hl, fun w3 F3 be_ ba_ bp a n le3 hb hsl hs3 => ?_⟩
  have hs4 : HS w0 F0 w3 F3 ((some bp, .cells #[.slice a l.length n, .int .i64 0] 100 (0, 0)) :: (some b5, .cells #[.slice none 0 0, .slice none 0 0, .slice none 0 0, .slice none 0 0] 26 (0, 0)) :: (none, .cells #[] 0 (0, 0)) :: (none, .cells #[] 0 (0, 0)) :: (none, .cells #[] 0 (0, 0)) :: (none, .cells #[] 0 (0, 0)) :: (some ba_, ba 0) :: (some be_, be 0) :: X) := by
   have h0 : HS w0 F0 w3 F3 ((some bp, .cells #[.slice a l.length n, .int .i64 0] 100 (0, 0)) :: (some b5, .cells #[.slice none 0 0, .slice none 0 0, .slice none 0 0, .slice none 0 0] 26 (0, 0)) :: (some ba_, ba 0) :: (some be_, be 0) :: X) := by
    rw [hX]; exact (hs3.pick (k := 3) rfl).pick (k := 1) rfl
   exact (((((h0.dummy (.cells #[] 0 (0, 0))).dummy (.cells #[] 0 (0, 0))).dummy (.cells #[] 0 (0, 0))).dummy (.cells #[] 0 (0, 0))).pick (k := 5) rfl).pick (k := 5) rfl
  refine (JK N (hG.mono (hs3.le)) bp { l_ := l, open_ := 0 } a n hb hsl b5 Ma none 0 (none, .cells #[] 0 (0, 0)) none 0 (none, .cells #[] 0 (0, 0)) none 0 (none, .cells #[] 0 (0, 0)) none 0 (none, .cells #[] 0 (0, 0)) (Av.nil _ _ _ _) (Av.nil _ _ _ _) (Av.nil _ _ _ _) (Av.nil _ _ _ _) hs4 q hq).mono ?_
  rintro e w4 (⟨q1, F4, v, L', rfl, rfl, hs5, le5, aq, nq, a0, n0, e0, a1, n1, e1, a2, n2, e2, a3, n3, e3, rfl, rfl, h1, h2, r0, r1, r2, r3⟩ | ⟨x, F4, rfl, rfl, hs5, le5⟩)
  ·have hs6 := hs5.drop 0
   obtain ⟨G0, hg0, lg0, s0⟩ : ∃ Fq, HS w0 F0 w4 Fq ((some b5, .cells #[.slice a0 q1.2.Points.length n0, .slice a1 q1.2.Multipliers.length n1, .slice a2 q1.2.Penalties.length n2, .slice a3 q1.2.Repeats.length n3] 26 (0, 0)) :: e1 :: e2 :: e3 :: (some ba_, ba 0) :: (some be_, be 0) :: X) /\ SG F4 Fq /\ SlA AC Fq a0 q1.2.Points := HS.freezeRow hs6 (k := 1) rfl r0
   obtain ⟨G1, hg1, lg1, s1⟩ : ∃ Fq, HS w0 F0 w4 Fq ((some b5, .cells #[.slice a0 q1.2.Points.length n0, .slice a1 q1.2.Multipliers.length n1, .slice a2 q1.2.Penalties.length n2, .slice a3 q1.2.Repeats.length n3] 26 (0, 0)) :: e2 :: e3 :: (some ba_, ba 0) :: (some be_, be 0) :: X) /\ SG G0 Fq /\ SlA AC Fq a1 q1.2.Multipliers := HS.freezeRow hg0 (k := 1) rfl (r1.mono lg0)
   obtain ⟨G2, hg2, lg2, s2⟩ : ∃ Fq, HS w0 F0 w4 Fq ((some b5, .cells #[.slice a0 q1.2.Points.length n0, .slice a1 q1.2.Multipliers.length n1, .slice a2 q1.2.Penalties.length n2, .slice a3 q1.2.Repeats.length n3] 26 (0, 0)) :: e3 :: (some ba_, ba 0) :: (some be_, be 0) :: X) /\ SG G1 Fq /\ SlA AC Fq a2 q1.2.Penalties := HS.freezeRow hg1 (k := 1) rfl (r2.mono (lg0.trans lg1))
   obtain ⟨G3, hg3, lg3, s3⟩ : ∃ Fq, HS w0 F0 w4 Fq ((some b5, .cells #[.slice a0 q1.2.Points.length n0, .slice a1 q1.2.Multipliers.length n1, .slice a2 q1.2.Penalties.length n2, .slice a3 q1.2.Repeats.length n3] 26 (0, 0)) :: (some ba_, ba 0) :: (some be_, be 0) :: X) /\ SG G2 Fq /\ SlA Ar Fq a3 q1.2.Repeats := HS.freezeRow hg2 (k := 1) rfl (r3.mono ((lg0.trans lg1).trans lg2))
   exact .inl ⟨_, G3, _, rfl, (hg3.pick (k := 2) rfl).pick (k := 2) rfl, (((le5.trans lg0).trans lg1).trans lg2).trans lg3, q1.2, a0, n0, a1, n1, a2, n2, a3, n3, rfl, r0.bound, s0.mono ((lg1.trans lg2).trans lg3), r1.bound, s1.mono (lg2.trans lg3), r2.bound, s2.mono lg3, r3.bound, s3, h⟩
  ·exact .inr ⟨x, F4, _, rfl, hs5, le5, h, .inl rfl⟩
 ·rintro e w5 ⟨o, F5, L5, rfl, hs5, le5, hK⟩
  cases o with
  | none =>
   obtain ⟨e, a0, n0, a1, n1, a2, n2, a3, n3, rfl, hb0, hl0, hb1, hl1, hb2, hl2, hb3, hl3, hr⟩ := hK
   simp only
   refine V 8 88 (AL (x := .tmp 11) (v := .tuple #[.int .i64 0, .int .i64 0]) rfl) ?_
   refine V 12 27 (BH (x := .tmp 8) (vs := #[.int .i64 0, .int .i64 0]) (i := 0) (v := .int .i64 0) rfl rfl) ?_
   refine V 13 3 (BH (x := .tmp 8) (vs := #[.int .i64 0, .int .i64 0]) (i := 1) (v := .int .i64 0) rfl rfl) ?_
   refine V 6 27 (Az (x := .tmp 12) (v := .int .i64 0) rfl) ?_
   refine V 7 3 (Az (x := .tmp 13) (v := .int .i64 0) rfl) ?_
   refine SC ?_
   refine Ac ?_
   refine Sq ?_
   refine Sq ?_
   refine Rg [0, 1] ?_
   refine V 14 27 (AL (x := .tmp 6) (v := .int .i64 0) rfl) ?_
   refine V 15 4 (HH (t := 27) (t' := 27) (x := .tmp 14) (y := .const (.int .i64 0)) (k := .i64) (a := 0) (b := 0) rfl rfl) ?_
   refine SC ?_
   refine Ac ?_
   refine CWP.cond0 (t := false) (by kernel_rfl) rfl rfl ?_
   refine CWP.skip (by kernel_rfl) ?_
   refine Ac ?_
   refine Sq ?_
   refine Rg [0, 1, 2, 3] ?_
   refine V 19 26 (B6 (t := 26) (x := .tmp 5) (b := b5) (o := 0) (g := true) (s := 4) (C := #[.slice a0 e.Points.length n0, .slice a1 e.Multipliers.length n1, .slice a2 e.Penalties.length n2, .slice a3 e.Repeats.length n3]) (v := .agg #[.slice a0 e.Points.length n0, .slice a1 e.Multipliers.length n1, .slice a2 e.Penalties.length n2, .slice a3 e.Repeats.length n3]) rfl (by kernel_rfl) (hs5.ownAt (k := 0) rfl) rfl rfl rfl) ?_
   subst hX
   refine SP (ty := 0) (g := none) (by kernel_rfl) rfl (x := .tmp 2) (y := .tmp 19) (t := 26) (gg := true) (s := 4) (v := .agg #[.slice a0 e.Points.length n0, .slice a1 e.Multipliers.length n1, .slice a2 e.Penalties.length n2, .slice a3 e.Repeats.length n3]) (b := b2) (o := 0) (C := #[.slice none 0 0, .slice none 0 0, .slice none 0 0, .slice none 0 0]) rfl rfl (by kernel_rfl) hs5 (k := 1) rfl rfl rfl rfl (C' := #[.slice a0 e.Points.length n0, .slice a1 e.Multipliers.length n1, .slice a2 e.Penalties.length n2, .slice a3 e.Repeats.length n3]) rfl (fun w6 hs6 => ?_)
   refine V 3 27 (Az (x := .const (.int .i64 0)) (v := .int .i64 0) rfl) ?_
   refine V 4 3 (Az (x := .const (.int .i64 0)) (v := .int .i64 0) rfl) ?_
   refine SC ?_
   refine Ac ?_
   refine CWP.ret (by kernel_rfl) ?_
   obtain rfl := Ab hr
   exact ⟨rfl, _, AB (l := [.cell 2 26, .tmp 3, .tmp 4]) (by kernel_rfl) (vs := [.agg #[.slice a0 e.Points.length n0, .slice a1 e.Multipliers.length n1, .slice a2 e.Penalties.length n2, .slice a3 e.Repeats.length n3], .int .i64 0, .int .i64 0]) ⟨b2, 0, rfl, Ak (t := 26) (g := true) (s := 4) (by kernel_rfl) (hs6.ownAt (k := 1) rfl) rfl (by decide), rfl, rfl, trivial⟩, _, F5, rfl, hs6.clear, a0, n0, a1, n1, a2, n2, a3, n3, rfl, hb0, hl0, hb1, hl1, hb2, hl2, hb3, hl3⟩
  | some x =>
   obtain ⟨hr, hL⟩ := hK
   have hs6 : HS w0 F0 w5 F5 X := by
    rcases hL with rfl | ⟨o, rfl⟩
    ·exact hs5
    ·exact hs5.drop 0
   clear hs5 hL
   cases hne : x.e_ != 0 with
   | false => rw [hne] at hr; cases hr
   | true =>
    rw [hne] at hr
    obtain rfl := Ab hr
    simp only
    refine V 8 88 (AL (x := .tmp 11) (v := .tuple #[.int .i64 x.e_, .int .i64 x.at_]) rfl) ?_
    refine V 12 27 (BH (x := .tmp 8) (vs := #[.int .i64 x.e_, .int .i64 x.at_]) (i := 0) (v := .int .i64 x.e_) rfl rfl) ?_
    refine V 13 3 (BH (x := .tmp 8) (vs := #[.int .i64 x.e_, .int .i64 x.at_]) (i := 1) (v := .int .i64 x.at_) rfl rfl) ?_
    refine V 6 27 (Az (x := .tmp 12) (v := .int .i64 x.e_) rfl) ?_
    refine V 7 3 (Az (x := .tmp 13) (v := .int .i64 x.at_) rfl) ?_
    refine SC ?_
    refine Ac ?_
    refine Sq ?_
    refine Sq ?_
    refine Rg [0, 1] ?_
    refine V 14 27 (AL (x := .tmp 6) (v := .int .i64 x.e_) rfl) ?_
    refine V 15 4 (HH (t := 27) (t' := 27) (x := .tmp 14) (y := .const (.int .i64 0)) (k := .i64) (a := x.e_) (b := 0) rfl rfl) ?_
    refine SC ?_
    refine Ac ?_
    refine CWP.cond1 (t := x.e_ != 0) (by kernel_rfl) rfl hne ?_
    refine Sq ?_
    refine Rg [0, 1, 2, 3, 4, 5] ?_
    refine V 16 26 (Ft (t := 26) (parts := #[]) (vs := []) rfl (cs := [.slice none 0 0, .slice none 0 0, .slice none 0 0, .slice none 0 0]) (by kernel_rfl)) ?_
    refine V 17 27 (AL (x := .tmp 6) (v := .int .i64 x.e_) rfl) ?_
    refine V 18 3 (AL (x := .tmp 7) (v := .int .i64 x.at_) rfl) ?_
    subst hX
    refine SP (ty := 0) (g := none) (by kernel_rfl) rfl (x := .tmp 2) (y := .tmp 16) (t := 26) (gg := true) (s := 4) (v := .agg #[.slice none 0 0, .slice none 0 0, .slice none 0 0, .slice none 0 0]) (b := b2) (o := 0) (C := #[.slice none 0 0, .slice none 0 0, .slice none 0 0, .slice none 0 0]) rfl rfl (by kernel_rfl) hs6 (k := 0) rfl rfl rfl rfl (C' := #[.slice none 0 0, .slice none 0 0, .slice none 0 0, .slice none 0 0]) rfl (fun w7 hs7 => ?_)
    refine V 3 27 (Az (x := .tmp 17) (v := .int .i64 x.e_) rfl) ?_
    refine V 4 3 (Az (x := .tmp 18) (v := .int .i64 x.at_) rfl) ?_
    refine SC ?_
    refine Ac ?_
    refine CWP.ret (by kernel_rfl) ?_
    refine Aj ?_
    exact ⟨rfl, _, AB (l := [.cell 2 26, .tmp 3, .tmp 4]) (by kernel_rfl) (vs := [.agg #[.slice none 0 0, .slice none 0 0, .slice none 0 0, .slice none 0 0], .int .i64 x.e_, .int .i64 x.at_]) ⟨b2, 0, rfl, Ak (t := 26) (g := true) (s := 4) (by kernel_rfl) (hs7.ownAt (k := 0) rfl) rfl (by decide), rfl, rfl, trivial⟩, _, F5, rfl, hs7.clear, none, 0, none, 0, none, 0, none, 0, rfl, SK, .inl rfl, SK, .inl rfl, SK, .inl rfl, SK, .inl rfl⟩
def HP (N : Nat)  : Option Bool :=
 ((A4 N ([49, 32, 43, 32, 50, 32, 42, 32, 51, 32, 61, 32, 55, 32, 97, 110, 100, 32, 110, 111, 116, 32, 98, 97, 110, 100, 32, 60, 32, 50] : SZ)).bind fun r21 => ((Cr N r21.1).bind fun r34 => ((DL N ([112, 111, 105, 110, 116, 115, 58, 32, 98, 97, 110, 100, 32, 61, 32, 49, 32, 61, 62, 32, 50] : SZ)).bind fun r42 => ((DL N ([112, 111, 105, 110, 116, 115, 58, 32, 98, 97, 110, 100, 32, 61, 62, 32, 50] : SZ)).bind fun r55 => ((mk0 0 14).bind fun r68 => ((idx r68 0).bind fun x78 => ((HK N r42.1 (r68.set (0 : Int).toNat 1)).bind fun r97 => ((A4 N ([105, 102, 40, 98, 97, 110, 100, 32, 61, 32, 98, 97, 110, 100, 44, 32, 48, 32, 43, 32, 122, 111, 110, 101, 44, 32, 55, 41] : SZ)).bind fun r105 => ((Gc N r105.1).bind fun r118 => (bif ((r21.2.1 != 0) || ((r34.2 != 0) || ((r42.2.1 != 0) || ((r55.2.1 != 61) || ((r97.2 != 0) || ((r105.2.1 != 0) || ((r118.2 != 0) || (r55.2.2 != 8)))))))) then some false else some ((r21.1.Op == 4) && ((r34.1 == ([49, 32, 43, 32, 50, 32, 42, 32, 51, 32, 61, 32, 55, 32, 97, 110, 100, 32, 110, 111, 116, 32, 98, 97, 110, 100, 32, 60, 32, 50] : SZ)) && ((r97.1 == 2) && ((r118.1.Op == 2) && (r118.1.Value == 7)))))))))))))))
theorem JF : Aq Tryz.prog 21 := fun _ _ => by kernel_rfl
theorem KD (N : Nat) (w0 : World) (F0 : Mem) (hF : S1 w0 F0) (hG : CA F0)  (r : Bool) (h : HP N  = some r) :
  Calls Tryz.prog 21 ([] : List Value).toArray w0 (AV w0 F0 fun F' v => v = (.bool r)) := by
 have hs0 := SI hF
 refine Go 110 Tryz.func21 ?_
 refine Sq (Rg [0] ?_)
 refine Vs 1 ?_
 refine Nss (Rg [0, 1, 2, 3, 4, 5, 6, 7, 8] ?_)
 obtain ⟨r21, hr22, h23⟩ := bind_some h
 refine Cl' Cn hs0 (Cz N w0 F0 hs0.pers hG (([49, 32, 43, 32, 50, 32, 42, 32, 51, 32, 61, 32, 55, 32, 97, 110, 100, 32, 110, 111, 116, 32, 98, 97, 110, 100, 32, 60, 32, 50] : SZ)) _ hr22) ?_
 rintro _ F1 w25 hs26 le27 ⟨ar21_0_2, nr21_0_2, rfl, hbr21_0_2, hsr21_0_2⟩
 refine Vs 4 ?_
 refine Al' 33 #[(vi 0), (vi 0), (.slice none ([] : List Expr).length 0)] hs26 (fun b29 w30 hs31 => ?_)
 refine St0 (Ai r21.1 ar21_0_2 nr21_0_2) hs31 (fun w32 hs33 => ?_)
 refine Vs 2 ?_
 refine Nss (Rg [0, 1, 2, 3, 4, 5, 6] ?_)
 refine Ld hs33.at0 ?_
 obtain ⟨r34, hr35, h36⟩ := bind_some h23
 refine Cl' Ez hs33 (ER N w32 F1 hs33.pers (hG.mono le27) r21.1 ar21_0_2 nr21_0_2 hbr21_0_2 hsr21_0_2 _ hr35) ?_
 rintro _ F2 w38 hs39 le40 rfl
 refine Vs 5 ?_
 refine Nss (Rg [0, 1, 2, 3, 4, 5, 6, 7, 8] ?_)
 obtain ⟨r42, hr43, h44⟩ := bind_some h36
 refine Cl' Gx hs39 (Hf N w38 F2 hs39.pers (hG.mono (le27.trans le40)) (([112, 111, 105, 110, 116, 115, 58, 32, 98, 97, 110, 100, 32, 61, 32, 49, 32, 61, 62, 32, 50] : SZ)) _ hr43) ?_
 rintro _ F3 w46 hs47 le48 ⟨ar42_0_0, nr42_0_0, ar42_0_1, nr42_0_1, ar42_0_2, nr42_0_2, ar42_0_3, nr42_0_3, rfl, hbr42_0_0, hsr42_0_0, hbr42_0_1, hsr42_0_1, hbr42_0_2, hsr42_0_2, hbr42_0_3, hsr42_0_3⟩
 refine Vs 4 ?_
 refine Al' 26 #[(.slice none ([] : List Clause).length 0), (.slice none ([] : List Clause).length 0), (.slice none ([] : List Clause).length 0), (.slice none ([] : List Expr).length 0)] hs47 (fun b50 w51 hs52 => ?_)
 refine St0 (BC r42.1 ar42_0_0 nr42_0_0 ar42_0_1 nr42_0_1 ar42_0_2 nr42_0_2 ar42_0_3 nr42_0_3) hs52 (fun w53 hs54 => ?_)
 refine Vs 2 ?_
 refine Nss (Rg [0, 1, 2, 3, 4, 5, 6, 7, 8] ?_)
 obtain ⟨r55, hr56, h57⟩ := bind_some h44
 refine Cl' Gx hs54 (Hf N w53 F3 hs54.pers (hG.mono ((le27.trans le40).trans le48)) (([112, 111, 105, 110, 116, 115, 58, 32, 98, 97, 110, 100, 32, 61, 62, 32, 50] : SZ)) _ hr56) ?_
 rintro _ F4 w59 hs60 le61 ⟨ar55_0_0, nr55_0_0, ar55_0_1, nr55_0_1, ar55_0_2, nr55_0_2, ar55_0_3, nr55_0_3, rfl, hbr55_0_0, hsr55_0_0, hbr55_0_1, hsr55_0_1, hbr55_0_2, hsr55_0_2, hbr55_0_3, hsr55_0_3⟩
 refine Vs 4 ?_
 refine Al' 26 #[(.slice none ([] : List Clause).length 0), (.slice none ([] : List Clause).length 0), (.slice none ([] : List Clause).length 0), (.slice none ([] : List Expr).length 0)] hs60 (fun b63 w64 hs65 => ?_)
 refine St0 (BC r55.1 ar55_0_0 nr55_0_0 ar55_0_1 nr55_0_1 ar55_0_2 nr55_0_2 ar55_0_3 nr55_0_3) hs65 (fun w66 hs67 => ?_)
 refine Vs 2 ?_
 refine Nss (Rg [0, 1] ?_)
 obtain ⟨r68, hm69, h70⟩ := bind_some h57
 refine RWP.makeSlice (dst := (some 40)) (ty := 47) (g := none) (by kernel_rfl) rfl (x := (.const (vi 14))) (y := (.const (vi 14))) (t := 47) (by_ := 8) (z := (vi 0)) (T := Ci) (E := 3) rfl rfl (by kernel_rfl) (by decide) (by kernel_rfl) (z0 := 0) (fun _ => rfl) (by decide) hs67 hm69 (fun b71 n72 C73 w74 (hs75 : HS w0 F0 w74 F4 [(some b71, .cells C73 3 (0, 0)), (sb b63 (BC r55.1 ar55_0_0 nr55_0_0 ar55_0_1 nr55_0_1 ar55_0_2 nr55_0_2 ar55_0_3 nr55_0_3) 26), (sb b50 (BC r42.1 ar42_0_0 nr42_0_0 ar42_0_1 nr42_0_1 ar42_0_2 nr42_0_2 ar42_0_3 nr42_0_3) 26), (sb b29 (Ai r21.1 ar21_0_2 nr21_0_2) 33)]) hr76 => ?_)
 refine Vs 1 ?_
 refine Nss (Rg [0, 1, 2] ?_)
 refine Vs 1 ?_
 obtain ⟨x78, hx79, h81⟩ := bind_some h70
 obtain ⟨hi80, hx79'⟩ := Aw hx79
 obtain ⟨b82, C83, ha84, he85, hE86⟩ := Av.open hr76 hx79'
 cases ha84
 cases he85
 have hc88 := hE86 _ _ hx79'
 refine Ix0 hi80 ?_
 refine RWP.storeRow (ty := 0) (g := none) (by kernel_rfl) rfl (x := (.tmp 42)) (y := (.const (vi 1))) (t := 3) (v := (vi 1)) (gg := false) (b := b71) (j := (0 : Int).toNat) (C := C73) (T := Ci) (E := 3) (u := 1) rfl rfl (by kernel_rfl) hs75 (k := 0) rfl hr76 hx79' rfl rfl (fun C89 w90 (hs91 : HS w0 F0 w90 F4 [(some b71, .cells C89 3 (0, 0)), (sb b63 (BC r55.1 ar55_0_0 nr55_0_0 ar55_0_1 nr55_0_1 ar55_0_2 nr55_0_2 ar55_0_3 nr55_0_3) 26), (sb b50 (BC r42.1 ar42_0_0 nr42_0_0 ar42_0_1 nr42_0_1 ar42_0_2 nr42_0_2 ar42_0_3 nr42_0_3) 26), (sb b29 (Ai r21.1 ar21_0_2 nr21_0_2) 33)]) hr92 => ?_)
 refine Nss (Rg [0, 1, 2, 3, 4, 5, 6, 7] ?_)
 refine Ld hs91.at2 ?_
 refine V 45 47 (mv 12 (.slice (some ⟨b71, 0, none⟩) (r68.set (0 : Int).toNat 1).length n72) (LR rfl)) ?_
 have hb96 := SW hr92
 obtain ⟨F5, hs93, le94, hs95⟩ := hs91.fr0 hr92
 obtain ⟨r97, hr98, h99⟩ := bind_some h81
 refine Cl' JD hs93 (KB N w90 F5 hs93.pers r42.1 ar42_0_0 nr42_0_0 hbr42_0_0 (SJ hsr42_0_0 (le61.trans le94)) ar42_0_1 nr42_0_1 hbr42_0_1 (SJ hsr42_0_1 (le61.trans le94)) ar42_0_2 nr42_0_2 hbr42_0_2 (SJ hsr42_0_2 (le61.trans le94)) ar42_0_3 nr42_0_3 hbr42_0_3 (SJ hsr42_0_3 (le61.trans le94)) ((r68.set (0 : Int).toNat 1)) (some ⟨b71, 0, none⟩) n72 hb96 hs95 _ hr98) ?_
 rintro _ F6 w101 hs102 le103 rfl
 refine Vs 5 ?_
 refine Nss (Rg [0, 1, 2, 3, 4, 5, 6, 7, 8] ?_)
 obtain ⟨r105, hr106, h107⟩ := bind_some h99
 refine Cl' Cn hs102 (Cz N w101 F6 hs102.pers (hG.mono (((((le27.trans le40).trans le48).trans le61).trans le94).trans le103)) (([105, 102, 40, 98, 97, 110, 100, 32, 61, 32, 98, 97, 110, 100, 44, 32, 48, 32, 43, 32, 122, 111, 110, 101, 44, 32, 55, 41] : SZ)) _ hr106) ?_
 rintro _ F7 w109 hs110 le111 ⟨ar105_0_2, nr105_0_2, rfl, hbr105_0_2, hsr105_0_2⟩
 refine Vs 4 ?_
 refine Al' 33 #[(vi 0), (vi 0), (.slice none ([] : List Expr).length 0)] hs110 (fun b113 w114 hs115 => ?_)
 refine St0 (Ai r105.1 ar105_0_2 nr105_0_2) hs115 (fun w116 hs117 => ?_)
 refine Vs 2 ?_
 refine Nss (Rg [0, 1, 2, 3, 4, 5, 6, 7] ?_)
 refine Ld hs117.at0 ?_
 obtain ⟨r118, hr119, h120⟩ := bind_some h107
 refine Cl' Iw hs117 (I9 N w116 F7 hs117.pers r105.1 ar105_0_2 nr105_0_2 hbr105_0_2 hsr105_0_2 _ hr119) ?_
 rintro _ F8 w122 hs123 le124 ⟨ar118_0_2, nr118_0_2, rfl, hbr118_0_2, hsr118_0_2⟩
 refine Vs 3 ?_
 refine Al' 33 #[(vi 0), (vi 0), (.slice none ([] : List Expr).length 0)] hs123 (fun b126 w127 hs128 => ?_)
 refine St0 (Ai r118.1 ar118_0_2 nr118_0_2) hs128 (fun w129 hs130 => ?_)
 refine Vs 1 ?_
 refine Nss ?_
 refine Sq (Rg [0, 1, 2, 3, 4, 5, 6, 7, 8, 9, 10, 11, 12, 13, 14, 15, 16, 17, 18, 19, 20, 21, 22, 23, 24, 25, 26, 27, 28, 29] ?_)
 refine SM (fun f w => ∃ (F9 : Mem), HS w0 F0 w F9 [(sb b126 (Ai r118.1 ar118_0_2 nr118_0_2) 33), (sb b29 (Ai r21.1 ar21_0_2 nr21_0_2) 33)] /\ SG F8 F9 /\ FI f [] [(1, (pt b29 0)), (4, (.string ⟨(r34.1).toArray⟩)), (13, (vi r97.1)), (18, (pt b126 0)), (88, (.bool ((r21.2.1 != 0) || ((r34.2 != 0) || ((r42.2.1 != 0) || ((r55.2.1 != 61) || ((r97.2 != 0) || ((r105.2.1 != 0) || ((r118.2 != 0) || (r55.2.2 != 8))))))))))]) ?_ ?_
 ·refine Vs 3 ?_
  refine SL (r21.2.1 != 0) (fun hb140 => ?_) (fun hb140 => ?_)
  ·refine Ss hb140 2 ?_
   refine Pk1 hb140 ?_
   refine Vs 1 ?_
   refine Ss (rfl : true = true) 2 ?_
   refine Pk1 (rfl : true = true) ?_
   refine Vs 1 ?_
   refine Ss (rfl : true = true) 2 ?_
   refine Pk1 (rfl : true = true) ?_
   refine Vs 1 ?_
   refine Ss (rfl : true = true) 2 ?_
   refine Pk1 (rfl : true = true) ?_
   refine Vs 1 ?_
   refine Ss (rfl : true = true) 2 ?_
   refine Pk1 (rfl : true = true) ?_
   refine Vs 1 ?_
   refine Ss (rfl : true = true) 2 ?_
   refine Pk1 (rfl : true = true) ?_
   refine Vs 1 ?_
   refine Ss (rfl : true = true) 2 ?_
   refine Pk1 (rfl : true = true) ?_
   exact SC ⟨rfl, F8, hs130.dr1.dr1.dr1, (SH _), (fJ ⟨rfl, rfl, rfl, rfl, (congrArg Value.bool (FQ hb140 rfl)), trivial⟩)⟩
  ·refine Vgs hb140 2 ?_
   refine Pk0 hb140 ?_
   refine Vs 1 ?_
   refine SL (r34.2 != 0) (fun hb141 => ?_) (fun hb141 => ?_)
   ·refine Ss hb141 2 ?_
    refine Pk1 hb141 ?_
    refine Vs 1 ?_
    refine Ss (rfl : true = true) 2 ?_
    refine Pk1 (rfl : true = true) ?_
    refine Vs 1 ?_
    refine Ss (rfl : true = true) 2 ?_
    refine Pk1 (rfl : true = true) ?_
    refine Vs 1 ?_
    refine Ss (rfl : true = true) 2 ?_
    refine Pk1 (rfl : true = true) ?_
    refine Vs 1 ?_
    refine Ss (rfl : true = true) 2 ?_
    refine Pk1 (rfl : true = true) ?_
    refine Vs 1 ?_
    refine Ss (rfl : true = true) 2 ?_
    refine Pk1 (rfl : true = true) ?_
    exact SC ⟨rfl, F8, hs130.dr1.dr1.dr1, (SH _), (fJ ⟨rfl, rfl, rfl, rfl, (congrArg Value.bool (B5 hb140 (FQ hb141 rfl))), trivial⟩)⟩
   ·refine Vgs hb141 2 ?_
    refine Pk0 hb141 ?_
    refine Vs 1 ?_
    refine SL (r42.2.1 != 0) (fun hb142 => ?_) (fun hb142 => ?_)
    ·refine Ss hb142 2 ?_
     refine Pk1 hb142 ?_
     refine Vs 1 ?_
     refine Ss (rfl : true = true) 2 ?_
     refine Pk1 (rfl : true = true) ?_
     refine Vs 1 ?_
     refine Ss (rfl : true = true) 2 ?_
     refine Pk1 (rfl : true = true) ?_
     refine Vs 1 ?_
     refine Ss (rfl : true = true) 2 ?_
     refine Pk1 (rfl : true = true) ?_
     refine Vs 1 ?_
     refine Ss (rfl : true = true) 2 ?_
     refine Pk1 (rfl : true = true) ?_
     exact SC ⟨rfl, F8, hs130.dr1.dr1.dr1, (SH _), (fJ ⟨rfl, rfl, rfl, rfl, (congrArg Value.bool (B5 hb140 (B5 hb141 (FQ hb142 rfl)))), trivial⟩)⟩
    ·refine Vgs hb142 2 ?_
     refine Pk0 hb142 ?_
     refine Vs 1 ?_
     refine SL (r55.2.1 != 61) (fun hb143 => ?_) (fun hb143 => ?_)
     ·refine Ss hb143 2 ?_
      refine Pk1 hb143 ?_
      refine Vs 1 ?_
      refine Ss (rfl : true = true) 2 ?_
      refine Pk1 (rfl : true = true) ?_
      refine Vs 1 ?_
      refine Ss (rfl : true = true) 2 ?_
      refine Pk1 (rfl : true = true) ?_
      refine Vs 1 ?_
      refine Ss (rfl : true = true) 2 ?_
      refine Pk1 (rfl : true = true) ?_
      exact SC ⟨rfl, F8, hs130.dr1.dr1.dr1, (SH _), (fJ ⟨rfl, rfl, rfl, rfl, (congrArg Value.bool (B5 hb140 (B5 hb141 (B5 hb142 (FQ hb143 rfl))))), trivial⟩)⟩
     ·refine Vgs hb143 2 ?_
      refine Pk0 hb143 ?_
      refine Vs 1 ?_
      refine SL (r97.2 != 0) (fun hb144 => ?_) (fun hb144 => ?_)
      ·refine Ss hb144 2 ?_
       refine Pk1 hb144 ?_
       refine Vs 1 ?_
       refine Ss (rfl : true = true) 2 ?_
       refine Pk1 (rfl : true = true) ?_
       refine Vs 1 ?_
       refine Ss (rfl : true = true) 2 ?_
       refine Pk1 (rfl : true = true) ?_
       exact SC ⟨rfl, F8, hs130.dr1.dr1.dr1, (SH _), (fJ ⟨rfl, rfl, rfl, rfl, (congrArg Value.bool (B5 hb140 (B5 hb141 (B5 hb142 (B5 hb143 (FQ hb144 rfl)))))), trivial⟩)⟩
      ·refine Vgs hb144 2 ?_
       refine Pk0 hb144 ?_
       refine Vs 1 ?_
       refine SL (r105.2.1 != 0) (fun hb145 => ?_) (fun hb145 => ?_)
       ·refine Ss hb145 2 ?_
        refine Pk1 hb145 ?_
        refine Vs 1 ?_
        refine Ss (rfl : true = true) 2 ?_
        refine Pk1 (rfl : true = true) ?_
        exact SC ⟨rfl, F8, hs130.dr1.dr1.dr1, (SH _), (fJ ⟨rfl, rfl, rfl, rfl, (congrArg Value.bool (B5 hb140 (B5 hb141 (B5 hb142 (B5 hb143 (B5 hb144 (FQ hb145 rfl))))))), trivial⟩)⟩
       ·refine Vgs hb145 2 ?_
        refine Pk0 hb145 ?_
        refine Vs 1 ?_
        refine SL (r118.2 != 0) (fun hb146 => ?_) (fun hb146 => ?_)
        ·refine Ss hb146 2 ?_
         refine Pk1 hb146 ?_
         exact SC ⟨rfl, F8, hs130.dr1.dr1.dr1, (SH _), (fJ ⟨rfl, rfl, rfl, rfl, (congrArg Value.bool (B5 hb140 (B5 hb141 (B5 hb142 (B5 hb143 (B5 hb144 (B5 hb145 (FQ hb146 rfl)))))))), trivial⟩)⟩
        ·refine Vgs hb146 2 ?_
         refine Pk0 hb146 ?_
         exact SC ⟨rfl, F8, hs130.dr1.dr1.dr1, (SH _), (fJ ⟨rfl, rfl, rfl, rfl, (congrArg Value.bool (B5 hb140 (B5 hb141 (B5 hb142 (B5 hb143 (B5 hb144 (B5 hb145 (B5 hb146 rfl)))))))), trivial⟩)⟩
 ·rintro f w131 ⟨F9, hs132, le133, ⟨_, rfl⟩⟩
  refine Ac ?_
  refine Cd h120 (fun hb147 h148 => ?_) (fun hb147 h149 => ?_)
  ·refine Sq (Rg [0] ?_)
   refine Vs 1 ?_
   refine Nt ?_
   refine Rt ?_
   refine Aj ?_
   obtain rfl := Ab h148
   exact Re [(.bool false)] hs132 rfl
  ·refine Sc ?_
   refine Ac ?_
   refine Sq (Rg [0, 1, 2, 3, 4, 5, 6, 7, 8, 9, 10, 11, 12, 13, 14, 15, 16, 17, 18, 19, 20, 21] ?_)
   refine SM (fun f w => ∃ (F10 : Mem), HS w0 F0 w F10 [] /\ SG F9 F10 /\ FI f [] [(0, (.bool ((r21.1.Op == 4) && ((r34.1 == ([49, 32, 43, 32, 50, 32, 42, 32, 51, 32, 61, 32, 55, 32, 97, 110, 100, 32, 110, 111, 116, 32, 98, 97, 110, 100, 32, 60, 32, 50] : SZ)) && ((r97.1 == 2) && ((r118.1.Op == 2) && (r118.1.Value == 7)))))))]) ?_ ?_
   ·refine Vs 1 ?_
    refine Ld hs132.at1 ?_
    refine Vs 2 ?_
    refine SL (r21.1.Op == 4) (fun hb155 => ?_) (fun hb155 => ?_)
    ·refine Vgs hb155 2 ?_
     refine Pk1 hb155 ?_
     refine Vs 1 ?_
     refine SL (r34.1 == ([49, 32, 43, 32, 50, 32, 42, 32, 51, 32, 61, 32, 55, 32, 97, 110, 100, 32, 110, 111, 116, 32, 98, 97, 110, 100, 32, 60, 32, 50] : SZ)) (fun hb156 => ?_) (fun hb156 => ?_)
     ·refine Vgs hb156 2 ?_
      refine Pk1 hb156 ?_
      refine Vs 1 ?_
      refine SL (r97.1 == 2) (fun hb157 => ?_) (fun hb157 => ?_)
      ·refine Vgs hb157 1 ?_
       refine Lg hb157 hs132.at0 ?_
       refine Vgs hb157 1 ?_
       refine Pk1 hb157 ?_
       refine Vs 1 ?_
       refine SL (r118.1.Op == 2) (fun hb158 => ?_) (fun hb158 => ?_)
       ·refine Vgs hb158 1 ?_
        refine Lg hb158 hs132.at0 ?_
        refine Vgs hb158 1 ?_
        refine Pk1 hb158 ?_
        refine Vs 1 ?_
        exact SC ⟨rfl, F9, hs132.dr0.dr0, (SH _), (fJ ⟨(congrArg Value.bool (D0 hb155 (D0 hb156 (D0 hb157 (D0 hb158 rfl))))), trivial⟩)⟩
       ·refine Ss hb158 3 ?_
        refine Pk0 hb158 ?_
        refine Vs 1 ?_
        exact SC ⟨rfl, F9, hs132.dr0.dr0, (SH _), (fJ ⟨(congrArg Value.bool (D0 hb155 (D0 hb156 (D0 hb157 (GI hb158 rfl))))), trivial⟩)⟩
      ·refine Ss hb157 3 ?_
       refine Pk0 hb157 ?_
       refine Vs 1 ?_
       refine Ss (rfl : false = false) 3 ?_
       refine Pk0 (rfl : false = false) ?_
       refine Vs 1 ?_
       exact SC ⟨rfl, F9, hs132.dr0.dr0, (SH _), (fJ ⟨(congrArg Value.bool (D0 hb155 (D0 hb156 (GI hb157 rfl)))), trivial⟩)⟩
     ·refine Ss hb156 2 ?_
      refine Pk0 hb156 ?_
      refine Vs 1 ?_
      refine Ss (rfl : false = false) 3 ?_
      refine Pk0 (rfl : false = false) ?_
      refine Vs 1 ?_
      refine Ss (rfl : false = false) 3 ?_
      refine Pk0 (rfl : false = false) ?_
      refine Vs 1 ?_
      exact SC ⟨rfl, F9, hs132.dr0.dr0, (SH _), (fJ ⟨(congrArg Value.bool (D0 hb155 (GI hb156 rfl))), trivial⟩)⟩
    ·refine Ss hb155 2 ?_
     refine Pk0 hb155 ?_
     refine Vs 1 ?_
     refine Ss (rfl : false = false) 2 ?_
     refine Pk0 (rfl : false = false) ?_
     refine Vs 1 ?_
     refine Ss (rfl : false = false) 3 ?_
     refine Pk0 (rfl : false = false) ?_
     refine Vs 1 ?_
     refine Ss (rfl : false = false) 3 ?_
     refine Pk0 (rfl : false = false) ?_
     refine Vs 1 ?_
     exact SC ⟨rfl, F9, hs132.dr0.dr0, (SH _), (fJ ⟨(congrArg Value.bool (GI hb155 rfl)), trivial⟩)⟩
   ·rintro f w150 ⟨F10, hs151, le152, ⟨_, rfl⟩⟩
    refine Ac ?_
    refine Rt ?_
    obtain rfl := Ab h149
    exact Re [(.bool ((r21.1.Op == 4) && ((r34.1 == ([49, 32, 43, 32, 50, 32, 42, 32, 51, 32, 61, 32, 55, 32, 97, 110, 100, 32, 110, 111, 116, 32, 98, 97, 110, 100, 32, 60, 32, 50] : SZ)) && ((r97.1 == 2) && ((r118.1.Op == 2) && (r118.1.Value == 7))))))] hs151 rfl
set_option maxRecDepth 100000 in
theorem OP : HP 9223372036854775808 = some true := by kernel_rfl
def Gi (_N : Nat) : Option Bool := some true
theorem Kv : Aq Tryz.prog 21 := JF
theorem K0 (N : Nat) (w0 : World) (F0 : Mem) (hF : S1 w0 F0) (hG : CA F0) (r : Bool) (h : Gi N = some r) :
  Calls Tryz.prog 21 ([] : List Value).toArray w0 (AV w0 F0 fun F' v => v = (.bool r)) := by
 cases h
 exact KD 9223372036854775808 w0 F0 hF hG true OP


section
variable {N : Nat} {σ : Type}
def hit (l : List Clause) (d : List QH) (k : Int) : Bool := (Rp d).any fun f => fi (isT f) l == k
noncomputable def mx (e : Expr) (d : List QH) : Int := (Rp d).foldl (fun a f => max a (val f e)) (-1000000)
end



def dN (e : Expr) : Nat := match e with
 | ⟨_, _, ks⟩ => 1 + (ks.map fun x => dN x).foldl max 0
theorem Oj (e : Expr) : dN e = 1 + (e.Kids.map dN).foldl max 0 := by cases e; rw [dN]
theorem Fl (e : Expr) : 0 < sz e := by rw [K5]; omega
theorem PR (e : Expr) : 0 < dN e := by rw [Oj]; omega





section
variable {N : Nat}
theorem HB {e : Expr} (h : IH e = true) : kd e ≠ 0 := by unfold IH at h; simp at h; exact h.2
end
theorem MO : ∀ (n : Nat) (e : Expr), sz e <= n -> dN e <= sz e
 | 0, e, h => by have := Fl e; omega
 | n + 1, e, h => by
  rw [Oj, K5 e]
  have : ∀ (l : List Expr) (a b : Nat), a <= b -> (∀ x, x ∈ l -> x ∈ e.Kids) -> (l.map dN).foldl max a <= b + (l.map sz).sum := by
   intro l
   induction l with
   | nil => intro a b hab _; simpa using hab
   | cons x l ih =>
    intro a b hab hl
    have hx := hl x (by simp)
    have h2 := MO n x (by have := CM hx; omega)
    have := ih (max a (dN x)) (b + sz x) (by omega) (fun y hy => hl y (by simp [hy]))
    rw [List.map_cons, List.foldl_cons, List.map_cons, List.sum_cons]
    omega
  have := this e.Kids 0 0 (Nat.le_refl _) (fun _ h => h)
  omega
theorem PN : ∀ (n : Nat) (e : Expr), sz e <= n -> sz e < 4294967296 -> dp e = (dN e : Int)
 | 0, e, h, _ => by have := Fl e; omega
 | n + 1, e, h, h2 => by
  have hd := MO _ e (Nat.le_refl _)
  rw [PM]
  have : ∀ (l : List Expr) (a : Nat), (∀ x, x ∈ l -> x ∈ e.Kids) -> l.foldl (fun s x => max s (dp x)) (a : Int) = (((l.map dN).foldl max a : Nat) : Int) := by
   intro l
   induction l with
   | nil => intro a _; rfl
   | cons x l ih =>
    intro a hl
    have hx := CM (hl x (by simp))
    rw [List.foldl_cons, List.map_cons, List.foldl_cons, PN n x (by omega) (by omega), <- ih _ (fun y hy => hl y (by simp [hy]))]
    congr 1; omega
  have := this e.Kids 0 (fun _ h => h)
  rw [show ((0 : Nat) : Int) = 0 from rfl] at this
  rw [this]
  rw [Oj] at hd ⊢
  rw [OS (by omega) (by omega)]; omega














def Et (N : Nat) (x0 : AO) (x1 : Int) (x2 : Int) : Option AO :=
 ((bif (x0.Bad == 0) then some (x1, x2) else some (x0.Bad, x0.Where)).bind fun j24 => some ({ L := x0.L, At := x0.At, Open := x0.Open, Bad := j24.1, Where := j24.2 } : AO))






def PS (Lr : List Ah) (i : Nat) (o : Int) : Aa := ⟨Lr.drop i, o⟩
def RB (Lf : List Ae) (i : Nat) (o e w : Int) : AO := ⟨Lf, (i : Int), o, e, w⟩
abbrev RS (Lf : List Ae) (i : Nat) (o : Int) : AO := RB Lf i o 0 0
def Se (Lf : List Ae) (i : Nat) (t : SZ) : Bool := match Lf[i]? with
 | some b => seeF b t
 | none => false
def atI (Lf : List Ae) (i : Nat) : Int := match Lf[i]? with
 | some b => b.At
 | none => 0
section
variable {N n : Nat} {Lr : List Ah} {Lf : List Ae} (T : JN n Lr Lf)
include T
theorem JN.hd {i : Nat} (hi : i < n) : ∃ a b, Lr[i]? = some a /\ Lf[i]? = some b /\ idx (Lr.drop i) 0 = some a /\ idx Lf (i : Int) = some b /\ ((NH a b /\ i + 1 < n) \/ (OT a b /\ i + 1 = n)) /\ a.at_ = b.At := by
 have h1 : i < Lr.length := by have := T.lr; omega
 have h2 : i < Lf.length := by have := T.lf; omega
 refine ⟨Lr[i], Lf[i], List.getElem?_eq_getElem h1, List.getElem?_eq_getElem h2, ?_, DK h2, ?_, ?_⟩
 ·show idx (Lr.drop i) ((0 : Nat) : Int) = _
  rw [Pz, List.getElem?_drop, Nat.add_zero, List.getElem?_eq_getElem h1]
 ·by_cases h : i + 1 < n
  ·exact .inl ⟨T.c i h1 h2 h, h⟩
  ·exact .inr ⟨T.e i h1 h2 (by omega), by omega⟩
 ·by_cases h : i + 1 < n
  ·exact (T.c i h1 h2 h).at_
  ·exact (T.e i h1 h2 (by omega)).at_
theorem JN.see {i : Nat} {a : Ah} (ha : Lr[i]? = some a) (hi : i < n) {t : SZ} (ht : t ≠ [10]) : seeR a t = Se Lf i t := by
 obtain ⟨a', b, h1, h2, _, _, h5, _⟩ := T.hd hi
 rw [h1] at ha; cases ha
 unfold Se
 rw [h2]
 rcases h5 with ⟨h, _⟩ | ⟨h, _⟩
 ·exact h.see ht
 ·rw [h.seeR]; exact (h.seeF t).symm
theorem ME {i : Nat} (hi : i < n) (o : Int) (t : SZ) {a : Ah} (ha : Lr[i]? = some a) : AD N (PS Lr i o) t = some (seeR a t) := by
 obtain ⟨a', b, h1, _, h3, _, _, _⟩ := T.hd hi
 rw [h1] at ha; cases ha
 unfold AD PS seeR
 simp only [h3, Option.bind_some]
 cases h2 : (a.kind_ == 2) <;> cases h3 : (a.kind_ == 3) <;> simp
theorem Pr {i : Nat} (hi : i < n) (o : Int) {t : SZ} (ht : t ≠ [10]) : AD N (PS Lr i o) t = some (Se Lf i t) := by
 obtain ⟨a, b, h1, _⟩ := T.hd hi
 rw [ME T hi o t h1, T.see h1 hi ht]
theorem Mh {i : Nat} (hi : i < n) : sub (Lr.drop i) 1 ((Lr.drop i).length : Int) = some (Lr.drop (i + 1)) := by
 have := T.lr
 unfold sub
 rw [if_pos ⟨by omega, by rw [List.length_drop]; omega, by omega⟩, Int.toNat_natCast, List.take_length]
 show some (List.drop 1 (List.drop i Lr)) = _
 rw [List.drop_drop, Nat.add_comm]
theorem FF {i : Nat} (hi : i < n) (o : Int) (t : SZ) {a : Ah} (ha : Lr[i]? = some a) : Ap N (PS Lr i o) t = some (bif seeR a t then (PS Lr (i + 1) o, true) else (PS Lr i o, false)) := by
 unfold Ap
 rw [ME T hi o t ha, Option.bind_some]
 cases seeR a t with
 | false => rfl
 | true =>
  simp only [Bool.not_true, cond_false, cond_true]
  rw [show (PS Lr i o).l_ = Lr.drop i from rfl, Mh T hi]; rfl
theorem CF {i : Nat} (hi : i < n) (o : Int) {t : SZ} (ht : t ≠ [10]) : Ap N (PS Lr i o) t = some (bif Se Lf i t then (PS Lr (i + 1) o, true) else (PS Lr i o, false)) := by
 obtain ⟨a, b, h1, _⟩ := T.hd hi
 rw [FF T hi o t h1, T.see h1 hi ht]
theorem Kd {i : Nat} (hi : i < n) (o : Int) {t : SZ} (ht : t ≠ [10]) : AH N (PS Lr i o) t = some (bif Se Lf i t then .inr (PS Lr (i + 1) o) else .inl ⟨60, atI Lf i⟩) := by
 obtain ⟨a, b, h1, h2, h3, h4, _, h6⟩ := T.hd hi
 unfold AH
 rw [CF T hi o ht, Option.bind_some]
 cases hs : Se Lf i t with
 | true => rfl
 | false =>
  simp only [cond_false, Bool.not_false, cond_true]
  rw [show (PS Lr i o).l_ = Lr.drop i from rfl, h3, Option.bind_some]
  unfold atI
  rw [h2, h6]; rfl
theorem N9 {i : Nat} (hi : i < n) {o : Int} (h0 : 0 <= o) (h32 : o <= 32) : Bi N (PS Lr i o) = some (bif Se Lf i [40] then (if o = 32 then .inl ⟨2, atI Lf i⟩ else .inr (PS Lr (i + 1) (o + 1))) else .inl ⟨60, atI Lf i⟩) := by
 obtain ⟨a, b, h1, h2, h3, h4, _, h6⟩ := T.hd hi
 unfold Bi
 rw [show (PS Lr i o).l_ = Lr.drop i from rfl, h3, Option.bind_some, Pr T hi o (by decide), Option.bind_some, Kd T hi o (by decide)]
 have ea : a.at_ = atI Lf i := by unfold atI; rw [h2, h6]
 cases hs : Se Lf i [40] with
 | false => rfl
 | true =>
  simp only [cond_true, Option.bind_some]
  rw [show (PS Lr i o).open_ = o from rfl]
  by_cases h : o = 32
  ·rw [if_pos h, show (o == 32) = true by simpa using h, cond_true, ea]; rfl
  ·rw [if_neg h, show (o == 32) = false by simpa using h, cond_false]
   simp only [sk]
   rw [show (PS Lr (i + 1) o).open_ = o from rfl, KK (by omega) (by omega)]; rfl
theorem N8 {i : Nat} (hi : i < n) {o : Int} (h0 : 0 <= o) (h32 : o <= 33) : Bh N (PS Lr i o) = some (bif Se Lf i [41] then .inr (PS Lr (i + 1) (o - 1)) else .inl ⟨60, atI Lf i⟩) := by
 unfold Bh
 rw [Kd T hi o (by decide), Option.bind_some]
 cases hs : Se Lf i [41] with
 | false => rfl
 | true =>
  simp only [cond_true, sk]
  rw [show (PS Lr (i + 1) o).open_ = o from rfl, KK (by omega) (by omega)]; rfl
end
section
variable {N : Nat} {Lf : List Ae} {i : Nat} {o e w : Int}
theorem e0 (he : e ≠ 0) : (e == 0) = false := by simpa using he
end

section
variable {N n : Nat} {Lr : List Ah} {Lf : List Ae} (T : JN n Lr Lf)
include T
theorem OE {k : SZ} (hk : k ≠ [10]) {z : Int} : ∀ i a, i < n -> Lr[i]? = some a -> (Hp [(k, z)] a.text_ && seeR a a.text_) = (if Se Lf i k then some z else none : Option Int).isSome /\ ∀ y, (if Se Lf i k then some z else none : Option Int) = some y -> Ev [(k, z)] a.text_ 0 = y := by
 intro i a hi ha
 rw [<- T.see ha hi hk]
 unfold Hp Ev Fy Fy
 by_cases ht : a.text_ = k
 ·rw [if_pos ht, ht]
  cases hs : seeR a k <;> simp
 ·have hs : seeR a k = false := by unfold seeR; simp [ht]
  rw [hs]; simp [ht]
theorem RI {k1 k2 : SZ} (hk : k1 ≠ [10]) (hk2 : k2 ≠ [10]) (hne : k1 ≠ k2) {z1 z2 : Int} : ∀ i a, i < n -> Lr[i]? = some a ->
  (Hp [(k1, z1), (k2, z2)] a.text_ && seeR a a.text_) = (if Se Lf i k1 then some z1 else if Se Lf i k2 then some z2 else none : Option Int).isSome /\ ∀ y, (if Se Lf i k1 then some z1 else if Se Lf i k2 then some z2 else none : Option Int) = some y -> Ev [(k1, z1), (k2, z2)] a.text_ 0 = y := by
 intro i a hi ha
 rw [<- T.see ha hi hk, <- T.see ha hi hk2]
 unfold Hp Ev Fy Fy Fy
 by_cases ht : a.text_ = k1
 ·rw [if_pos ht, ht]
  have h2 : seeR a k2 = false := by unfold seeR; rw [ht]; simp [hne]
  rw [h2]
  cases hs : seeR a k1 <;> simp
 ·have hs : seeR a k1 = false := by unfold seeR; simp [ht]
  rw [hs]
  by_cases ht2 : a.text_ = k2
  ·rw [ht2]
   have hne' : ¬ k2 = k1 := fun h => hne h.symm
   cases hs2 : seeR a k2 <;> simp [hne']
  ·have hs2 : seeR a k2 = false := by unfold seeR; simp [ht2]
   rw [hs2]; simp [ht, ht2]
end

section
variable (N : Nat) (g : AO -> Option (AO × Expr)) (f : Aa -> Option (Af ⊕ (Aa × Expr)))
def KR : Af -> Option (Af ⊕ (Aa × Expr)) := fun b => some (.inl b)
def H6 (c x : Expr) (r : Aa × Expr) : Option (Af ⊕ (Aa × Expr)) := (Bh N r.1).bind fun q => sk q KR fun r259 => some (.inr (r259, ({ Op := 11, Value := 0, Kids := [c, x, r.2] } : Expr)))
def H5 (c x : Expr) (r : Aa) : Option (Af ⊕ (Aa × Expr)) := (f r).bind fun q => sk q KR (H6 N c x)
def H4 (c : Expr) (r : Aa × Expr) : Option (Af ⊕ (Aa × Expr)) := (AH N r.1 [44]).bind fun q => sk q KR (H5 N f c r.2)
def H3 (c : Expr) (r : Aa) : Option (Af ⊕ (Aa × Expr)) := (f r).bind fun q => sk q KR (H4 N f c)
def H2 (r : Aa × Expr) : Option (Af ⊕ (Aa × Expr)) := (AH N r.1 [44]).bind fun q => sk q KR (H3 N f r.2)
def H1 (r : Aa) : Option (Af ⊕ (Aa × Expr)) := (f r).bind fun q => sk q KR (H2 N f)
def H0 (r : Aa) : Option (Af ⊕ (Aa × Expr)) := (Bi N r).bind fun q => sk q KR (H1 N f)
def Q2 (r : Aa × Expr) : Option (Af ⊕ (Aa × Expr)) := (Bh N r.1).bind fun q => sk q KR fun r389 => some (.inr (r389, r.2))
def Q1 (r : Aa) : Option (Af ⊕ (Aa × Expr)) := (f r).bind fun q => sk q KR (Q2 N)
def Q0 (r : Aa) : Option (Af ⊕ (Aa × Expr)) := (Bi N r).bind fun q => sk q KR (Q1 N f)
end
def NM : List SZ := [[98, 97, 110, 100], [109, 111, 100, 101], [104, 111, 117, 114], [109, 121, 99, 111, 117, 110, 116, 114, 121], [109, 121, 122, 111, 110, 101], [109, 121, 99, 111, 110, 116, 105, 110, 101, 110, 116], [99, 111, 117, 110, 116, 114, 121], [122, 111, 110, 101], [99, 111, 110, 116, 105, 110, 101, 110, 116], [99, 97, 108, 108], [103, 111, 116, 122, 111, 110, 101], [99, 97, 116, 101, 103, 111, 114, 121], [112, 111, 119, 101, 114], [115, 116, 97, 116, 117, 115]]
section
variable {N n : Nat} {Lr : List Ah} {Lf : List Ae} (T : JN n Lr Lf) {g : AO -> Option (AO × Expr)} {f : Aa -> Option (Af ⊕ (Aa × Expr))}
theorem N7 : EK N = some NM := rfl
theorem QA (hN : 100 < N) (t : SZ) : Bp N NM t = some (fi (fun x => t == x) NM) := by
 unfold Bp fi
 rw [Ew NM (fun x => t == x) (fun i => (i : Int)) (fun i hi => by
  unfold Be
  rw [HO hi, cond_true, DK hi]; rfl) (by unfold Be; rw [Jx, cond_false]) (show 14 < N by omega) (by decide)]
 cases NM.any fun x => t == x <;> rfl
end
def rk (op : Int) : Int := if op = 5 then 1 else if op = 4 then 2 else if op = 3 then 3 else if op = 6 \/ op = 7 then 4 else if op = 8 \/ op = 9 then 5 else if op = 10 then 6 else 7
def sgT (op : Int) : SZ := if op = 5 then [111, 114] else if op = 4 then [97, 110, 100] else if op = 6 then [61] else if op = 7 then [60] else if op = 8 then [43] else if op = 9 then [45] else [42]
def lf (op : Int) : Int := if op = 6 \/ op = 7 then 5 else rk op
def rt (op : Int) : Int := if op = 6 \/ op = 7 then 5 else rk op + 1
def par (asked op : Int) (t : SZ) : SZ := if rk op < asked then [40] ++ t ++ [41] else t
def RH (op v : Int) (l : List (Int × SZ)) : SZ :=
 let k := fun (i : Nat) => l[i]?.getD (0, [])
 if op = 1 then Go.Lib.itoa v else if op = 2 then NM[v.toNat]?.getD []
 else if op = 3 then [110, 111, 116, 32] ++ par 3 (k 0).1 (k 0).2
 else if op = 11 then [105, 102, 40] ++ (k 0).2 ++ [44, 32] ++ (k 1).2 ++ [44, 32] ++ (k 2).2 ++ [41]
 else par (lf op) (k 0).1 (k 0).2 ++ [32] ++ sgT op ++ [32] ++ par (rt op) (k 1).1 (k 1).2
def pr (e : Expr) : SZ := match e with
 | ⟨op, v, ks⟩ => RH op v (ks.map fun x => (x.Op, pr x))
theorem MD (e : Expr) : pr e = RH e.Op e.Value (e.Kids.map fun x => (x.Op, pr x)) := by cases e; rw [pr]
theorem GL (a op : Int) (t : SZ) : (par a op t).length <= t.length + 2 := by unfold par; split <;> simp <;> omega
theorem Nl {e : Expr} (h : e.Op = 1) : pr e = Go.Lib.itoa e.Value := by rw [MD, h]; rfl
theorem Nn {e : Expr} (h : e.Op = 2) : pr e = NM[e.Value.toNat]?.getD [] := by rw [MD, h]; rfl
theorem Nm (x : Expr) : pr ⟨3, 0, [x]⟩ = [110, 111, 116, 32] ++ par 3 x.Op (pr x) := by rw [MD]; rfl
theorem Ph (c x y : Expr) : pr ⟨11, 0, [c, x, y]⟩ = [105, 102, 40] ++ pr c ++ [44, 32] ++ pr x ++ [44, 32] ++ pr y ++ [41] := by rw [MD]; rfl
theorem Nk {op : Int} (h : op = 4 \/ op = 5 \/ op = 6 \/ op = 7 \/ op = 8 \/ op = 9 \/ op = 10) (x y : Expr) : pr ⟨op, 0, [x, y]⟩ = par (lf op) x.Op (pr x) ++ [32] ++ sgT op ++ [32] ++ par (rt op) y.Op (pr y) := by
 rw [MD]; rcases h with rfl | rfl | rfl | rfl | rfl | rfl | rfl <;> rfl
theorem Q9 (i : Nat) : (NM[i]?.getD []).length <= 30 := by
 by_cases h : i < 14
 ·have : ∀ i : Fin 14, (NM[i.val]?.getD []).length <= 30 := by decide
  exact this ⟨i, h⟩
 ·rw [List.getElem?_eq_none (by show 14 <= i; omega)]; simp
theorem O8 (op : Int) : (sgT op).length <= 3 := by
 unfold sgT
 by_cases h1 : op = 5
 ·rw [if_pos h1]; decide
 rw [if_neg h1]
 by_cases h2 : op = 4
 ·rw [if_pos h2]; decide
 rw [if_neg h2]
 by_cases h3 : op = 6
 ·rw [if_pos h3]; decide
 rw [if_neg h3]
 by_cases h4 : op = 7
 ·rw [if_pos h4]; decide
 rw [if_neg h4]
 by_cases h5 : op = 8
 ·rw [if_pos h5]; decide
 rw [if_neg h5]
 by_cases h6 : op = 9
 ·rw [if_pos h6]; decide
 rw [if_neg h6]; decide
theorem De {e : Expr} (h : kd e ≠ 0) : (e.Op = 1 /\ 0 <= e.Value /\ e.Value <= 1000000 /\ e.Kids = []) \/ (e.Op = 2 /\ 0 <= e.Value /\ e.Value <= 13 /\ e.Kids = []) \/ (∃ x, e = ⟨3, 0, [x]⟩ /\ kd x = 2) \/
  (∃ op x y, (op = 4 \/ op = 5 \/ op = 6 \/ op = 7 \/ op = 8 \/ op = 9 \/ op = 10) /\ e = ⟨op, 0, [x, y]⟩ /\ kd x ≠ 0 /\ kd y ≠ 0) \/ (∃ c x y, e = ⟨11, 0, [c, x, y]⟩ /\ kd c = 2 /\ kd x = 1 /\ kd y = 1) := by
 have hm := RK h
 generalize kd e = t at hm
 cases hm with
 | num h h1 h2 hk => exact .inl ⟨h, h1, h2, hk⟩
 | field h h1 h2 hk => exact .inr (.inl ⟨h, h1, h2, hk⟩)
 | deny h hv x hk h1 => exact .inr (.inr (.inl ⟨x, DQ h hv hk, h1⟩))
 | logic h hv x y hk h1 h2 =>
  obtain ⟨op, he⟩ : ∃ op, e.Op = op := ⟨_, rfl⟩
  exact .inr (.inr (.inr (.inl ⟨op, x, y, by rw [he] at h; rcases h with rfl | rfl <;> simp, DQ he hv hk, by rw [h1]; decide, by rw [h2]; decide⟩)))
 | test h hv x y hk h1 h2 =>
  obtain ⟨op, he⟩ : ∃ op, e.Op = op := ⟨_, rfl⟩
  exact .inr (.inr (.inr (.inl ⟨op, x, y, by rw [he] at h; rcases h with rfl | rfl <;> simp, DQ he hv hk, by rw [h1]; decide, by rw [h2]; decide⟩)))
 | sum h hv x y hk h1 h2 =>
  obtain ⟨op, he⟩ : ∃ op, e.Op = op := ⟨_, rfl⟩
  exact .inr (.inr (.inr (.inl ⟨op, x, y, by rw [he] at h; rcases h with rfl | rfl | rfl <;> simp, DQ he hv hk, by rw [h1]; decide, by rw [h2]; decide⟩)))
 | cond h hv c x y hk h0 h1 h2 => exact .inr (.inr (.inr (.inr ⟨c, x, y, DQ h hv hk, h0, h1, h2⟩)))
theorem O3 (op v : Int) (x : Expr) : sz ⟨op, v, [x]⟩ = 1 + sz x := by rw [K5]; simp
theorem M6 (op v : Int) (x y : Expr) : sz ⟨op, v, [x, y]⟩ = 1 + (sz x + sz y) := by rw [K5]; simp
theorem Mg (op v : Int) (c x y : Expr) : sz ⟨op, v, [c, x, y]⟩ = 1 + (sz c + (sz x + sz y)) := by rw [K5]; simp
theorem DB : ∀ (n : Nat) (e : Expr), sz e <= n -> kd e ≠ 0 -> (pr e).length <= 30 * sz e
 | 0, e, h, _ => by have := Fl e; omega
 | n + 1, e, h, hk => by
  have hp := Fl e
  rcases De hk with ⟨h1, h2, h3, _⟩ | ⟨h1, h2, h3, _⟩ | ⟨x, rfl, hx⟩ | ⟨op, x, y, hop, rfl, hx, hy⟩ | ⟨c, x, y, rfl, hc, hx, hy⟩
  ·rw [Nl h1]
   have := Go.Lib.itoa_length_le e.Value (by omega) (by omega); omega
  ·rw [Nn h1]; have := Q9 e.Value.toNat; omega
  ·rw [O3] at h ⊢
   have := DB n x (by omega) (by rw [hx]; decide)
   have := GL 3 x.Op (pr x)
   rw [Nm]; simp only [List.length_append, List.length_cons, List.length_nil]; omega
  ·rw [M6] at h ⊢
   have := DB n x (by omega) hx
   have := DB n y (by omega) hy
   have := GL (lf op) x.Op (pr x)
   have := GL (rt op) y.Op (pr y)
   have := O8 op
   rw [Nk hop]; simp only [List.length_append, List.length_cons, List.length_nil]; omega
  ·rw [Mg] at h ⊢
   have := DB n c (by omega) (by rw [hc]; decide)
   have := DB n x (by omega) (by rw [hx]; decide)
   have := DB n y (by omega) (by rw [hy]; decide)
   rw [Ph]; simp only [List.length_append, List.length_cons, List.length_nil]; omega
theorem BM {a b : SZ} (h : a.length + b.length <= 9223372036854775807) : D2 a b = some (a ++ b) := by unfold D2; rw [if_pos h]
theorem QB {N : Nat} {v : Int} (h0 : 0 <= v) (h1 : v <= 1000000) : strconv_Itoa N v = some (Go.Lib.itoa v) := by unfold strconv_Itoa; rw [if_pos ⟨by omega, by omega⟩]
theorem J8 {a op : Int} {t : SZ} (h : t.length <= 9223372036854775800) : (bif (decide (rk op < a)) then ((D2 ([40] : SZ) t).bind fun r312 => ((D2 r312 ([41] : SZ)).bind fun r315 => some r315)) else some t) = some (par a op t) := by
 unfold par
 by_cases hc : rk op < a
 ·rw [decide_eq_true hc, cond_true, if_pos hc, BM (by simp; omega), Option.bind_some, BM (by simp; omega)]; rfl
 ·rw [decide_eq_false hc, cond_false, if_neg hc]
theorem DC {N : Nat} : ∀ {n k : Nat} {e : Expr}, Ht N n e -> n <= k -> kd e ≠ 0 -> sz e <= 100000000 -> ∀ a, (K9 N k).q97 e a = some (par a e.Op (pr e))
 | 0, _, _, h, _, _, _, _ => h.elim
 | n + 1, 0, _, _, h, _, _, _ => absurd h (by omega)
 | n + 1, k + 1, e, ⟨h1, h2, h3⟩, hk, h0, hs, a => by
  have hl := DB _ e (Nat.le_refl _) h0
  show CS N (K9 N k).q97 e a = _
  unfold CS
  rcases De h0 with ⟨h1, h2, h4, h5⟩ | ⟨h1, h2, h4, h5⟩ | ⟨x, rfl, hx⟩ | ⟨op, x, y, hop, rfl, hx, hy⟩ | ⟨c, x, y, rfl, hc, hx, hy⟩
  ·rw [h1, show Ck N 1 = some (⟨[], 0, 0, 0⟩, false) from rfl]
   simp only [Option.bind_some, cond_false, show ((1 : Int) == 1) = true from rfl, cond_true]
   rw [QB h2 h4]
   simp only [Option.bind_some]
   rw [<- Nl h1, show (7 : Int) = rk 1 from rfl]
   exact J8 (by omega)
  ·rw [h1, show Ck N 2 = some (⟨[], 0, 0, 0⟩, false) from rfl]
   simp only [Option.bind_some, cond_false, show ((2 : Int) == 1) = false from rfl, show ((2 : Int) == 2) = true from rfl, cond_true]
   rw [N7, Option.bind_some]
   obtain ⟨j, hj⟩ : ∃ j : Nat, e.Value = (j : Int) := ⟨e.Value.toNat, by omega⟩
   have hjl : j < NM.length := by show j < 14; omega
   have hp : pr e = NM[j] := by rw [Nn h1, hj, Int.toNat_natCast, List.getElem?_eq_getElem hjl]; rfl
   rw [hj, DK hjl]
   simp only [Option.bind_some]
   rw [<- hp, show (7 : Int) = rk 2 from rfl]
   exact J8 (by omega)
  ·have hxm : x ∈ (⟨3, 0, [x]⟩ : Expr).Kids := by simp
   have sx := CM hxm
   have lx := DB _ x (Nat.le_refl _) (by rw [hx]; decide)
   have px := GL 3 x.Op (pr x)
   rw [show Ck N (⟨3, 0, [x]⟩ : Expr).Op = some (⟨[], 0, 0, 0⟩, false) from rfl]
   simp only [Option.bind_some, cond_false, show ((3 : Int) == 1) = false from rfl, show ((3 : Int) == 2) = false from rfl, show ((3 : Int) == 3) = true from rfl, cond_true]
   rw [show idx [x] 0 = some x from rfl, Option.bind_some, DC (h3 x hxm) (by omega) (by rw [hx]; decide) (by omega) 3, Option.bind_some, BM (by simp; omega)]
   simp only [Option.bind_some]
   rw [<- Nm]
   have := J8 (a := a) (op := 3) (t := pr ⟨3, 0, [x]⟩) (by omega)
   exact this
  ·have hxm : x ∈ (⟨op, 0, [x, y]⟩ : Expr).Kids := by simp
   have hym : y ∈ (⟨op, 0, [x, y]⟩ : Expr).Kids := by simp
   have sx := CM hxm
   have sy := CM hym
   have lx := DB _ x (Nat.le_refl _) hx
   have ly := DB _ y (Nat.le_refl _) hy
   have px := GL (lf op) x.Op (pr x)
   have py := GL (rt op) y.Op (pr y)
   have sg := O8 op
   rw [show Ck N (⟨op, 0, [x, y]⟩ : Expr).Op = some (⟨sgT op, rk op, lf op, rt op⟩, true) by rcases hop with rfl | rfl | rfl | rfl | rfl | rfl | rfl <;> rfl]
   simp only [Option.bind_some, cond_true]
   rw [show idx [x, y] 0 = some x from rfl, Option.bind_some, show idx [x, y] 1 = some y from rfl, Option.bind_some, DC (h3 x hxm) (by omega) hx (by omega) _, Option.bind_some, BM (by simp; omega), Option.bind_some, BM (by simp; omega), Option.bind_some, BM (by simp; omega), Option.bind_some, DC (h3 y hym) (by omega) hy (by omega) _, Option.bind_some, BM (by simp; omega)]
   simp only [Option.bind_some]
   rw [<- Nk hop]
   exact J8 (by omega)
  ·have hcm : c ∈ (⟨11, 0, [c, x, y]⟩ : Expr).Kids := by simp
   have hxm : x ∈ (⟨11, 0, [c, x, y]⟩ : Expr).Kids := by simp
   have hym : y ∈ (⟨11, 0, [c, x, y]⟩ : Expr).Kids := by simp
   have sc := CM hcm
   have sx := CM hxm
   have sy := CM hym
   have p1 : ∀ z : Expr, par 1 z.Op (pr z) = pr z := fun z => by unfold par; rw [if_neg]; unfold rk; repeat' split; all_goals omega
   have lc := DB _ c (Nat.le_refl _) (by rw [hc]; decide)
   have lx := DB _ x (Nat.le_refl _) (by rw [hx]; decide)
   have ly := DB _ y (Nat.le_refl _) (by rw [hy]; decide)
   rw [show Ck N (⟨11, 0, [c, x, y]⟩ : Expr).Op = some (⟨[], 0, 0, 0⟩, false) from rfl]
   simp only [Option.bind_some, cond_false, show ((11 : Int) == 1) = false from rfl, show ((11 : Int) == 2) = false from rfl, show ((11 : Int) == 3) = false from rfl, show ((11 : Int) == 11) = true from rfl, cond_true]
   rw [show idx [c, x, y] 0 = some c from rfl, Option.bind_some, show idx [c, x, y] 1 = some x from rfl, Option.bind_some, show idx [c, x, y] 2 = some y from rfl, Option.bind_some,
    DC (h3 c hcm) (by omega) (by rw [hc]; decide) (by omega) 1, p1, Option.bind_some, BM (by simp; omega), Option.bind_some, BM (by simp; omega), Option.bind_some,
    DC (h3 x hxm) (by omega) (by rw [hx]; decide) (by omega) 1, p1, Option.bind_some, BM (by simp; omega), Option.bind_some, BM (by simp; omega), Option.bind_some,
    DC (h3 y hym) (by omega) (by rw [hy]; decide) (by omega) 1, p1, Option.bind_some, BM (by simp; omega), Option.bind_some, BM (by simp; omega)]
   simp only [Option.bind_some]
   rw [<- Ph]
   have := J8 (a := a) (op := 11) (t := pr ⟨11, 0, [c, x, y]⟩) (by omega)
   exact this
def Cl (N : Nat) (x0 : AO) (x1 : Expr) (x2 : Int) (x3 : Int) : Option AO :=
 (bif (x0.Bad != 0) then some x0 else ((Jm N x1).bind fun r27 => (bif (decide (r27 > 32)) then ((Et N x0 2 x2).bind fun r38 => some r38) else ((J0 N x1).bind fun r45 => ((bif ((r45 == 0) || ((x3 != 0) && (r45 != x3))) then ((Et N x0 61 x2).bind fun r72 => some (r72.L, r72.At, r72.Open, r72.Bad, r72.Where)) else some (x0.L, x0.At, x0.Open, x0.Bad, x0.Where)).bind fun j65 => some ({ L := j65.1, At := j65.2.1, Open := j65.2.2.1, Bad := j65.2.2.2.1, Where := j65.2.2.2.2 } : AO))))))


section
variable {N n : Nat} {Lr : List Ah} {Lf : List Ae} (T : JN n Lr Lf)
include T
theorem QE {i : Nat} {a : Ah} {b : Ae} (hi : i < n) (ha : Lr[i]? = some a) (hb : Lf[i]? = some b) : (a.kind_ != 0) = (b.Kind != 5) := by
 obtain ⟨a', b', h1, h2, _, _, h5, _⟩ := T.hd hi
 rw [h1] at ha; rw [h2] at hb
 cases ha; cases hb
 rcases h5 with ⟨h, _⟩ | ⟨h, _⟩
 ·rcases h.k with ⟨k1, k2, _⟩ | ⟨k1, k2, _⟩ | ⟨k1, k2, _⟩ | ⟨k1, k2, _⟩ | ⟨k1, k2⟩ <;> rw [k1, k2] <;> rfl
 ·rw [h.a0, h.b5]; rfl
omit T in
theorem SA {d : Nat} {x : Expr} (hx : Ht 10 d x) (hN : 2 * d + 1000 <= N) : Fit N x := ⟨d, hx.wide (by omega), by omega⟩
theorem NC {i : Nat} {o : Int} {x : Expr} {q : Aa} (hf : Fit N x) (at_ t : Int) :
  (dp x > 32 /\ A0 N q ⟨x, at_⟩ t = some (.inl ⟨2, at_⟩) /\ Cl N (RS Lf i o) x at_ t = some (RB Lf i o 2 at_)) \/
  (dp x <= 32 /\ (kd x = 0 \/ (t ≠ 0 /\ kd x ≠ t)) /\ A0 N q ⟨x, at_⟩ t = some (.inl ⟨61, at_⟩) /\ Cl N (RS Lf i o) x at_ t = some (RB Lf i o 61 at_)) \/
  (dp x <= 32 /\ kd x ≠ 0 /\ (t ≠ 0 -> kd x = t) /\ A0 N q ⟨x, at_⟩ t = some (.inr ()) /\ Cl N (RS Lf i o) x at_ t = some (RS Lf i o)) := by
 unfold A0 Cl
 simp only
 rw [Mm hf, LH hf, O9 hf, Q3 hf, show ((RS Lf i o).Bad != 0) = false from rfl]
 simp only [cond_false, Option.bind_some]
 by_cases hd : dp x > 32
 ·left
  rw [decide_eq_true hd]
  exact ⟨hd, rfl, rfl⟩
 ·right
  rw [decide_eq_false hd]
  simp only [cond_false]
  by_cases hk : kd x = 0 \/ (t ≠ 0 /\ kd x ≠ t)
  ·left
   have e : ((kd x == 0) || ((t != 0) && (kd x != t))) = true := by
    rcases hk with h | ⟨h1, h2⟩
    ·simp [h]
    ·simp [h1, h2]
   rw [e]
   exact ⟨by omega, hk, rfl, rfl⟩
  ·right
   have hk1 : kd x ≠ 0 := fun h => hk (.inl h)
   have hk2 : t ≠ 0 -> kd x = t := fun h => Classical.byContradiction fun h' => hk (.inr ⟨h, h'⟩)
   have e : ((kd x == 0) || ((t != 0) && (kd x != t))) = false := by
    by_cases ht : t = 0
    ·simp [hk1, ht]
    ·simp [hk1, hk2 ht]; intro h; exact absurd h ht
   rw [e]
   exact ⟨by omega, hk1, hk2, rfl, rfl⟩
end
abbrev Tks := List (Int × SZ)
def sgK (op : Int) : Tks := if op = 5 \/ op = 4 then [(2, sgT op)] else [(3, sgT op)]
def Bb (asked op : Int) (t : Tks) : Tks := if rk op < asked then [(3, [40])] ++ t ++ [(3, [41])] else t
def RC (op v : Int) (l : List (Int × Tks)) : Tks :=
 let k := fun (i : Nat) => l[i]?.getD (0, [])
 if op = 1 then [(1, Go.Lib.itoa v)] else if op = 2 then [(2, NM[v.toNat]?.getD [])]
 else if op = 3 then [(2, [110, 111, 116])] ++ Bb 3 (k 0).1 (k 0).2
 else if op = 11 then [(2, [105, 102]), (3, [40])] ++ (k 0).2 ++ [(3, [44])] ++ (k 1).2 ++ [(3, [44])] ++ (k 2).2 ++ [(3, [41])]
 else Bb (lf op) (k 0).1 (k 0).2 ++ sgK op ++ Bb (rt op) (k 1).1 (k 1).2
def tk (e : Expr) : Tks := match e with
 | ⟨op, v, ks⟩ => RC op v (ks.map fun x => (x.Op, tk x))
theorem Mf (e : Expr) : tk e = RC e.Op e.Value (e.Kids.map fun x => (x.Op, tk x)) := by cases e; rw [tk]
theorem M4 {e : Expr} (h : e.Op = 1) : tk e = [(1, Go.Lib.itoa e.Value)] := by rw [Mf, h]; rfl
theorem M5 {e : Expr} (h : e.Op = 2) : tk e = [(2, NM[e.Value.toNat]?.getD [])] := by rw [Mf, h]; rfl
theorem OZ (x : Expr) : tk ⟨3, 0, [x]⟩ = [(2, [110, 111, 116])] ++ Bb 3 x.Op (tk x) := by rw [Mf]; rfl
theorem O0 (c x y : Expr) : tk ⟨11, 0, [c, x, y]⟩ = [(2, [105, 102]), (3, [40])] ++ tk c ++ [(3, [44])] ++ tk x ++ [(3, [44])] ++ tk y ++ [(3, [41])] := by rw [Mf]; rfl
def Bin (op : Int) : Prop := op = 4 \/ op = 5 \/ op = 6 \/ op = 7 \/ op = 8 \/ op = 9 \/ op = 10
theorem LB {op : Int} (h : Bin op) (x y : Expr) : tk ⟨op, 0, [x, y]⟩ = Bb (lf op) x.Op (tk x) ++ sgK op ++ Bb (rt op) y.Op (tk y) := by
 rw [Mf]; rcases h with rfl | rfl | rfl | rfl | rfl | rfl | rfl <;> rfl
theorem M1 {a op : Int} {t : SZ} {l : Tks} (h : TzK t l) : TzK (par a op t) (Bb a op l) := by
 unfold par Bb
 by_cases hc : rk op < a
 ·rw [if_pos hc, if_pos hc]
  exact (((TzS.sign (c := 40) (by decide) (by decide)).appK h).app (TzS.sign (c := 41) (by decide) (by decide)) (by decide) (by decide)).k
 ·rw [if_neg hc, if_neg hc]; exact h
theorem PP (u : Nat) : ∀ c, c ∈ Go.Lib.decDigits u -> 48 <= c.toNat /\ c.toNat <= 57 := by
 induction u using Nat.strongRecOn with
 | _ u ih =>
  have one : ∀ d : Nat, d < 10 -> 48 <= (UInt8.ofNat (48 + d)).toNat /\ (UInt8.ofNat (48 + d)).toNat <= 57 /\ (UInt8.ofNat (48 + d)).toNat - 48 = d := by
   intro d hd
   have : ∀ d : Fin 10, 48 <= (UInt8.ofNat (48 + d.val)).toNat /\ (UInt8.ofNat (48 + d.val)).toNat <= 57 /\ (UInt8.ofNat (48 + d.val)).toNat - 48 = d.val := by decide
   exact this ⟨d, hd⟩
  intro c hc
  rw [Go.Lib.decDigits] at hc
  by_cases h : u < 10
  ·rw [dif_pos h, List.mem_singleton] at hc
   subst hc; exact ⟨(one u h).1, (one u h).2.1⟩
  ·rw [dif_neg h] at hc
   rcases List.mem_append.1 hc with hc | hc
   ·exact ih (u / 10) (by omega) c hc
   ·rw [List.mem_singleton] at hc
    have := one (u % 10) (Nat.mod_lt _ (by decide))
    subst hc; exact ⟨this.1, this.2.1⟩
theorem RY (u : Nat) : Go.Lib.decDigits u ≠ [] := by
 rw [Go.Lib.decDigits]
 by_cases h : u < 10
 ·rw [dif_pos h]; simp
 ·rw [dif_neg h]; simp
theorem Oi : ∀ (k u : Nat), u < 10 ^ (k + 1) -> (Go.Lib.decDigits u).length <= k + 1
 | 0, u, h => by rw [Go.Lib.decDigits, dif_pos (by simpa using h)]; simp
 | k + 1, u, h => by
  rw [Go.Lib.decDigits]
  by_cases hu : u < 10
  ·rw [dif_pos hu]; simp
  ·rw [dif_neg hu, List.length_append]
   have := Oi k (u / 10) (by rw [Nat.pow_succ] at h; omega)
   simp; omega
theorem PL : ∀ (l r : SZ) (a : Nat), dv a (l ++ r) = dv (dv a l) r
 | [], _, _ => rfl
 | c :: l, r, a => PL l r _
theorem RZ (u : Nat) : dv 0 (Go.Lib.decDigits u) = u := by
 have one : ∀ d : Nat, d < 10 -> (UInt8.ofNat (48 + d)).toNat - 48 = d := by
  intro d hd
  have : ∀ d : Fin 10, (UInt8.ofNat (48 + d.val)).toNat - 48 = d.val := by decide
  exact this ⟨d, hd⟩
 induction u using Nat.strongRecOn with
 | _ u ih =>
  rw [Go.Lib.decDigits]
  by_cases h : u < 10
  ·rw [dif_pos h]
   show 10 * 0 + ((UInt8.ofNat (48 + u)).toNat - 48) = u
   rw [one u h]; omega
  ·rw [dif_neg h, PL, ih (u / 10) (by omega)]
   show 10 * (u / 10) + ((UInt8.ofNat (48 + u % 10)).toNat - 48) = u
   rw [one (u % 10) (Nat.mod_lt _ (by decide))]; omega
theorem Kk {v : Int} (h0 : 0 <= v) : Go.Lib.itoa v = Go.Lib.decDigits v.toNat := by unfold Go.Lib.itoa; rw [if_neg (by omega)]
theorem PC {v : Int} (h0 : 0 <= v) (h1 : v <= 1000000) : fig (Go.Lib.itoa v) = v := by
 rw [Kk h0]
 unfold fig
 have := Oi 6 v.toNat (by simp; omega)
 rw [if_neg (by omega), RZ, if_neg (by omega)]; omega
theorem N6 {i : Nat} (h : i < 14) : NM[i]?.getD [] ≠ [] /\ (∀ c, c ∈ NM[i]?.getD [] -> CZ c = true) /\ (∀ j, j < 14 -> NM[j]?.getD [] = NM[i]?.getD [] -> j = i) /\ NM[i]?.getD [] ≠ [110, 111, 116] /\ NM[i]?.getD [] ≠ [105, 102] := by
 have : ∀ i : Fin 14, NM[i.val]?.getD [] ≠ [] /\ (∀ c, c ∈ NM[i.val]?.getD [] -> CZ c = true) /\ (∀ j : Fin 14, NM[j.val]?.getD [] = NM[i.val]?.getD [] -> j = i) /\ NM[i.val]?.getD [] ≠ [110, 111, 116] /\ NM[i.val]?.getD [] ≠ [105, 102] := by decide
 obtain ⟨h1, h2, h3, h4, h5⟩ := this ⟨i, h⟩
 exact ⟨h1, h2, fun j hj e => congrArg Fin.val (h3 ⟨j, hj⟩ e), h4, h5⟩
theorem RA {op : Int} (h : Bin op) : TzS ([32] ++ sgT op ++ [32]) (sgK op) := by
 have w : ∀ (t : SZ), t ≠ [] -> (∀ c, c ∈ t -> CZ c = true) -> TzS ([32] ++ t ++ [32]) [(2, t)] := fun t hn hw =>
  ((TzS.ws (c := 32) (by decide)).appK (TzK.word hn hw)).app (TzS.ws (by decide)) (by decide) (by decide)
 have s : ∀ (c : UInt8), sg9.contains c = true -> c ≠ 61 -> TzS ([32] ++ [c] ++ [32]) [(3, [c])] := fun c h1 h2 =>
  ((TzS.ws (c := 32) (by decide)).app (TzS.sign h1 h2)).app (TzS.ws (by decide))
 rcases h with rfl | rfl | rfl | rfl | rfl | rfl | rfl
 ·exact w _ (by decide) (by decide)
 ·exact w _ (by decide) (by decide)
 ·exact (TzS.ws (c := 32) (by decide)).app TzS.eq
 ·exact s 60 (by decide) (by decide)
 ·exact s 43 (by decide) (by decide)
 ·exact s 45 (by decide) (by decide)
 ·exact s 42 (by decide) (by decide)
theorem JR : ∀ (n : Nat) (e : Expr), sz e <= n -> kd e ≠ 0 -> TzK (pr e) (tk e)
 | 0, e, h, _ => by have := Fl e; omega
 | n + 1, e, h, hk => by
  have hp := Fl e
  rcases De hk with ⟨h1, h2, h3, _⟩ | ⟨h1, h2, h3, _⟩ | ⟨x, rfl, hx⟩ | ⟨op, x, y, hop, rfl, hx, hy⟩ | ⟨c, x, y, rfl, hc, hx, hy⟩
  ·rw [Nl h1, M4 h1, Kk h2]
   exact TzK.num (RY _) (fun c hc => by have := PP _ c hc; simp [C2]; omega)
  ·rw [Nn h1, M5 h1]
   have := N6 (i := e.Value.toNat) (by omega)
   exact TzK.word this.1 this.2.1
  ·rw [O3] at h
   rw [Nm, OZ]
   exact ((TzK.word (w := [110, 111, 116]) (by decide) (by decide)).app (TzS.ws (c := 32) (by decide)) (by decide) (by decide)).appK (M1 (JR n x (by omega) (by rw [hx]; decide)))
  ·rw [M6] at h
   have e1 : par (lf op) x.Op (pr x) ++ [32] ++ sgT op ++ [32] ++ par (rt op) y.Op (pr y) = par (lf op) x.Op (pr x) ++ ([32] ++ sgT op ++ [32]) ++ par (rt op) y.Op (pr y) := by simp
   rw [Nk hop, LB hop, e1]
   exact ((M1 (JR n x (by omega) hx)).app (RA hop) rfl (by simp)).appK (M1 (JR n y (by omega) hy))
  ·rw [Mg] at h
   have c0 := JR n c (by omega) (by rw [hc]; decide)
   have x0 := JR n x (by omega) (by rw [hx]; decide)
   have y0 := JR n y (by omega) (by rw [hy]; decide)
   have cm : TzS [44, 32] [(3, [44])] := (TzS.sign (c := 44) (by decide) (by decide)).app (TzS.ws (c := 32) (by decide))
   have hd : TzS [105, 102, 40] [(2, [105, 102]), (3, [40])] := (TzK.word (w := [105, 102]) (by decide) (by decide)).app (TzS.sign (c := 40) (by decide) (by decide)) (by decide) (by decide)
   rw [Ph, O0]
   exact ((((((hd.appK c0).app cm (by decide) (by decide)).appK x0).app cm (by decide) (by decide)).appK y0).app (TzS.sign (c := 41) (by decide) (by decide)) (by decide) (by decide)).k
def FT (Lf : List Ae) (i : Nat) : Tks -> Prop
 | [] => True
 | a :: l => Lf[i]?.map kt = some a /\ FT Lf (i + 1) l
theorem BS {Lf : List Ae} : ∀ {a b : Tks} {i : Nat}, FT Lf i (a ++ b) -> FT Lf i a /\ FT Lf (i + a.length) b
 | [], b, i, h => ⟨trivial, h⟩
 | x :: a, b, i, h => by
  obtain ⟨h1, h2⟩ := h
  obtain ⟨h3, h4⟩ := BS (a := a) h2
  refine ⟨⟨h1, h3⟩, ?_⟩
  rw [List.length_cons, show i + (a.length + 1) = i + 1 + a.length by omega]; exact h4
theorem P9 {Lf : List Ae} {l m : Tks} : ∀ {p : Tks}, Lf.map kt = p ++ l ++ m -> FT Lf p.length l := by
 induction l with
 | nil => intro p _; exact trivial
 | cons a l ih =>
  intro p h
  refine ⟨?_, ?_⟩
  ·rw [<- List.getElem?_map, h, List.append_assoc, List.getElem?_append_right (Nat.le_refl _), Nat.sub_self]; rfl
  ·have := ih (p := p ++ [a]) (by rw [h]; simp)
   rw [List.length_append] at this; exact this
theorem Cc {Lf : List Ae} {i : Nat} {k : Int} {t : SZ} (h : Lf[i]?.map kt = some (k, t)) (u : SZ) : Se Lf i u = ((k == 2 || k == 3) && t == u) := by
 unfold Se
 cases hb : Lf[i]? with
 | none => rw [hb] at h; cases h
 | some b =>
  rw [hb] at h
  simp only [Option.map_some, Option.some.injEq, kt, Prod.mk.injEq] at h
  simp only [seeF, h.1, h.2]
def Off (Lf : List Ae) (q : Nat) (r : Int) : Prop := ∀ op, Bin op -> r <= rk op -> Se Lf q (sgT op) = false
theorem Off.le {Lf : List Ae} {q : Nat} {r s : Int} (h : Off Lf q r) (hs : r <= s) : Off Lf q s := fun op hb hr => h op hb (by omega)
theorem QZ {a b : Int} (ha : Bin a) (hb : Bin b) (h : sgT a = sgT b) : a = b := by
 rcases ha with rfl | rfl | rfl | rfl | rfl | rfl | rfl <;> rcases hb with rfl | rfl | rfl | rfl | rfl | rfl | rfl <;> first | rfl | exact absurd h (by decide)
theorem Pm {Lf : List Ae} {q : Nat} {op r : Int} (ho : Bin op) (h : FT Lf q (sgK op)) (hr : rk op < r) : Off Lf q r := by
 intro p hp h2
 obtain ⟨k, hk⟩ : ∃ k : Int, sgK op = [(k, sgT op)] := by unfold sgK; split <;> exact ⟨_, rfl⟩
 rw [hk] at h
 rw [Cc h.1]
 cases hs : (sgT op == sgT p) with
 | false => simp
 | true =>
  have := QZ ho hp (by simpa using hs)
  subst this; omega
theorem Kb {Lf : List Ae} {q : Nat} {k : Int} {t : SZ} (h : Lf[q]?.map kt = some (k, t)) (hn : ∀ op, Bin op -> t ≠ sgT op) (r : Int) : Off Lf q r := by
 intro p hp _
 rw [Cc h]
 have : (t == sgT p) = false := by simpa using hn p hp
 rw [this]; simp
theorem Mj {t : SZ} (h : t = [41] \/ t = [44] \/ t = [] \/ t = [10] \/ t = [61, 62]) : ∀ op, Bin op -> t ≠ sgT op := by
 intro op hop
 rcases h with rfl | rfl | rfl | rfl | rfl <;> rcases hop with rfl | rfl | rfl | rfl | rfl | rfl | rfl <;> decide
theorem NW {Lf : List Ae} {q : Nat} {op : Int} (h : FT Lf q (sgK op)) : Se Lf q (sgT op) = true := by
 unfold sgK at h
 split at h
 ·rw [Cc h.1]; simp
 ·rw [Cc h.1]; simp
theorem NV (op : Int) : (sgK op).length = 1 := by unfold sgK; split <;> rfl
theorem Pe {op : Int} (h : Bin op) : 1 <= rk op /\ rk op <= 6 /\ rk op ≠ 3 := by rcases h with rfl | rfl | rfl | rfl | rfl | rfl | rfl <;> decide
theorem LM {a op : Int} (h : rk op ≠ a) (t : Tks) : Bb a op t = Bb (a + 1) op t := by
 unfold Bb
 by_cases hc : rk op < a
 ·rw [if_pos hc, if_pos (by omega)]
 ·rw [if_neg hc, if_neg (by omega)]
theorem DN {a op : Int} (h : a <= rk op) (t : Tks) : Bb a op t = t := by unfold Bb; rw [if_neg (by omega)]
theorem Me : ∀ (n : Nat) (e : Expr), sz e <= n -> kd e ≠ 0 -> ∀ a : Int, 4 <= a -> ∃ k t l, Bb a e.Op (tk e) = (k, t) :: l /\ t ≠ [110, 111, 116]
 | 0, e, h, _ => by have := Fl e; omega
 | n + 1, e, h, hk => by
  intro a ha
  unfold Bb
  by_cases hc : rk e.Op < a
  ·rw [if_pos hc]; exact ⟨3, [40], _, rfl, by decide⟩
  rw [if_neg hc]
  rcases De hk with ⟨h1, h2, h3, _⟩ | ⟨h1, h2, h3, _⟩ | ⟨x, rfl, hx⟩ | ⟨op, x, y, hop, rfl, hx, hy⟩ | ⟨c, x, y, rfl, hc', hx, hy⟩
  ·rw [M4 h1]
   refine ⟨_, _, _, rfl, fun e1 => ?_⟩
   rw [Kk h2] at e1
   have := PP e.Value.toNat 110 (by rw [e1]; decide)
   exact absurd this (by decide)
  ·rw [M5 h1]; exact ⟨_, _, _, rfl, (N6 (by omega)).2.2.2.1⟩
  ·exact absurd (show rk 3 < a by show (3 : Int) < a; omega) hc
  ·rw [LB hop]
   rw [M6] at h
   have hl : 4 <= lf op := by
    rcases hop with rfl | rfl | rfl | rfl | rfl | rfl | rfl
    ·exact absurd (show rk 4 < a by show (2 : Int) < a; omega) hc
    ·exact absurd (show rk 5 < a by show (1 : Int) < a; omega) hc
    all_goals decide
   obtain ⟨k, t, l, h1, h2⟩ := Me n x (by omega) hx (lf op) hl
   rw [h1]; exact ⟨k, t, _, rfl, h2⟩
  ·rw [O0]; exact ⟨_, _, _, rfl, by decide⟩
theorem Kp {e x : Expr} (h : x ∈ e.Kids) : dN x < dN e := by
 have he := Oj e
 have : ∀ (l : List Nat) (a d : Nat), d ∈ l \/ d <= a -> d <= l.foldl max a := by
  intro l
  induction l with
  | nil => intro a d h; rcases h with h | h; exact absurd h (by simp); exact h
  | cons b l ih =>
   intro a d h
   rw [List.foldl_cons]
   apply ih
   rcases h with h | h
   ·rcases List.mem_cons.1 h with rfl | h
    ·right; omega
    ·exact .inl h
   ·right; omega
 have := this (e.Kids.map dN) 0 (dN x) (.inl (List.mem_map_of_mem h))
 omega
def Cdx (e : Expr) (r : Nat) (o : Int) : Prop := o + dN e <= 33 \/ ((r : Int) <= rk e.Op /\ rk e.Op <= 6 /\ o + dN e <= 34)
section
variable {N n : Nat} {Lr : List Ah} {Lf : List Ae}
abbrev PF : Type := Aa -> Option (Af ⊕ (Aa × Expr))
def Fw (n : Nat) (Lr : List Ah) (Lf : List Ae) (f : PF) (k r : Nat) : Prop :=
 ∀ (x : Expr) (i : Nat) (o : Int), 16 * sz x + (if rk x.Op < r then 16 else 8) <= k + r -> kd x ≠ 0 -> Cdx x r o -> 0 <= o -> o <= 32 -> FT Lf i (Bb r x.Op (tk x)) -> i + (Bb r x.Op (tk x)).length < n -> Off Lf (i + (Bb r x.Op (tk x)).length) r ->
  f (PS Lr i o) = some (.inr (PS Lr (i + (Bb r x.Op (tk x)).length) o, x))
theorem Cdx.kid {e x : Expr} {r : Nat} {o : Int} (h : Cdx e r o) (hx : x ∈ e.Kids) : o + dN x <= 33 := by
 have := Kp hx
 rcases h with h | ⟨_, _, h⟩ <;> omega
variable (T : JN n Lr Lf)
include T
theorem Jr {f : PF} {k r : Nat} (hr6 : r <= 6) (hF : Fw n Lr Lf f k (r + 1)) {ops : List (SZ × Int)} {Am : Nat -> Option Int}
  (hops : ∀ i a, i < n -> Lr[i]? = some a -> (Hp ops a.text_ && seeR a a.text_) = (Am i).isSome /\ ∀ z, Am i = some z -> Ev ops a.text_ 0 = z)
  (ho : ∀ q op, Bin op -> rk op = r -> FT Lf q (sgK op) -> Am q = some op) (hl : ∀ op, Bin op -> rk op = r -> lf op = r /\ rt op = r + 1) (h3 : r ≠ 3) :
  ∀ (s : Nat) (x : Expr) (i : Nat) (o : Int), sz x <= s -> 16 * sz x + (if rk x.Op < r then 16 else 8) <= k + 1 + r -> kd x ≠ 0 -> Cdx x r o -> 0 <= o -> o <= 32 -> FT Lf i (Bb r x.Op (tk x)) -> i + (Bb r x.Op (tk x)).length < n -> Off Lf (i + (Bb r x.Op (tk x)).length) (r + 1) ->
   ∃ j0 x0 d, f (PS Lr i o) = some (.inr (PS Lr j0 o, x0)) /\ d <= (Bb r x.Op (tk x)).length /\
    ∀ M, AX (AA N (PS Lr i o) f ops (PS Lr j0 o, x0)) (M + d) (x0.Op, x0.Value, x0.Kids, Lr.drop j0, o) = AX (AA N (PS Lr i o) f ops (PS Lr j0 o, x0)) M (x.Op, x.Value, x.Kids, Lr.drop (i + (Bb r x.Op (tk x)).length), o)
 | 0, x, _, _, h, _, _, _, _, _, _, _, _ => by have := Fl x; omega
 | s + 1, x, i, o, hs, hk, hx, hc, h0, h32, hS, hn, hO => by
  by_cases hrk : rk x.Op = r
  ·have hop : ∃ op u v, Bin op /\ x = ⟨op, 0, [u, v]⟩ /\ kd u ≠ 0 /\ kd v ≠ 0 := by
    rcases De hx with ⟨h1, _⟩ | ⟨h1, _⟩ | ⟨u, rfl, _⟩ | ⟨op, u, v, hop, rfl, hu, hv⟩ | ⟨c, u, v, rfl, _⟩
    ·rw [h1] at hrk; exact absurd hrk (by show ¬ (7 : Int) = r; omega)
    ·rw [h1] at hrk; exact absurd hrk (by show ¬ (7 : Int) = r; omega)
    ·exact absurd hrk (by show ¬ (3 : Int) = r; omega)
    ·exact ⟨op, u, v, hop, rfl, hu, hv⟩
    ·exact absurd hrk (by show ¬ (7 : Int) = r; omega)
   obtain ⟨op, u, v, hop, rfl, hu, hv⟩ := hop
   have hrk' : rk op = r := hrk
   obtain ⟨l1, l2⟩ := hl op hop hrk'
   have hum : u ∈ (⟨op, 0, [u, v]⟩ : Expr).Kids := by simp
   have hvm : v ∈ (⟨op, 0, [u, v]⟩ : Expr).Kids := by simp
   have su := CM hum
   have sv := CM hvm
   have cu := hc.kid hum
   have cv := hc.kid hvm
   have etk : Bb r (⟨op, 0, [u, v]⟩ : Expr).Op (tk ⟨op, 0, [u, v]⟩) = Bb r u.Op (tk u) ++ sgK op ++ Bb ((r + 1 : Nat) : Int) v.Op (tk v) := by
    show Bb r op _ = _
    rw [DN (by omega), LB hop, l1, l2]; rfl
   rw [etk] at hS hn hO ⊢
   obtain ⟨hS1, hSv⟩ := BS hS
   obtain ⟨hSu, hSo⟩ := BS hS1
   simp only [List.length_append, NV] at hn hO hSv ⊢
   have hk' : 16 * sz (⟨op, 0, [u, v]⟩ : Expr) + 8 <= k + 1 + r := by
    rw [if_neg (by show ¬ rk op < r; omega)] at hk; exact hk
   obtain ⟨j0, x0, d, e1, e2, e3⟩ := Jr hr6 hF hops ho hl h3 s u i o (by omega) (by split <;> omega) hu (.inl (by omega)) h0 h32 hSu (by omega) (Pm hop hSo (by omega))
   refine ⟨j0, x0, d + 1, e1, by omega, fun M => ?_⟩
   rw [show M + (d + 1) = (M + 1) + d by omega, e3]
   generalize hq : i + (Bb r u.Op (tk u)).length = q at *
   have hq2 : q < n := by omega
   obtain ⟨a, b, ha, hb, hcd, _, _, _⟩ := T.hd hq2
   obtain ⟨ho1, ho2⟩ := hops q a hq2 ha
   have hacc := FF T (N := N) hq2 o a.text_ ha
   have hz := ho q op hop hrk' hSo
   rw [hz] at ho1
   simp only [Option.isSome_some, Bool.and_eq_true] at ho1
   rw [ho1.2] at hacc
   have hz2 := ho2 op hz
   have hv1 := hF v (q + 1) o (by split <;> omega) hv (.inl (by omega)) h0 h32 (by rw [show q + 1 = i + ((Bb r u.Op (tk u)).length + 1) by omega]; exact hSv) (by omega) (by rw [show q + 1 + (Bb ((r + 1 : Nat) : Int) v.Op (tk v)).length = i + ((Bb r u.Op (tk u)).length + 1 + (Bb ((r + 1 : Nat) : Int) v.Op (tk v)).length) by omega]; exact hO)
   have hb1 : AA N (PS Lr i o) f ops (PS Lr j0 o, x0) (u.Op, u.Value, u.Kids, Lr.drop q, o) = some (.next (op, 0, [u, v], Lr.drop (i + ((Bb r u.Op (tk u)).length + 1 + (Bb ((r + 1 : Nat) : Int) v.Op (tk v)).length)), o)) := by
    unfold AA
    simp only [hcd, Option.bind_some, ho1.1, Bool.not_true, cond_false]
    rw [show (⟨Lr.drop q, o⟩ : Aa) = PS Lr q o from rfl, hacc]
    simp only [cond_true, Option.bind_some, Bool.not_true, cond_false]
    rw [show (⟨(PS Lr (q + 1) o).l_, (PS Lr (q + 1) o).open_⟩ : Aa) = PS Lr (q + 1) o from rfl, hv1]
    simp only [Option.bind_some, sk, hz2]
    rw [show q + 1 + (Bb ((r + 1 : Nat) : Int) v.Op (tk v)).length = i + ((Bb r u.Op (tk u)).length + 1 + (Bb ((r + 1 : Nat) : Int) v.Op (tk v)).length) by omega]
    cases u; rfl
   rw [AX, hb1]
  ·have e1 : Bb r x.Op (tk x) = Bb ((r + 1 : Nat) : Int) x.Op (tk x) := LM hrk _
   rw [e1] at hS hn hO ⊢
   refine ⟨_, _, 0, hF x i o ?_ hx ?_ h0 h32 hS hn hO, Nat.zero_le _, fun M => rfl⟩
   ·split at hk <;> split <;> omega
   ·rcases hc with hc | ⟨c1, c2, c3⟩
    ·exact .inl hc
    ·exact .inr ⟨by omega, c2, c3⟩
theorem Fz (hN : n + 200 <= N) {f : PF} {k r : Nat} (hr6 : r <= 6) (hF : Fw n Lr Lf f k (r + 1)) {ops : List (SZ × Int)} {Am : Nat -> Option Int}
  (hops : ∀ i a, i < n -> Lr[i]? = some a -> (Hp ops a.text_ && seeR a a.text_) = (Am i).isSome /\ ∀ z, Am i = some z -> Ev ops a.text_ 0 = z)
  (ho : ∀ q op, Bin op -> rk op = r -> FT Lf q (sgK op) -> Am q = some op) (hno : ∀ q, Off Lf q r -> Am q = none) (hl : ∀ op, Bin op -> rk op = r -> lf op = r /\ rt op = r + 1) (h3 : r ≠ 3) :
  Fw n Lr Lf (fun p => AN N p f ops) (k + 1) r := by
 intro x i o hk hx hc h0 h32 hS hn hO
 obtain ⟨j0, x0, d, e1, e2, e3⟩ := Jr T (N := N) hr6 hF hops ho hl h3 _ x i o (Nat.le_refl _) hk hx hc h0 h32 hS hn (hO.le (by omega))
 generalize hq : i + (Bb r x.Op (tk x)).length = q at *
 show AN N (PS Lr i o) f ops = _
 unfold AN
 rw [e1]
 simp only [Option.bind_some, sk]
 rw [show (PS Lr j0 o).l_ = Lr.drop j0 from rfl, show (PS Lr j0 o).open_ = o from rfl]
 obtain ⟨M, hM⟩ : ∃ M, N = M + 1 + d := ⟨N - 1 - d, by omega⟩
 have e4 := e3 (M + 1)
 rw [<- hM] at e4
 rw [e4]
 obtain ⟨a, b, ha, hb, hcd, _, _, _⟩ := T.hd hn
 obtain ⟨ho1, ho2⟩ := hops q a hn ha
 have hacc := FF T (N := N) hn o a.text_ ha
 rw [hno q hO] at ho1
 have hb1 : AA N (PS Lr i o) f ops (PS Lr j0 o, x0) (x.Op, x.Value, x.Kids, Lr.drop q, o) = some (.ret (.inr (PS Lr q o, x))) := by
  unfold AA
  simp only [hcd, Option.bind_some]
  cases hm : Hp ops a.text_ with
  | false => simp only [Bool.not_false, cond_true, Option.bind_some]; cases x; rfl
  | true =>
   rw [hm] at ho1
   have hs : seeR a a.text_ = false := by simpa using ho1
   rw [hs] at hacc
   simp only [Bool.not_true, cond_false]
   rw [show (⟨Lr.drop q, o⟩ : Aa) = PS Lr q o from rfl, hacc]
   cases x; rfl
 rw [AX, hb1]
 rfl
theorem PO {k : Nat} {fd ft : PF} (hd : Fw n Lr Lf fd k 3) (ht : Fw n Lr Lf ft k 4) : Fw n Lr Lf (Bw N fd ft) (k + 1) 3 := by
 intro x i o hk hx hc h0 h32 hS hn hO
 unfold Bw
 have hi : i < n := by omega
 rw [CF T hi o (by decide)]
 by_cases hrk : rk x.Op = 3
 ·have hop : ∃ u, x = ⟨3, 0, [u]⟩ /\ kd u = 2 := by
   rcases De hx with ⟨h1, _⟩ | ⟨h1, _⟩ | ⟨u, rfl, h⟩ | ⟨op, u, v, hop, rfl, hu, hv⟩ | ⟨c, u, v, rfl, _⟩
   ·rw [h1] at hrk; exact absurd hrk (by decide)
   ·rw [h1] at hrk; exact absurd hrk (by decide)
   ·exact ⟨u, rfl, h⟩
   ·exact absurd hrk (Pe hop).2.2
   ·exact absurd hrk (show ¬ rk 11 = 3 by decide)
  obtain ⟨u, rfl, hu⟩ := hop
  have hum : u ∈ (⟨3, 0, [u]⟩ : Expr).Kids := by simp
  have su := CM hum
  have cu := hc.kid hum
  have etk : Bb ((3 : Nat) : Int) (⟨3, 0, [u]⟩ : Expr).Op (tk ⟨3, 0, [u]⟩) = [(2, [110, 111, 116])] ++ Bb ((3 : Nat) : Int) u.Op (tk u) := by
   show Bb 3 3 _ = _
   rw [DN (by decide), OZ]; rfl
  rw [etk] at hS hn hO ⊢
  obtain ⟨hS1, hSu⟩ := BS hS
  have hse : Se Lf i [110, 111, 116] = true := by rw [Cc hS1.1]; rfl
  simp only [List.length_append, List.length_cons, List.length_nil, Nat.zero_add] at hn hO hSu ⊢
  rw [hse]
  simp only [Option.bind_some, cond_true]
  rw [if_neg (show ¬ rk 3 < ((3 : Nat) : Int) by decide)] at hk
  rw [hd u (i + 1) o (by split <;> omega) (by rw [hu]; decide) (.inl (by omega)) h0 h32 hSu (by omega) (by rw [Nat.add_assoc]; exact hO)]
  simp only [Option.bind_some, sk]
  rw [Nat.add_assoc]
 ·have e1 : Bb ((3 : Nat) : Int) x.Op (tk x) = Bb ((4 : Nat) : Int) x.Op (tk x) := LM hrk _
  rw [e1] at hS hn hO ⊢
  obtain ⟨kk, t, l, h1, h2⟩ := Me _ x (Nat.le_refl _) hx 4 (by omega)
  have hse : Se Lf i [110, 111, 116] = false := by
   rw [show ((4 : Nat) : Int) = 4 from rfl, h1] at hS
   rw [Cc hS.1]
   have : (t == [110, 111, 116]) = false := by simpa using h2
   rw [this]; simp
  rw [hse]
  simp only [Option.bind_some, cond_false]
  rw [ht x i o (by split at hk <;> split <;> omega) hx (by
   rcases hc with hc | ⟨c1, c2, c3⟩
   ·exact .inl hc
   ·exact .inr ⟨by omega, c2, c3⟩) h0 h32 hS hn (hO.le (by omega))]
  rfl
theorem O2 {k : Nat} {fs : PF} (hs : Fw n Lr Lf fs k 5) : Fw n Lr Lf (Bu N fs) (k + 1) 4 := by
 intro x i o hk hx hc h0 h32 hS hn hO
 unfold Bu
 by_cases hrk : rk x.Op = 4
 ·have hop : ∃ op u v, (op = 6 \/ op = 7) /\ x = ⟨op, 0, [u, v]⟩ /\ kd u ≠ 0 /\ kd v ≠ 0 := by
   rcases De hx with ⟨h1, _⟩ | ⟨h1, _⟩ | ⟨u, rfl, _⟩ | ⟨op, u, v, hop, rfl, hu, hv⟩ | ⟨c, u, v, rfl, _⟩
   ·rw [h1] at hrk; exact absurd hrk (by decide)
   ·rw [h1] at hrk; exact absurd hrk (by decide)
   ·exact absurd hrk (show ¬ rk 3 = 4 by decide)
   ·refine ⟨op, u, v, ?_, rfl, hu, hv⟩
    rcases hop with rfl | rfl | rfl | rfl | rfl | rfl | rfl
    ·exact absurd hrk (show ¬ rk 4 = 4 by decide)
    ·exact absurd hrk (show ¬ rk 5 = 4 by decide)
    ·exact .inl rfl
    ·exact .inr rfl
    ·exact absurd hrk (show ¬ rk 8 = 4 by decide)
    ·exact absurd hrk (show ¬ rk 9 = 4 by decide)
    ·exact absurd hrk (show ¬ rk 10 = 4 by decide)
   ·exact absurd hrk (show ¬ rk 11 = 4 by decide)
  obtain ⟨op, u, v, hop, rfl, hu, hv⟩ := hop
  have hbin : Bin op := by rcases hop with rfl | rfl <;> simp [Bin]
  have hrk' : rk op = 4 := hrk
  have hum : u ∈ (⟨op, 0, [u, v]⟩ : Expr).Kids := by simp
  have hvm : v ∈ (⟨op, 0, [u, v]⟩ : Expr).Kids := by simp
  have su := CM hum
  have sv := CM hvm
  have cu := hc.kid hum
  have cv := hc.kid hvm
  have etk : Bb ((4 : Nat) : Int) (⟨op, 0, [u, v]⟩ : Expr).Op (tk ⟨op, 0, [u, v]⟩) = Bb ((5 : Nat) : Int) u.Op (tk u) ++ sgK op ++ Bb ((5 : Nat) : Int) v.Op (tk v) := by
   show Bb 4 op _ = _
   rw [DN (by omega), LB hbin]
   rcases hop with rfl | rfl <;> rfl
  rw [etk] at hS hn hO ⊢
  obtain ⟨hS1, hSv⟩ := BS hS
  obtain ⟨hSu, hSo⟩ := BS hS1
  simp only [List.length_append, NV] at hn hO hSv ⊢
  rw [if_neg (by show ¬ rk op < ((4 : Nat) : Int); omega)] at hk
  rw [hs u i o (by split <;> omega) hu (.inl (by omega)) h0 h32 hSu (by omega) (Pm hbin hSo (by rw [hrk']; decide))]
  simp only [Option.bind_some, sk]
  have hse := NW hSo
  generalize hq : i + (Bb ((5 : Nat) : Int) u.Op (tk u)).length = q at *
  have hv1 := hs v (q + 1) o (by split <;> omega) hv (.inl (by omega)) h0 h32 (by rw [show q + 1 = i + ((Bb ((5 : Nat) : Int) u.Op (tk u)).length + 1) by omega]; exact hSv) (by omega) (by rw [show q + 1 + (Bb ((5 : Nat) : Int) v.Op (tk v)).length = i + ((Bb ((5 : Nat) : Int) u.Op (tk u)).length + 1 + (Bb ((5 : Nat) : Int) v.Op (tk v)).length) by omega]; exact hO.le (by omega))
  have hqn : q < n := by omega
  rw [CF T hqn o (by decide)]
  rw [show i + ((Bb ((5 : Nat) : Int) u.Op (tk u)).length + 1 + (Bb ((5 : Nat) : Int) v.Op (tk v)).length) = q + 1 + (Bb ((5 : Nat) : Int) v.Op (tk v)).length by omega]
  rcases hop with rfl | rfl
  ·rw [show Se Lf q [61] = true from hse]
   simp only [Option.bind_some, cond_true, hv1, sk]
  ·have hno : Se Lf q [61] = false := by rw [Cc hSo.1]; rfl
   rw [hno]
   simp only [Option.bind_some, cond_false]
   rw [CF T hqn o (by decide), show Se Lf q [60] = true from hse]
   simp only [Option.bind_some, cond_true, cond_false, hv1, sk]
 ·have e1 : Bb ((4 : Nat) : Int) x.Op (tk x) = Bb ((5 : Nat) : Int) x.Op (tk x) := LM hrk _
  rw [e1] at hS hn hO ⊢
  rw [hs x i o (by split at hk <;> split <;> omega) hx (by
   rcases hc with hc | ⟨c1, c2, c3⟩
   ·exact .inl hc
   ·exact .inr ⟨by omega, c2, c3⟩) h0 h32 hS hn (hO.le (by omega))]
  simp only [Option.bind_some, sk]
  generalize i + (Bb ((5 : Nat) : Int) x.Op (tk x)).length = q at *
  have h6 : Se Lf q [61] = false := hO 6 (by simp [Bin]) (by decide)
  have h7 : Se Lf q [60] = false := hO 7 (by simp [Bin]) (by decide)
  rw [CF T hn o (by decide), h6]
  simp only [Option.bind_some, cond_false]
  rw [CF T hn o (by decide), h7]
  rfl
end
theorem Mt (op : Int) : 1 <= rk op /\ rk op <= 7 := by unfold rk; repeat' split
                                                       all_goals omega
theorem RV {j : Nat} (h : j < 14) : fi (fun x => NM[j]?.getD [] == x) NM = j := by
 have : ∀ j : Fin 14, fi (fun x => NM[j.val]?.getD [] == x) NM = j.val := by decide
 exact this ⟨j, h⟩
section
variable {N n : Nat} {Lr : List Ah} {Lf : List Ae} (T : JN n Lr Lf)
include T
theorem JO (hN : 100 < N) (f : PF) {i : Nat} {o : Int} (hi : i < n) {a : Ah} (ha : Lr[i]? = some a) : Bc N f (PS Lr i o) =
   bif (a.kind_ == 1) then ((Cj N a.text_).bind fun r74 => (bif (r74.2 || ((decide ((a.text_.length : Int) > 7)) || (decide (r74.1 > 1000000)))) then some (.inl ⟨60, a.at_⟩) else some (.inr (PS Lr (i + 1) o, ⟨1, r74.1, []⟩))))
   else bif ((a.kind_ == 2) && decide (fi (fun x => a.text_ == x) NM >= 0)) then some (.inr (PS Lr (i + 1) o, ⟨2, fi (fun x => a.text_ == x) NM, []⟩))
   else ((Ap N (PS Lr i o) [105, 102]).bind fun r157 => bif r157.2 then H0 N f r157.1 else ((AD N r157.1 [40]).bind fun r348 => bif r348 then Q0 N f r157.1 else some (.inl ⟨60, a.at_⟩))) := by
 obtain ⟨a', b, ha', hb, hc, hd, he, hat⟩ := T.hd hi
 rw [ha'] at ha; cases ha
 have hR : ∀ v : Int, fi (fun x => a.text_ == x) NM = v -> Bc N f (PS Lr i o) =
   bif (a.kind_ == 1) then ((Cj N a.text_).bind fun r74 => (bif (r74.2 || ((decide ((a.text_.length : Int) > 7)) || (decide (r74.1 > 1000000)))) then some (.inl ⟨60, a.at_⟩) else some (.inr (PS Lr (i + 1) o, ⟨1, r74.1, []⟩))))
   else bif ((a.kind_ == 2) && decide (v >= 0)) then some (.inr (PS Lr (i + 1) o, ⟨2, v, []⟩))
   else ((Ap N (PS Lr i o) [105, 102]).bind fun r157 => bif r157.2 then H0 N f r157.1 else ((AD N r157.1 [40]).bind fun r348 => bif r348 then Q0 N f r157.1 else some (.inl ⟨60, a.at_⟩))) := by
  intro v hv
  unfold Bc
  rw [show (PS Lr i o).l_ = Lr.drop i from rfl, hc, Option.bind_some, N7, Option.bind_some, QA hN, Option.bind_some, Option.bind_some, hv, Mh T hi]
  rfl
 exact hR _ rfl
theorem Ly {i : Nat} (hi : i < n) {k : Int} {t : SZ} (h : Lf[i]?.map kt = some (k, t)) (hk : k = 1 \/ k = 2 \/ k = 3) : ∃ a, Lr[i]? = some a /\ a.kind_ = k /\ a.text_ = t /\ (k = 1 -> t ≠ [] /\ t.length <= 1000000 /\ Dig t) := by
 obtain ⟨a, b, ha, hb, hc, hd, he, hat⟩ := T.hd hi
 rw [hb] at h
 simp only [Option.map_some, Option.some.injEq, kt, Prod.mk.injEq] at h
 obtain ⟨h1, h2⟩ := h
 refine ⟨a, ha, ?_⟩
 rcases he with ⟨hcc, _⟩ | ⟨hee, _⟩
 ·rcases hcc.k with ⟨k1, k2, k3, k4, k5, k6⟩ | ⟨k1, k2, k3, _⟩ | ⟨k1, k2, k3, _⟩ | ⟨k1, k2, _⟩ | ⟨k1, k2⟩
  ·refine ⟨by omega, by rw [k3, h2], fun _ => ?_⟩
   rw [<- h2]; exact ⟨k4, k5, k6⟩
  ·exact ⟨by omega, by rw [k3, h2], fun e => by omega⟩
  ·exact ⟨by omega, by rw [k3, h2], fun e => by omega⟩
  ·omega
  ·omega
 ·have := hee.b5; omega
theorem J7 (hN : 100 < N) {f : PF} {i j : Nat} {o : Int} {x : Expr} (hi : i < n) (hj : j < n) (h0 : 0 <= o) (h31 : o <= 31) (hl : Lf[i]?.map kt = some (3, [40])) (hr : Lf[j]?.map kt = some (3, [41])) (hf : f (PS Lr (i + 1) (o + 1)) = some (.inr (PS Lr j (o + 1), x))) :
  Bc N f (PS Lr i o) = some (.inr (PS Lr (j + 1) o, x)) := by
 obtain ⟨a, ha, k1, k2, _⟩ := Ly T hi hl (by omega)
 have s1 : Se Lf i [105, 102] = false := by rw [Cc hl]; rfl
 have s2 : Se Lf i [40] = true := by rw [Cc hl]; rfl
 have s3 : Se Lf j [41] = true := by rw [Cc hr]; rfl
 rw [JO T hN f hi ha, k1]
 simp only [show ((3 : Int) == 1) = false from rfl, show ((3 : Int) == 2) = false from rfl, Bool.false_and, cond_false]
 rw [CF T hi o (by decide), s1]
 simp only [Option.bind_some, cond_false]
 rw [Pr T hi o (by decide), s2]
 simp only [Option.bind_some, cond_true]
 unfold Q0
 rw [N9 T hi h0 (by omega), s2]
 simp only [Option.bind_some, cond_true]
 rw [if_neg (by omega)]
 show Q1 N f (PS Lr (i + 1) (o + 1)) = _
 unfold Q1
 rw [hf]
 show Q2 N (PS Lr j (o + 1), x) = _
 unfold Q2
 rw [N8 T hj (by omega) (by omega), s3]
 have e : o + 1 - 1 = o := by omega
 simp only [Option.bind_some, cond_true, sk, e]
theorem Pw (hN : 100 < N) {f : PF} {k : Nat} (hF : Fw n Lr Lf f k 1) : Fw n Lr Lf (Bc N f) (k + 1) 7 := by
 intro x i o hk hx hc h0 h32 hS hn hO
 have hi : i < n := by omega
 have hrl := Mt x.Op
 by_cases hrk : rk x.Op = 7
 ·have hp7 : Bb ((7 : Nat) : Int) x.Op (tk x) = tk x := DN (by omega) _
  rw [hp7] at hS hn hO ⊢
  rw [if_neg (by omega)] at hk
  have hc' : o + dN x <= 33 := by
   rcases hc with hc | ⟨_, c2, _⟩
   ·exact hc
   ·omega
  rcases De hx with ⟨h1, h2, h3, h4⟩ | ⟨h1, h2, h3, h4⟩ | ⟨u, rfl, _⟩ | ⟨op, u, v, hop, rfl, hu, hv⟩ | ⟨c, u, v, rfl, hcc, hu, hv⟩
  ·rw [M4 h1] at hS hn ⊢
   obtain ⟨a, ha, k1, k2, k3⟩ := Ly T hi hS.1 (by omega)
   obtain ⟨d1, d2, d3⟩ := k3 rfl
   obtain ⟨r, hr, hbad, hgood⟩ := Rc (N := N) d3 d1 d2
   rw [PC h2 h3] at hbad hgood
   rw [JO T hN f hi ha, k1, k2]
   simp only [show ((1 : Int) == 1) = true from rfl, cond_true, hr, Option.bind_some, hbad]
   rw [decide_eq_false (by omega), cond_false, hgood h2]
   have : x = ⟨1, x.Value, []⟩ := DQ h1 rfl h4
   rw [List.length_singleton, <- this]
  ·rw [M5 h1] at hS hn ⊢
   obtain ⟨a, ha, k1, k2, _⟩ := Ly T hi hS.1 (by omega)
   rw [JO T hN f hi ha, k1, k2]
   rw [RV (by omega)]
   simp only [show ((2 : Int) == 1) = false from rfl, show ((2 : Int) == 2) = true from rfl, cond_false, Bool.true_and]
   rw [decide_eq_true (by omega), cond_true]
   have : x = ⟨2, ((x.Value.toNat : Nat) : Int), []⟩ := DQ h1 (by show x.Value = ((x.Value.toNat : Nat) : Int); omega) h4
   rw [List.length_singleton, <- this]
  ·exact absurd hrk (show ¬ rk 3 = 7 by decide)
  ·have := Pe hop
   have : rk op = 7 := hrk
   omega
  ·have hcm : c ∈ (⟨11, 0, [c, u, v]⟩ : Expr).Kids := by simp
   have hum : u ∈ (⟨11, 0, [c, u, v]⟩ : Expr).Kids := by simp
   have hvm : v ∈ (⟨11, 0, [c, u, v]⟩ : Expr).Kids := by simp
   have sc := CM hcm
   have su := CM hum
   have sv := CM hvm
   have dc := Kp hcm
   have du := Kp hum
   have dv := Kp hvm
   have dp := PR c
   rw [O0] at hS hn hO ⊢
   obtain ⟨hS, z7⟩ := BS hS
   obtain ⟨hS, z6⟩ := BS hS
   obtain ⟨hS, z5⟩ := BS hS
   obtain ⟨hS, z4⟩ := BS hS
   obtain ⟨hS, z3⟩ := BS hS
   obtain ⟨z1, z2⟩ := BS hS
   simp only [List.length_append, List.length_cons, List.length_nil, Nat.zero_add] at hn z2 z3 z4 z5 z6 z7 ⊢
   obtain ⟨a, ha, k1, k2, _⟩ := Ly T hi z1.1 (by omega)
   have s1 : Se Lf i [105, 102] = true := by rw [Cc z1.1]; rfl
   have s2 : Se Lf (i + 1) [40] = true := by rw [Cc z1.2.1]; rfl
   have one : ∀ y : Expr, Bb ((1 : Nat) : Int) y.Op (tk y) = tk y := fun y => DN (by have := Mt y.Op; omega) _
   have sub : ∀ (y : Expr) (q : Nat) (t : SZ), sz y < sz (⟨11, 0, [c, u, v]⟩ : Expr) -> dN y < dN (⟨11, 0, [c, u, v]⟩ : Expr) -> kd y ≠ 0 -> FT Lf q (tk y) -> q + (tk y).length < n -> Lf[q + (tk y).length]?.map kt = some (3, t) -> (t = [41] \/ t = [44]) ->
     f (PS Lr q (o + 1)) = some (.inr (PS Lr (q + (tk y).length) (o + 1), y)) := by
    intro y q t hs hd hk0 hS hq ht htt
    have := hF y q (o + 1) (by split <;> omega) hk0 (.inl (by omega)) (by omega) (by omega) (by rw [one]; exact hS) (by rw [one]; exact hq) (by rw [one]; exact Kb ht (Mj (by rcases htt with h | h <;> simp [h])) _)
    rw [one] at this; exact this
   have exc : ∀ q, q < n -> Lf[q]?.map kt = some (3, [44]) -> AH N (PS Lr q (o + 1)) [44] = some (.inr (PS Lr (q + 1) (o + 1))) := by
    intro q hq h
    rw [Kd T hq _ (by decide), show Se Lf q [44] = true by rw [Cc h]; rfl, cond_true]
   have q3 : Lf[i + 2 + (tk c).length]?.map kt = some (3, [44]) := by rw [show i + 2 + (tk c).length = i + (1 + 1 + (tk c).length) by omega]; exact z3.1
   have q4 : FT Lf (i + 2 + (tk c).length + 1) (tk u) := by rw [show i + 2 + (tk c).length + 1 = i + (1 + 1 + (tk c).length + 1) by omega]; exact z4
   have q5 : Lf[i + 2 + (tk c).length + 1 + (tk u).length]?.map kt = some (3, [44]) := by rw [show i + 2 + (tk c).length + 1 + (tk u).length = i + (1 + 1 + (tk c).length + 1 + (tk u).length) by omega]; exact z5.1
   have q6 : FT Lf (i + 2 + (tk c).length + 1 + (tk u).length + 1) (tk v) := by rw [show i + 2 + (tk c).length + 1 + (tk u).length + 1 = i + (1 + 1 + (tk c).length + 1 + (tk u).length + 1) by omega]; exact z6
   have q7 : Lf[i + 2 + (tk c).length + 1 + (tk u).length + 1 + (tk v).length]?.map kt = some (3, [41]) := by rw [show i + 2 + (tk c).length + 1 + (tk u).length + 1 + (tk v).length = i + (1 + 1 + (tk c).length + 1 + (tk u).length + 1 + (tk v).length) by omega]; exact z7.1
   have f2 := sub c (i + 2) [44] (by omega) (by omega) (by rw [hcc]; decide) z2 (by omega) q3 (.inr rfl)
   have f4 := sub u _ [44] (by omega) (by omega) (by rw [hu]; decide) q4 (by omega) q5 (.inr rfl)
   have f6 := sub v _ [41] (by omega) (by omega) (by rw [hv]; decide) q6 (by omega) q7 (.inl rfl)
   rw [JO T hN f hi ha, k1, k2]
   rw [show fi (fun x => ([105, 102] : SZ) == x) NM = -1 from by decide]
   simp only [show ((2 : Int) == 1) = false from rfl, show ((2 : Int) == 2) = true from rfl, show decide ((-1 : Int) >= 0) = false from rfl, Bool.true_and, cond_false]
   rw [CF T hi o (by decide), s1]
   simp only [Option.bind_some, cond_true]
   unfold H0
   rw [N9 T (by omega) h0 (by omega), s2]
   simp only [Option.bind_some, cond_true]
   rw [if_neg (by omega)]
   show H1 N f (PS Lr (i + 2) (o + 1)) = _
   unfold H1
   rw [f2]
   show H2 N f (PS Lr (i + 2 + (tk c).length) (o + 1), c) = _
   unfold H2
   rw [exc _ (by omega) q3]
   show H3 N f c (PS Lr (i + 2 + (tk c).length + 1) (o + 1)) = _
   unfold H3
   rw [f4]
   show H4 N f c (PS Lr (i + 2 + (tk c).length + 1 + (tk u).length) (o + 1), u) = _
   unfold H4
   rw [exc _ (by omega) q5]
   show H5 N f c u (PS Lr (i + 2 + (tk c).length + 1 + (tk u).length + 1) (o + 1)) = _
   unfold H5
   rw [f6]
   show H6 N c u (PS Lr (i + 2 + (tk c).length + 1 + (tk u).length + 1 + (tk v).length) (o + 1), v) = _
   unfold H6
   rw [N8 T (by omega) (by omega) (by omega), show Se Lf (i + 2 + (tk c).length + 1 + (tk u).length + 1 + (tk v).length) [41] = true by rw [Cc q7]; rfl]
   have e : o + 1 - 1 = o := by omega
   simp only [Option.bind_some, cond_true, sk, e]
   rw [show i + 2 + (tk c).length + 1 + (tk u).length + 1 + (tk v).length + 1 = i + (1 + 1 + (tk c).length + 1 + (tk u).length + 1 + (tk v).length + 1) by omega]
 ·have hp7 : Bb ((7 : Nat) : Int) x.Op (tk x) = [(3, [40])] ++ tk x ++ [(3, [41])] := by unfold Bb; rw [if_pos (by omega)]
  rw [hp7] at hS hn hO ⊢
  rw [if_pos (by omega)] at hk
  have hc' : o + dN x <= 33 := by
   rcases hc with hc | ⟨c1, c2, _⟩
   ·exact hc
   ·omega
  have hd2 : 2 <= dN x := by
   have : ∀ u, u ∈ x.Kids -> 2 <= dN x := fun u hu => by have := Kp hu; have := PR u; omega
   rcases De hx with ⟨h1, _⟩ | ⟨h1, _⟩ | ⟨u, rfl, _⟩ | ⟨op, u, v, hop, rfl, hu, hv⟩ | ⟨c, u, v, rfl, hcc, hu, hv⟩
   ·rw [h1] at hrk; exact absurd rfl hrk
   ·rw [h1] at hrk; exact absurd rfl hrk
   ·exact this u (by simp)
   ·exact this u (by simp)
   ·exact this u (by simp)
  obtain ⟨hS1, z3⟩ := BS hS
  obtain ⟨z1, z2⟩ := BS hS1
  simp only [List.length_append, List.length_cons, List.length_nil, Nat.zero_add] at hn hO z2 z3 ⊢
  have one : Bb ((1 : Nat) : Int) x.Op (tk x) = tk x := DN (by omega) _
  have hf := hF x (i + 1) (o + 1) (by rw [if_neg (by omega)]; omega) hx (.inr ⟨by omega, by omega, by omega⟩) (by omega) (by omega) (by rw [one]; exact z2) (by rw [one]; omega) (by
   rw [one, show i + 1 + (tk x).length = i + (1 + (tk x).length) by omega]
   exact Kb z3.1 (Mj (.inl rfl)) _)
  rw [one] at hf
  rw [J7 T hN hi (j := i + 1 + (tk x).length) (by omega) h0 (by omega) z1.1 (by rw [show i + 1 + (tk x).length = i + (1 + (tk x).length) by omega]; exact z3.1) hf]
  rw [show i + 1 + (tk x).length + 1 = i + (1 + (tk x).length + 1) by omega]
end
section
open Go.Proofs Go.Lib
def Sz (a : S0) (cap : Nat) (t : SZ) (e : Option Nat × Obj) : Prop :=
 (a = none /\ cap = 0 /\ t = [] /\ e.1 = none) \/ ∃ g cur, a = some ⟨g, 0, none⟩ /\ e = (some g, .cells cur 5 (0, 0)) /\ t ≠ [] /\ t.length <= cap /\ cap <= maxLen /\ cur.size = cap /\ cur.toList.take t.length = byteCells t
def Sf (b : Nat) (t : SZ) (_ : Mem) (Lf : Own) : Prop := ∃ p a n e, (p = none \/ p = some ⟨b, 0, none⟩) /\ Lf = [e, (some b, .cells #[.pointer p, .slice a t.length n] 130 (0, 0))] /\ Sz a n t e
theorem Sf.mono {b : Nat} : MW (Sf b) := fun _ _ _ _ h _ => h
end






section
variable {N : Nat}
theorem Qw (z : Expr) : par 1 z.Op (pr z) = pr z := by unfold par; rw [if_neg]; unfold rk; repeat' split; all_goals omega
theorem Ou {e : Expr} (h : Fit N e) (hk : kd e ≠ 0) (hs : sz e <= 100000000) : DG N e 1 = some (pr e) := by
 obtain ⟨n, h1, h2⟩ := h
 have : DG N e 1 = some (par 1 e.Op (pr e)) := DC h1 (by omega) hk hs 1
 rw [this, Qw]
noncomputable def prx (e : Expr) : SZ × Int := if IH e = true then (pr e, 0) else ([], 61)
theorem Mn {e : Expr} (h : Fit N e) (hs : sz e <= 100000000) : Cr N e = some (prx e) := by
 unfold Cr prx
 rw [Qb h, Option.bind_some]
 cases h0 : IH e with
 | false => rfl
 | true => rw [Bool.not_true, cond_false, Ou h (HB h0) hs, if_pos rfl]; rfl
end
section
variable {N n : Nat} {Lr : List Ah} {Lf : List Ae} (T : JN n Lr Lf)
include T
theorem Jf {P : Option (Af ⊕ (Aa × Expr))} {p} (h : P = some p) : (P.bind fun r39 => sk r39 (fun b52 => some (.inl b52)) (fun r42 => some (.inr (r42.1, r42.2)))) = some p := by
 subst h
 cases p <;> rfl
theorem Nu {k : SZ} {z r : Int} (hz : Bin z) (hk : sgT z = k) (hr : rk z = r) (hu : ∀ op, Bin op -> rk op = r -> op = z) :
  (∀ q op, Bin op -> rk op = r -> FT Lf q (sgK op) -> (if Se Lf q k then some z else none : Option Int) = some op) /\ (∀ q, Off Lf q r -> (if Se Lf q k then some z else none : Option Int) = none) := by
 refine ⟨fun q op ho hr' hs => ?_, fun q h => ?_⟩
 ·obtain rfl := hu op ho hr'
  rw [<- hk, if_pos (NW hs)]
 ·rw [<- hk, if_neg (by rw [h z hz (by omega)]; decide)]
theorem LX (hN : n + 200 <= N) : ∀ k, Fw n Lr Lf (AW N k).q145 k 1 /\ Fw n Lr Lf (AW N k).q185 k 2 /\ Fw n Lr Lf (AW N k).q212 k 3 /\ Fw n Lr Lf (AW N k).q226 k 4 /\ Fw n Lr Lf (AW N k).q233 k 5 /\ Fw n Lr Lf (AW N k).q239 k 6 /\ Fw n Lr Lf (AW N k).q243 k 7
 | 0 => by
  have no : ∀ {f : PF} {r : Nat}, r <= 7 -> Fw n Lr Lf f 0 r := fun hr x i o hk => by
   have := Fl x
   split at hk <;> omega
  exact ⟨no (by omega), no (by omega), no (by omega), no (by omega), no (by omega), no (by omega), no (by omega)⟩
 | k + 1 => by
  obtain ⟨a1, a2, a3, a4, a5, a6, a7⟩ := LX hN k
  refine ⟨?_, ?_, PO T a3 a4, O2 T a5, ?_, ?_, Pw T (by omega) a1⟩
  ·obtain ⟨o1, o2⟩ := Nu T (k := [111, 114]) (z := 5) (r := 1) (by simp [Bin]) rfl rfl (fun op h hr => by rcases h with rfl | rfl | rfl | rfl | rfl | rfl | rfl <;> first | rfl | exact absurd hr (by decide))
   have := Fz T hN (r := 1) (by omega) a2 (OE T (k := [111, 114]) (by decide) (z := 5)) o1 o2 (fun op h hr => by rcases h with rfl | rfl | rfl | rfl | rfl | rfl | rfl <;> first | exact absurd hr (by decide) | decide) (by omega)
   exact fun x i o hk hx hc h0 h32 hS hn hO => Jf T (this x i o hk hx hc h0 h32 hS hn hO)
  ·obtain ⟨o1, o2⟩ := Nu T (k := [97, 110, 100]) (z := 4) (r := 2) (by simp [Bin]) rfl rfl (fun op h hr => by rcases h with rfl | rfl | rfl | rfl | rfl | rfl | rfl <;> first | rfl | exact absurd hr (by decide))
   have := Fz T hN (r := 2) (by omega) a3 (OE T (k := [97, 110, 100]) (by decide) (z := 4)) o1 o2 (fun op h hr => by rcases h with rfl | rfl | rfl | rfl | rfl | rfl | rfl <;> first | exact absurd hr (by decide) | decide) (by omega)
   exact fun x i o hk hx hc h0 h32 hS hn hO => Jf T (this x i o hk hx hc h0 h32 hS hn hO)
  ·have := Fz T hN (r := 5) (by omega) a6 (RI T (k1 := [43]) (k2 := [45]) (by decide) (by decide) (by decide) (z1 := 8) (z2 := 9)) (fun q op h hr hs => by
    rcases h with rfl | rfl | rfl | rfl | rfl | rfl | rfl
    ·exact absurd hr (by decide)
    ·exact absurd hr (by decide)
    ·exact absurd hr (by decide)
    ·exact absurd hr (by decide)
    ·rw [if_pos (show Se Lf q [43] = true from NW (op := 8) hs)]
    ·rw [if_neg (by rw [Cc (show Lf[q]?.map kt = some (3, [45]) from hs.1)]; decide), if_pos (show Se Lf q [45] = true from NW (op := 9) hs)]
    ·exact absurd hr (by decide)) (fun q h => by
    rw [if_neg (by rw [show Se Lf q [43] = false from h 8 (by simp [Bin]) (by decide)]; decide), if_neg (by rw [show Se Lf q [45] = false from h 9 (by simp [Bin]) (by decide)]; decide)])
    (fun op h hr => by rcases h with rfl | rfl | rfl | rfl | rfl | rfl | rfl <;> first | exact absurd hr (by decide) | decide) (by omega)
   exact fun x i o hk hx hc h0 h32 hS hn hO => Jf T (this x i o hk hx hc h0 h32 hS hn hO)
  ·obtain ⟨o1, o2⟩ := Nu T (k := [42]) (z := 10) (r := 6) (by simp [Bin]) rfl rfl (fun op h hr => by rcases h with rfl | rfl | rfl | rfl | rfl | rfl | rfl <;> first | rfl | exact absurd hr (by decide))
   have := Fz T hN (r := 6) (by omega) a7 (OE T (k := [42]) (by decide) (z := 10)) o1 o2 (fun op h hr => by rcases h with rfl | rfl | rfl | rfl | rfl | rfl | rfl <;> first | exact absurd hr (by decide) | decide) (by omega)
   exact fun x i o hk hx hc h0 h32 hS hn hO => Jf T (this x i o hk hx hc h0 h32 hS hn hO)
theorem PD (hN : n + 200 <= N) {x : Expr} {i : Nat} (hz : 16 * sz x + 16 <= N) (hx : kd x ≠ 0) (hd : dN x <= 32) (hS : FT Lf i (tk x)) (hn : i + (tk x).length < n) (hO : Off Lf (i + (tk x).length) 1) : BN N (PS Lr i 0) = some (.inr (PS Lr (i + (tk x).length) 0, x)) := by
 have one : Bb ((1 : Nat) : Int) x.Op (tk x) = tk x := DN (by have := Mt x.Op; omega) _
 have := (LX T hN N).1 x i 0 (by split <;> omega) hx (.inl (by omega)) (by omega) (by omega) (by rw [one]; exact hS) (by rw [one]; exact hn) (by rw [one]; exact hO)
 rw [one] at this; exact this
theorem EO (hN : n + 200 <= N) {f : PF} {ops : List (SZ × Int)} {Am : Nat -> Option Int}
  (hops : ∀ i a, i < n -> Lr[i]? = some a -> (Hp ops a.text_ && seeR a a.text_) = (Am i).isSome /\ ∀ z, Am i = some z -> Ev ops a.text_ 0 = z)
  {i j : Nat} {o : Int} {x : Expr} (hj : j < n) (hno : Am j = none) (hf : f (PS Lr i o) = some (.inr (PS Lr j o, x))) : AN N (PS Lr i o) f ops = some (.inr (PS Lr j o, x)) := by
 unfold AN
 rw [hf]
 simp only [Option.bind_some, sk]
 rw [show (PS Lr j o).l_ = Lr.drop j from rfl, show (PS Lr j o).open_ = o from rfl]
 obtain ⟨M, hM⟩ : ∃ M, N = M + 1 := ⟨N - 1, by omega⟩
 obtain ⟨a, b, ha, hb, hcd, _, _, _⟩ := T.hd hj
 obtain ⟨ho1, ho2⟩ := hops j a hj ha
 have hacc := FF T (N := N) hj o a.text_ ha
 rw [hno] at ho1
 have hb1 : AA N (PS Lr i o) f ops (PS Lr j o, x) (x.Op, x.Value, x.Kids, Lr.drop j, o) = some (.ret (.inr (PS Lr j o, x))) := by
  unfold AA
  simp only [hcd, Option.bind_some]
  cases hm : Hp ops a.text_ with
  | false => simp only [Bool.not_false, cond_true, Option.bind_some]; cases x; rfl
  | true =>
   rw [hm] at ho1
   have hs : seeR a a.text_ = false := by simpa using ho1
   rw [hs] at hacc
   simp only [Bool.not_true, cond_false]
   rw [show (⟨Lr.drop j, o⟩ : Aa) = PS Lr j o from rfl, hacc]
   cases x; rfl
 have e : AX (AA N (PS Lr i o) f ops (PS Lr j o, x)) N (x.Op, x.Value, x.Kids, Lr.drop j, o) = some (.ret (.inr (PS Lr j o, x))) := by
  obtain ⟨M, hM⟩ : ∃ M, N = M + 1 := ⟨N - 1, by omega⟩
  have : ∀ K, K = M + 1 -> AX (AA N (PS Lr i o) f ops (PS Lr j o, x)) K (x.Op, x.Value, x.Kids, Lr.drop j, o) = some (.ret (.inr (PS Lr j o, x))) := by
   rintro _ rfl
   rw [AX, hb1]
  exact this N hM
 rw [e]
 rfl
theorem OD (hN : n + 200 <= N) {x : Expr} (hz : 16 * sz x + 100 <= N) (hx : kd x ≠ 0) (hd : dN x <= 31) (h0 : Lf[0]?.map kt = some (3, [40])) (hS : FT Lf 1 (tk x)) (hn : 1 + (tk x).length + 1 < n) (hr : Lf[1 + (tk x).length]?.map kt = some (3, [41])) (hO : Off Lf (1 + (tk x).length + 1) 1) :
  BN N (PS Lr 0 0) = some (.inr (PS Lr (1 + (tk x).length + 1) 0, x)) := by
 have one : Bb ((1 : Nat) : Int) x.Op (tk x) = tk x := DN (by have := Mt x.Op; omega) _
 obtain ⟨k, hk⟩ : ∃ k, N = k + 7 := ⟨N - 7, by omega⟩
 have f1 := (LX T hN k).1 x 1 1 (by split <;> omega) hx (.inl (by omega)) (by omega) (by omega) (by rw [one]; exact hS) (by rw [one]; omega) (by rw [one]; exact Kb hr (Mj (.inl rfl)) _)
 rw [one] at f1
 have e7 : (AW N (k + 1)).q243 (PS Lr 0 0) = some (.inr (PS Lr (1 + (tk x).length + 1) 0, x)) := J7 T (by omega) (i := 0) (o := 0) (by omega) (by omega) (by omega) (by omega) h0 hr f1
 generalize 1 + (tk x).length + 1 = j at *
 have hse : ∀ t : SZ, t ≠ [40] -> Se Lf 0 t = false := fun t ht => by
  rw [Cc h0]
  have : (([40] : SZ) == t) = false := by simpa using fun h => ht h.symm
  rw [this]; simp
 have off : ∀ op, Bin op -> Se Lf j (sgT op) = false := fun op h => hO op h (by have := Mt op; omega)
 have e6 : (AW N (k + 2)).q239 (PS Lr 0 0) = some (.inr (PS Lr j 0, x)) := Jf T (EO T hN (OE T (k := [42]) (by decide) (z := 10)) hn (by rw [if_neg (by rw [show Se Lf j [42] = false from off 10 (by simp [Bin])]; decide)]) e7)
 have e5 : (AW N (k + 3)).q233 (PS Lr 0 0) = some (.inr (PS Lr j 0, x)) := Jf T (EO T hN (RI T (k1 := [43]) (k2 := [45]) (by decide) (by decide) (by decide) (z1 := 8) (z2 := 9)) hn (by rw [if_neg (by rw [show Se Lf j [43] = false from off 8 (by simp [Bin])]; decide), if_neg (by rw [show Se Lf j [45] = false from off 9 (by simp [Bin])]; decide)]) e6)
 have e4 : (AW N (k + 4)).q226 (PS Lr 0 0) = some (.inr (PS Lr j 0, x)) := by
  show Bu N (AW N (k + 3)).q233 (PS Lr 0 0) = _
  unfold Bu
  rw [e5]
  simp only [Option.bind_some, sk]
  rw [CF T hn 0 (by decide), show Se Lf j [61] = false from off 6 (by simp [Bin])]
  simp only [Option.bind_some, cond_false]
  rw [CF T hn 0 (by decide), show Se Lf j [60] = false from off 7 (by simp [Bin])]
  rfl
 have e3 : (AW N (k + 5)).q212 (PS Lr 0 0) = some (.inr (PS Lr j 0, x)) := by
  show Bw N (AW N (k + 4)).q212 (AW N (k + 4)).q226 (PS Lr 0 0) = _
  unfold Bw
  rw [CF T (by omega) 0 (by decide), hse _ (by decide)]
  simp only [Option.bind_some, cond_false]
  rw [e4]; rfl
 have e2 : (AW N (k + 6)).q185 (PS Lr 0 0) = some (.inr (PS Lr j 0, x)) := Jf T (EO T hN (OE T (k := [97, 110, 100]) (by decide) (z := 4)) hn (by rw [if_neg (by rw [show Se Lf j [97, 110, 100] = false from off 4 (by simp [Bin])]; decide)]) e3)
 have e1 : (AW N (k + 7)).q145 (PS Lr 0 0) = some (.inr (PS Lr j 0, x)) := Jf T (EO T hN (OE T (k := [111, 114]) (by decide) (z := 5)) hn (by rw [if_neg (by rw [show Se Lf j [111, 114] = false from off 5 (by simp [Bin])]; decide)]) e2)
 have : BN N (PS Lr 0 0) = (AW N N).q145 (PS Lr 0 0) := rfl
 rw [this]
 have hq : ∀ K, K = k + 7 -> (AW N K).q145 (PS Lr 0 0) = some (.inr (PS Lr j 0, x)) := by rintro _ rfl; exact e1
 exact hq N hk
theorem Li {s : SZ} (hl : s.length <= 65536) (ht : CD N s = some Lr) {j : Nat} {x : Expr} (hp : BN N (PS Lr 0 0) = some (.inr (PS Lr j 0, x))) (hj : j < n) (he : Lf[j]?.map kt = some (5, [])) (hf : Fit N x) (hs : IH x = true) : A4 N s = some (x, 0, 0) := by
 unfold A4 Hn
 rw [decide_eq_false (by omega)]
 simp only [cond_false]
 rw [ht]
 simp only [Option.bind_some]
 obtain ⟨a0, b0, ha0, hb0, hc0, hd0, _, hat0⟩ := T.hd T.pos
 rw [List.drop_zero] at hc0
 unfold Dd Bv
 rw [show (⟨Lr, 0⟩ : Aa) = PS Lr 0 0 from by unfold PS; rw [List.drop_zero], hp, show (PS Lr 0 0).l_ = Lr from by unfold PS; rw [List.drop_zero], hc0]
 simp only [Option.bind_some]
 obtain ⟨a, b, ha, hb, hc, hd, _, hat⟩ := T.hd hj
 have hk := QE T hj ha hb
 rw [hb] at he
 simp only [Option.map_some, Option.some.injEq, kt, Prod.mk.injEq] at he
 simp only [sk, Option.bind_some]
 rw [show (PS Lr j 0).l_ = Lr.drop j from rfl, hc]
 simp only [Option.bind_some, hk, he.1]
 simp only [show ((5 : Int) != 5) = false from rfl, cond_false, Option.bind_some]
 have h1 : dp x <= 32 := by unfold IH at hs; simp at hs; exact hs.1
 rcases NC T (N := N) (i := j) (o := 0) (q := PS Lr j 0) hf a0.at_ 0 with ⟨h, _⟩ | ⟨_, h, _⟩ | ⟨_, _, _, c1, c2⟩
 ·omega
 ·rcases h with h | h
  ·exact absurd h (HB hs)
  ·exact absurd rfl h.1
 ·rw [c1]; rfl
end
theorem Mi {Lf : List Ae} {l : Tks} (h : Lf.map kt = l ++ [(5, [])]) : FT Lf 0 l /\ Lf[l.length]?.map kt = some (5, []) /\ Lf.length = l.length + 1 := by
 refine ⟨P9 (p := []) (m := [(5, [])]) (by rw [h]; rfl), ?_, ?_⟩
 ·rw [<- List.getElem?_map, h, List.getElem?_append_right (Nat.le_refl _), Nat.sub_self]; rfl
 ·have := congrArg List.length h
  simpa using this
theorem QX {x : Expr} (h : IH x = true) (hz : sz x <= 10000000) : dN x <= 32 := by
 unfold IH at h
 simp at h
 have := PN _ x (Nat.le_refl _) (by omega)
 omega
theorem O1 {N : Nat} (hN : 200000000 <= N) {x : Expr} (hf : Fit N x) (hs : IH x = true) (hz : sz x <= 10000000) {s : SZ} (hl : s.length <= 65536) (h : Tz s (tk x)) : A4 N s = some (x, 0, 0) := by
 obtain ⟨n, Lr, Lf, e1, T, hn, e2⟩ := NT (N := N) (by omega) (by omega) h
 obtain ⟨h1, h2, h3⟩ := Mi e2
 have hn2 := T.lf
 have hd := QX hs hz
 refine Li T hl e1 (j := 0 + (tk x).length) (PD T (by omega) (by omega) (HB hs) hd h1 (by omega) ?_) (by omega) ?_ hf hs
 ·rw [Nat.zero_add]; exact Kb h2 (Mj (.inr (.inr (.inl rfl)))) _
 ·rw [Nat.zero_add]; exact h2
theorem Ns {N : Nat} (hN : 200000000 <= N) {x : Expr} (hf : Fit N x) (hs : IH x = true) (hz : sz x <= 10000000) (h31 : dp x < 32) {s : SZ} (hl : s.length <= 65536) (h : Tz s ([(3, [40])] ++ tk x ++ [(3, [41])])) : A4 N s = some (x, 0, 0) := by
 obtain ⟨n, Lr, Lf, e1, T, hn, e2⟩ := NT (N := N) (by omega) (by omega) h
 obtain ⟨h1, h2, h3⟩ := Mi e2
 have hn2 := T.lf
 obtain ⟨z1, z3⟩ := BS h1
 obtain ⟨z1, z2⟩ := BS z1
 simp only [List.length_append, List.length_cons, List.length_nil, Nat.zero_add] at h2 h3 z2 z3
 have hd : dN x <= 31 := by
  have := PN _ x (Nat.le_refl _) (by omega)
  omega
 exact Li T hl e1 (j := 1 + (tk x).length + 1) (OD T (by omega) (by omega) (HB hs) hd z1.1 z2 (by omega) z3.1 (Kb h2 (Mj (.inr (.inr (.inl rfl)))) _)) (by omega) h2 hf hs
theorem MZ {a b c d : SZ} (h : Wd a b) (k : Wd c d) : Wd (a ++ c) (b ++ d) := by
 induction h with
 | nil => exact k
 | cons c _ ih => exact .cons c ih
 | more u hu _ ih => rw [List.append_assoc]; exact .more u hu ih
theorem Lw : ∀ a : SZ, Wd a a
 | [] => .nil
 | c :: a => .cons c (Lw a)










section
variable {N n : Nat} {Lr : List Ah} {Lf : List Ae} (T : JN n Lr Lf)
include T
abbrev StB : Type := List Ah × Int × List Clause × List Clause × List Clause × List Expr
abbrev QR (N : Nat) (Lr : List Ah) := DA N (PS Lr 0 0) Ma
def RuB (N : Nat) (Lr : List Ah) (d : Nat) (s t : StB) : Prop := ∀ M, AX (QR N Lr) (M + d) s = AX (QR N Lr) M t
end


def Eh (N : Nat) (x0 : Int) : Option SZ :=
 ((idx [([] : SZ), ([32] : SZ), ([9] : SZ), ([32, 9, 32] : SZ)] (Int.tmod x0 4)).bind fun x26 => some x26)
theorem JE : Aq Tryz.prog 34 := fun _ _ => by kernel_rfl
theorem KC (N : Nat) (w0 : World) (F0 : Mem) (hF : S1 w0 F0) (x0 : Int) (r : SZ) (h : Eh N x0 = some r) :
  Calls Tryz.prog 34 ([(.int .u8 x0)] : List Value).toArray w0 (AV w0 F0 fun F' v => v = (.string ⟨(r).toArray⟩)) := by
 have hs0 := SI hF
 refine Go 8 Tryz.func34 ?_
 refine Sq (Rg [0] ?_)
 refine Vs 1 ?_
 refine Nss (Rg [0, 1, 2, 3, 4, 5] ?_)
 refine Bs 9 [(.string ⟨(([] : SZ)).toArray⟩), (.string ⟨(([32] : SZ)).toArray⟩), (.string ⟨(([9] : SZ)).toArray⟩), (.string ⟨(([32, 9, 32] : SZ)).toArray⟩)] hs0 (fun b21 w22 hs23 => ?_)
 have hr25 : Av ES 9 F0 (some ⟨b21, 0, none⟩) 4 [([] : SZ), ([32] : SZ), ([9] : SZ), ([32, 9, 32] : SZ)] (some b21, .cells ([(.string ⟨(([] : SZ)).toArray⟩), (.string ⟨(([32] : SZ)).toArray⟩), (.string ⟨(([9] : SZ)).toArray⟩), (.string ⟨(([32, 9, 32] : SZ)).toArray⟩)] : List Value).toArray 9 (0, 0)) := SX ⟨rfl, ⟨rfl, ⟨rfl, ⟨rfl, rfl⟩⟩⟩⟩ (by simp)
 refine Vs 2 ?_
 obtain ⟨x26, hx27, h29⟩ := bind_some h
 obtain ⟨hi28, hx27'⟩ := Aw hx27
 obtain ⟨b30, C31, ha32, he33, hE34⟩ := Av.open hr25 hx27'
 cases ha32
 cases he33
 have hc36 := hE34 _ _ hx27'
 refine Ix0 hi28 ?_
 refine Lx 0 hs23.at0 hc36 ?_
 refine Vs 1 ?_
 refine Nt ?_
 refine Rt ?_
 obtain rfl := Ab h29
 exact Re [(.string ⟨(x26).toArray⟩)] hs23 rfl
def A9 (N : Nat) (x0 : Expr) (x1 : (List Int)) (r24 : Bool) (j35 : Bool) (r68 : (SZ × Int)) : (SZ × Int) -> Option (Bn Bool (SZ × Int)) := fun s92 =>
 (bif (decide (s92.2 < (r68.1.length : Int))) then (((ET r68.1 s92.2).bind fun c135 => (bif (c135 == 32) then some (decide (s92.2 < (x1.length : Int))) else some false)).bind fun j124 => ((bif j124 then ((idx x1 s92.2).bind fun x157 => ((Eh N x157).bind fun r171 => ((D2 s92.1 r171).bind fun r179 => some r179))) else some s92.1).bind fun j144 => ((FV r68.1 s92.2 (W64 (s92.2 + 1))).bind fun r182 => ((D2 j144 r182).bind fun r185 => some (.next (r185, (W64 (s92.2 + 1)))))))) else some (.done (s92.1, s92.2)))
def Cy (N : Nat) (x0 : Expr) (x1 : (List Int)) : Option Bool :=
 ((Gi N ).bind fun r24 => (((EN N x0).bind fun r43 => (bif (decide (r43 > 200)) then some true else (bif (decide ((x1.length : Int) > 400)) then some true else ((DM N x0).bind fun r57 => some (decide (r57 >= 32)))))).bind fun j35 => (bif j35 then some r24 else ((Cr N x0).bind fun r68 => (bif ((r68.2 != 0) || (decide ((r68.1.length : Int) > 3000))) then some r24 else ((AX (A9 N x0 x1 r24 j35 r68) N (([] : SZ), 0)).bind fun o => o.k (fun r => some r) (fun s103 => ((D2 ([32, 9] : SZ) s103.1).bind fun r191 => ((D2 r191 ([32] : SZ)).bind fun r194 => ((A4 N r194).bind fun r197 => ((D2 ([40] : SZ) r68.1).bind fun r210 => ((D2 r210 ([41] : SZ)).bind fun r213 => ((A4 N r213).bind fun r216 => ((bif r24 then (bif (r197.2.1 == 0) then (bif (r216.2.1 == 0) then ((EL N x0 r197.1).bind fun r246 => (bif r246 then ((EL N x0 r216.1).bind fun r257 => some r257) else some false)) else some false) else some false) else some false).bind fun j232 => some j232))))))))))))))
theorem GW (N : Nat) (w0 : World) (F0 : Mem) (hF : S1 w0 F0) (hG : CA F0) (x0 : Expr) (a0_2 : S0) (n0_2 : Nat) (hb0_2 : LC x0.Kids.length n0_2) (hs0_2 : SlA Ar F0 a0_2 x0.Kids) (x1 : (List Int)) (a1_0 : S0) (n1_0 : Nat) (hb1_0 : LC x1.length n1_0) (hs1_0 : SlA tU8 F0 a1_0 x1) (r : Bool) (h : Cy N x0 x1 = some r) :
  Calls Tryz.prog 6 ([(.agg (Ai x0 a0_2 n0_2)), (.slice a1_0 x1.length n1_0)] : List Value).toArray w0 (AV w0 F0 fun F' v => v = (.bool r)) := by
 have hs0 := SI hF
 refine Go 109 Tryz.func6 ?_
 refine Sq (Rg [0, 1] ?_)
 refine Bx' 33 (Ai x0 a0_2 n0_2) hs0 (fun b21 w22 hs23 => ?_)
 refine Vs 1 ?_
 refine Nss (Rg [0, 1] ?_)
 obtain ⟨r24, hr25, h26⟩ := bind_some h
 refine Cl' Kv hs23 (K0 N w22 F0 hs23.pers hG  _ hr25) ?_
 rintro _ F1 w28 hs29 le30 rfl
 refine Vs 1 ?_
 refine Nss ?_
 refine Sq (Rg [0, 1, 2, 3, 4, 5, 6, 7, 8, 9, 10, 11, 12] ?_)
 obtain ⟨j35, hj41, h42⟩ := bind_some h26
 refine SM (fun f w => ∃ (F2 : Mem), HS w0 F0 w F2 [(sb b21 (Ai x0 a0_2 n0_2) 33)] /\ SG F1 F2 /\ FI f [] [(1, (.slice a1_0 x1.length n1_0)), (2, (pt b21 0)), (5, (.bool r24)), (29, (.bool j35))]) ?_ ?_
 ·refine Ld hs29.at0 ?_
  obtain ⟨r43, hr44, h45⟩ := bind_some hj41
  refine Cl' Ku hs29 (KZ N w28 F1 hs29.pers x0 a0_2 n0_2 hb0_2 (SJ hs0_2 le30) _ hr44) ?_
  rintro _ F3 w47 hs48 le49 rfl
  refine Vs 2 ?_
  refine Sp h45 (fun hb51 h52 => ?_) (fun hb51 h53 => ?_)
  ·refine Ss hb51 3 ?_
   refine Pk1 hb51 ?_
   refine Vs 1 ?_
   refine Ss (rfl : true = true) 3 ?_
   refine Pk1 (rfl : true = true) ?_
   obtain rfl := Ab h52
   exact SC ⟨rfl, F3, hs48, le49, fI⟩
  ·refine Vgs hb51 3 ?_
   refine Pk0 hb51 ?_
   refine Vs 1 ?_
   refine Sp h53 (fun hb54 h55 => ?_) (fun hb54 h56 => ?_)
   ·refine Ss hb54 3 ?_
    refine Pk1 hb54 ?_
    obtain rfl := Ab h55
    exact SC ⟨rfl, F3, hs48, le49, fI⟩
   ·refine Lg hb54 hs48.at0 ?_
    obtain ⟨r57, hr58, h59⟩ := bind_some h56
    refine Cg hb54 Dk hs48 (E5 N w47 F3 hs48.pers x0 a0_2 n0_2 hb0_2 (SJ hs0_2 (le30.trans le49)) _ hr58) ?_
    rintro _ F4 w61 hs62 le63 rfl
    refine Vgs hb54 1 ?_
    refine Pk0 hb54 ?_
    obtain rfl := Ab h59
    exact SC ⟨rfl, F4, hs62, (le49.trans le63), fI⟩
 ·rintro f w32 ⟨F2, hs33, le34, ⟨_, rfl⟩⟩
  refine Ac ?_
  refine Cd h42 (fun hb65 h66 => ?_) (fun hb65 h67 => ?_)
  ·refine Sq (Rg [0, 1] ?_)
   refine Vs 2 ?_
   refine Nt ?_
   refine Rt ?_
   refine Aj ?_
   obtain rfl := Ab h66
   exact Re [(.bool r24)] hs33 rfl
  ·refine Sc ?_
   refine Ac ?_
   refine Sq (Rg [0, 1, 2, 3, 4, 5, 6] ?_)
   refine Ld hs33.at0 ?_
   obtain ⟨r68, hr69, h70⟩ := bind_some h67
   refine Cl' Ez hs33 (ER N w32 F2 hs33.pers (hG.mono (le30.trans le34)) x0 a0_2 n0_2 hb0_2 (SJ hs0_2 (le30.trans le34)) _ hr69) ?_
   rintro _ F5 w72 hs73 le74 rfl
   refine Vs 5 ?_
   refine Nss ?_
   refine Sq (Rg [0, 1, 2, 3, 4, 5, 6] ?_)
   refine SM (fun f w => ∃ (F6 : Mem), HS w0 F0 w F6 [(sb b21 (Ai x0 a0_2 n0_2) 33)] /\ SG F5 F6 /\ FI f [] [(1, (.slice a1_0 x1.length n1_0)), (2, (pt b21 0)), (5, (.bool r24)), (6, (.string ⟨(r68.1).toArray⟩)), (42, (.bool ((r68.2 != 0) || (decide ((r68.1.length : Int) > 3000)))))]) ?_ ?_
   ·refine Vs 3 ?_
    refine SL (r68.2 != 0) (fun hb85 => ?_) (fun hb85 => ?_)
    ·refine Ss hb85 3 ?_
     refine Pk1 hb85 ?_
     exact SC ⟨rfl, F5, hs73, (SH _), (fJ ⟨rfl, rfl, rfl, rfl, (congrArg Value.bool (FQ hb85 rfl)), trivial⟩)⟩
    ·refine Vgs hb85 3 ?_
     refine Pk0 hb85 ?_
     exact SC ⟨rfl, F5, hs73, (SH _), (fJ ⟨rfl, rfl, rfl, rfl, (congrArg Value.bool (B5 hb85 rfl)), trivial⟩)⟩
   ·rintro f w76 ⟨F6, hs77, le78, ⟨_, rfl⟩⟩
    refine Ac ?_
    refine Cd h70 (fun hb86 h87 => ?_) (fun hb86 h88 => ?_)
    ·refine Sq (Rg [0, 1] ?_)
     refine Vs 2 ?_
     refine Nt ?_
     refine Rt ?_
     refine Aj ?_
     obtain rfl := Ab h87
     exact Re [(.bool r24)] hs77 rfl
    ·refine Sc ?_
     refine Ac ?_
     refine Sq (Rg [0] ?_)
     refine Vs 1 ?_
     refine Nss ?_
     refine Sq (Rg [0] ?_)
     refine Vs 1 ?_
     refine Nt ?_
     obtain ⟨o89, ho90, h91⟩ := bind_some h88
     refine SN (fun f w => ∃ (s103 : (SZ × Int)) (F8 : Mem), o89 = .done s103 /\ HS w0 F0 w F8 [(sb b21 (Ai x0 a0_2 n0_2) 33)] /\ SG F6 F8 /\ FI f [] [(2, (pt b21 0)), (5, (.bool r24)), (6, (.string ⟨(r68.1).toArray⟩)), (8, (.string ⟨(s103.1).toArray⟩))]) ?_ ?_
     ·refine Bk ?_
      refine SF (by kernel_rfl) (fun m f w => ∃ (s92 : (SZ × Int)) (F7 : Mem), AX (A9 N x0 x1 r24 j35 r68) m s92 = some o89 /\ HS w0 F0 w F7 [(sb b21 (Ai x0 a0_2 n0_2) 33)] /\ SG F6 F7 /\ FI f [] [(1, (.slice a1_0 x1.length n1_0)), (2, (pt b21 0)), (5, (.bool r24)), (6, (.string ⟨(r68.1).toArray⟩)), (8, (.string ⟨(s92.1).toArray⟩)), (9, (vi s92.2))]) N ⟨(([] : SZ), 0), F6, ho90, hs77, (SH _), fI⟩ ?_
      rintro m112 f w93 ⟨s92, F7, hit113, hs94, le95, ⟨_, rfl⟩⟩
      obtain ⟨m114, fl115, rfl, hb116, hnx117⟩ := Bf hit113
      refine Sq ?_
      refine Sq (Rg [0, 1, 2, 3] ?_)
      refine Vs 4 ?_
      refine Nt ?_
      refine Cd hb116 (fun hb118 h119 => ?_) (fun hb118 h120 => ?_)
      ·refine Sc ?_
       refine Ac ?_
       refine Sq ?_
       refine Bk ?_
       refine Sq ?_
       refine Sq (Rg [0, 1, 2, 3, 4, 5, 6, 7, 8, 9] ?_)
       obtain ⟨j124, hj133, h134⟩ := bind_some h119
       refine SM (fun f w => ∃ (F9 : Mem), HS w0 F0 w F9 [(sb b21 (Ai x0 a0_2 n0_2) 33)] /\ SG F7 F9 /\ FI f [] [(1, (.slice a1_0 x1.length n1_0)), (2, (pt b21 0)), (5, (.bool r24)), (6, (.string ⟨(r68.1).toArray⟩)), (8, (.string ⟨(s92.1).toArray⟩)), (9, (vi s92.2)), (59, (.bool j124))]) ?_ ?_
       ·refine Vs 2 ?_
        obtain ⟨c135, hr136, h137⟩ := bind_some hj133
        refine V 52 5 (HG (t := 9) (x := (.tmp 50)) (y := (.tmp 51)) (a := r68.1) (k := .i64) (i := s92.2) (v := c135) rfl rfl (by kernel_rfl) hr136) ?_
        refine Vs 2 ?_
        refine Sp h137 (fun hb138 h139 => ?_) (fun hb138 h140 => ?_)
        ·refine Vgs hb138 4 ?_
         refine Pk1 hb138 ?_
         obtain rfl := Ab h139
         exact SC ⟨rfl, F7, hs94, (SH _), fI⟩
        ·refine Ss hb138 4 ?_
         refine Pk0 hb138 ?_
         obtain rfl := Ab h140
         exact SC ⟨rfl, F7, hs94, (SH _), fI⟩
       ·rintro f w121 ⟨F9, hs122, le123, ⟨_, rfl⟩⟩
        refine Ac ?_
        obtain ⟨j144, hj152, h153⟩ := bind_some h134
        refine SN (fun f w => ∃ (F10 : Mem), HS w0 F0 w F10 [(sb b21 (Ai x0 a0_2 n0_2) 33)] /\ SG F9 F10 /\ FI f [] [(1, (.slice a1_0 x1.length n1_0)), (2, (pt b21 0)), (5, (.bool r24)), (6, (.string ⟨(r68.1).toArray⟩)), (8, (.string ⟨(j144).toArray⟩)), (9, (vi s92.2))]) ?_ ?_
        ·refine Cd hj152 (fun hb154 h155 => ?_) (fun hb154 h156 => ?_)
         ·refine Rg [0, 1, 2, 3, 4, 5, 6, 7] ?_
          refine Vs 3 ?_
          obtain ⟨x157, hx158, h160⟩ := bind_some h155
          obtain ⟨hi159, hx158'⟩ := Aw hx158
          obtain ⟨b161, o162, C163, E164, fz165, rfl, hF167, hE168⟩ := SQ (SJ hs1_0 (((((le30.trans le34).trans le74).trans le78).trans le95).trans le123)) hx158'
          have hc170 := hE168 _ _ hx158'
          refine Ix hi159 ?_
          refine Lx 0 (hs122.pers _ _ hF167) hc170 ?_
          obtain ⟨r171, hr172, h173⟩ := bind_some h160
          refine Cl' JE hs122 (KC N w121 F9 hs122.pers x157 _ hr172) ?_
          rintro _ F11 w175 hs176 le177 rfl
          obtain ⟨r179, hr180, h181⟩ := bind_some h173
          refine V 66 9 (Bq (t := 9) (t' := 9) (x := (.tmp 60)) (y := (.tmp 65)) (a := s92.1) (b := r171) (v := r179) rfl rfl hr180) ?_
          refine Vs 1 ?_
          refine SC ?_
          obtain rfl := Ab h181
          exact .inl ⟨rfl, F11, hs176, le177, fI⟩
         ·refine Sc ?_
          obtain rfl := Ab h156
          exact .inl ⟨rfl, F9, hs122, (SH _), fI⟩
        ·rintro f w141 ⟨F10, hs142, le143, ⟨_, rfl⟩⟩
         refine Ac ?_
         refine Rg [0, 1, 2, 3, 4, 5, 6, 7] ?_
         refine Vs 5 ?_
         obtain ⟨r182, hr183, h184⟩ := bind_some h153
         refine V 72 9 (HF (t := 9) (x := (.tmp 68)) (lo := (some (.tmp 69))) (hi := (some (.tmp 71))) (a := r68.1) (il := s92.2) (ih := (W64 (s92.2 + 1))) (v := r182) rfl (by kernel_rfl) rfl rfl hr183) ?_
         obtain ⟨r185, hr186, h187⟩ := bind_some h184
         refine V 73 9 (Bq (t := 9) (t' := 9) (x := (.tmp 67)) (y := (.tmp 72)) (a := j144) (b := r182) (v := r185) rfl rfl hr186) ?_
         refine Vs 1 ?_
         refine SC ?_
         refine Ax ?_
         refine Ac ?_
         refine Rg [0, 1, 2] ?_
         refine Vs 3 ?_
         refine SC ?_
         have hn188 := A8 h187 hnx117
         exact ⟨m114, Nat.lt_succ_self _, (r185, (W64 (s92.2 + 1))), F10, hn188, hs142, ((le95.trans le123).trans le143), fI⟩
      ·refine Ex ?_
       refine AF ?_
       refine AF ?_
       refine AZ rfl ?_
       have ho189 := Bm h120 hnx117
       exact .inl ⟨rfl, (s92.1, s92.2), F7, ho189, hs94, le95, fI⟩
     ·rintro f w104 ⟨s103, F8, rfl, hs105, le106, ⟨_, rfl⟩⟩
      have h190 := Cu h91
      refine Ac ?_
      refine Sq (Rg [0, 1, 2, 3, 4, 5, 6, 7, 8, 9, 10, 11] ?_)
      refine Vs 1 ?_
      obtain ⟨r191, hr192, h193⟩ := bind_some h190
      refine V 76 9 (Bq (t := 9) (t' := 9) (x := (.const (.string ⟨([32, 9] : SZ).toArray⟩))) (y := (.tmp 75)) (a := ([32, 9] : SZ)) (b := s103.1) (v := r191) rfl rfl hr192) ?_
      obtain ⟨r194, hr195, h196⟩ := bind_some h193
      refine V 77 9 (Bq (t := 9) (t' := 9) (x := (.tmp 76)) (y := (.const (.string ⟨([32] : SZ).toArray⟩))) (a := r191) (b := ([32] : SZ)) (v := r194) rfl rfl hr195) ?_
      obtain ⟨r197, hr198, h199⟩ := bind_some h196
      refine Cl' Cn hs105 (Cz N w104 F8 hs105.pers (hG.mono ((((le30.trans le34).trans le74).trans le78).trans le106)) r194 _ hr198) ?_
      rintro _ F12 w201 hs202 le203 ⟨ar197_0_2, nr197_0_2, rfl, hbr197_0_2, hsr197_0_2⟩
      refine Vs 4 ?_
      refine Al' 33 #[(vi 0), (vi 0), (.slice none ([] : List Expr).length 0)] hs202 (fun b205 w206 hs207 => ?_)
      refine St0 (Ai r197.1 ar197_0_2 nr197_0_2) hs207 (fun w208 hs209 => ?_)
      refine Vs 2 ?_
      refine Nss (Rg [0, 1, 2, 3, 4, 5, 6, 7, 8, 9, 10, 11] ?_)
      refine Vs 1 ?_
      obtain ⟨r210, hr211, h212⟩ := bind_some h199
      refine V 84 9 (Bq (t := 9) (t' := 9) (x := (.const (.string ⟨([40] : SZ).toArray⟩))) (y := (.tmp 83)) (a := ([40] : SZ)) (b := r68.1) (v := r210) rfl rfl hr211) ?_
      obtain ⟨r213, hr214, h215⟩ := bind_some h212
      refine V 85 9 (Bq (t := 9) (t' := 9) (x := (.tmp 84)) (y := (.const (.string ⟨([41] : SZ).toArray⟩))) (a := r210) (b := ([41] : SZ)) (v := r213) rfl rfl hr214) ?_
      obtain ⟨r216, hr217, h218⟩ := bind_some h215
      refine Cl' Cn hs209 (Cz N w208 F12 hs209.pers (hG.mono (((((le30.trans le34).trans le74).trans le78).trans le106).trans le203)) r213 _ hr217) ?_
      rintro _ F13 w220 hs221 le222 ⟨ar216_0_2, nr216_0_2, rfl, hbr216_0_2, hsr216_0_2⟩
      refine Vs 4 ?_
      refine Al' 33 #[(vi 0), (vi 0), (.slice none ([] : List Expr).length 0)] hs221 (fun b224 w225 hs226 => ?_)
      refine St0 (Ai r216.1 ar216_0_2 nr216_0_2) hs226 (fun w227 hs228 => ?_)
      refine Vs 2 ?_
      refine Nss (Rg [0, 1, 2, 3, 4, 5, 6, 7, 8, 9, 10, 11, 12, 13, 14, 15, 16, 17, 18, 19] ?_)
      obtain ⟨j232, hj235, h236⟩ := bind_some h218
      refine SM (fun f w => ∃ (F14 : Mem), HS w0 F0 w F14 [] /\ SG F13 F14 /\ FI f [] [(4, (.bool j232))]) ?_ ?_
      ·refine Vs 2 ?_
       refine Sp hj235 (fun hb237 h238 => ?_) (fun hb237 h239 => ?_)
       ·refine Vgs hb237 2 ?_
        refine Pk1 hb237 ?_
        refine Vs 1 ?_
        refine Sp h238 (fun hb240 h241 => ?_) (fun hb240 h242 => ?_)
        ·refine Vgs hb240 2 ?_
         refine Pk1 hb240 ?_
         refine Vs 1 ?_
         refine Sp h241 (fun hb243 h244 => ?_) (fun hb243 h245 => ?_)
         ·refine Lg hb243 hs228.at2 ?_
          refine Lg hb243 hs228.at1 ?_
          obtain ⟨r246, hr247, h248⟩ := bind_some h244
          refine Cg hb243 EA hs228 (Hg N w227 F13 hs228.pers x0 a0_2 n0_2 hb0_2 (SJ hs0_2 ((((((le30.trans le34).trans le74).trans le78).trans le106).trans le203).trans le222)) r197.1 ar197_0_2 nr197_0_2 hbr197_0_2 (SJ hsr197_0_2 le222) _ hr247) ?_
          rintro _ F15 w250 hs251 le252 rfl
          refine Pk1 hb243 ?_
          refine Vs 1 ?_
          refine Sp h248 (fun hb254 h255 => ?_) (fun hb254 h256 => ?_)
          ·refine Lg hb254 hs251.at2 ?_
           refine Lg hb254 hs251.at0 ?_
           obtain ⟨r257, hr258, h259⟩ := bind_some h255
           refine Cg hb254 EA hs251 (Hg N w250 F15 hs251.pers x0 a0_2 n0_2 hb0_2 (SJ hs0_2 (((((((le30.trans le34).trans le74).trans le78).trans le106).trans le203).trans le222).trans le252)) r216.1 ar216_0_2 nr216_0_2 hbr216_0_2 (SJ hsr216_0_2 le252) _ hr258) ?_
           rintro _ F16 w261 hs262 le263 rfl
           refine Pk1 hb254 ?_
           refine Vs 1 ?_
           obtain rfl := Ab h259
           exact SC ⟨rfl, F16, hs262.dr0.dr0.dr0, (le252.trans le263), fI⟩
          ·refine Ss hb254 3 ?_
           refine Pk0 hb254 ?_
           refine Vs 1 ?_
           obtain rfl := Ab h256
           exact SC ⟨rfl, F15, hs251.dr0.dr0.dr0, le252, fI⟩
         ·refine Ss hb243 3 ?_
          refine Pk0 hb243 ?_
          refine Vs 1 ?_
          refine Ss (rfl : false = false) 3 ?_
          refine Pk0 (rfl : false = false) ?_
          refine Vs 1 ?_
          obtain rfl := Ab h245
          exact SC ⟨rfl, F13, hs228.dr0.dr0.dr0, (SH _), fI⟩
        ·refine Ss hb240 2 ?_
         refine Pk0 hb240 ?_
         refine Vs 1 ?_
         refine Ss (rfl : false = false) 3 ?_
         refine Pk0 (rfl : false = false) ?_
         refine Vs 1 ?_
         refine Ss (rfl : false = false) 3 ?_
         refine Pk0 (rfl : false = false) ?_
         refine Vs 1 ?_
         obtain rfl := Ab h242
         exact SC ⟨rfl, F13, hs228.dr0.dr0.dr0, (SH _), fI⟩
       ·refine Ss hb237 2 ?_
        refine Pk0 hb237 ?_
        refine Vs 1 ?_
        refine Ss (rfl : false = false) 2 ?_
        refine Pk0 (rfl : false = false) ?_
        refine Vs 1 ?_
        refine Ss (rfl : false = false) 3 ?_
        refine Pk0 (rfl : false = false) ?_
        refine Vs 1 ?_
        refine Ss (rfl : false = false) 3 ?_
        refine Pk0 (rfl : false = false) ?_
        refine Vs 1 ?_
        obtain rfl := Ab h239
        exact SC ⟨rfl, F13, hs228.dr0.dr0.dr0, (SH _), fI⟩
      ·rintro f w229 ⟨F14, hs230, le231, ⟨_, rfl⟩⟩
       refine Ac ?_
       refine Rt ?_
       obtain rfl := Ab h236
       exact Re [(.bool j232)] hs230 rfl

theorem Pq {N : Nat} {x : Int} (h : rU8 x) : ∃ u, Eh N x = some u /\ u.length <= 3 /\ ∀ c, c ∈ u -> Df c = true := by
 obtain ⟨h0, h1⟩ := h
 obtain ⟨n, rfl⟩ : ∃ n : Nat, x = (n : Int) := ⟨x.toNat, by omega⟩
 unfold Eh
 rw [show Int.tmod (n : Int) 4 = ((n % 4 : Nat) : Int) from rfl]
 have : n % 4 = 0 \/ n % 4 = 1 \/ n % 4 = 2 \/ n % 4 = 3 := by omega
 rcases this with e | e | e | e <;> rw [e]
 ·exact ⟨[], rfl, by decide, by decide⟩
 ·exact ⟨[32], rfl, by decide, by decide⟩
 ·exact ⟨[9], rfl, by decide, by decide⟩
 ·exact ⟨[32, 9, 32], rfl, by decide, by decide⟩
section
variable {N : Nat}
theorem Oq {x : Expr} {l : List Int} (hl : ∀ v, v ∈ l -> rU8 v) {s : SZ} (hs : s.length <= 3000) (hN : 10000 < N) (r24 j35 : Bool) :
  ∃ w, AX (A9 N x l r24 j35 (s, 0)) N (([] : SZ), 0) = some (.done (w, (s.length : Int))) /\ Wd s w /\ w.length <= 4 * s.length := by
 obtain ⟨o, ho, w, rfl, hw⟩ := Ik (body := A9 N x l r24 j35 (s, 0)) s.length (fun i st => ∃ w, st = (w, (i : Int)) /\ Wd (s.take i) w /\ w.length <= 4 * i) (fun o => ∃ w, o = .done (w, (s.length : Int)) /\ Wd s w /\ w.length <= 4 * s.length) (by
  rintro i st hi ⟨w, rfl, hw, hlen⟩
  by_cases h : i < s.length
  ·left
   have htake : s.take (i + 1) = s.take i ++ [s[i]] := by rw [List.take_succ_eq_append_getElem h]
   have hidx := El (List.getElem?_eq_getElem h)
   have hsub : FV s (i : Int) (W64 ((i : Int) + 1)) = some [s[i]] := by rw [CI (by omega)]; exact JT (List.getElem?_eq_getElem h)
   by_cases hb : s[i] = 32 /\ i < l.length
   ·obtain ⟨u, hu, hul, huw⟩ := Pq (N := N) (hl _ (List.getElem_mem hb.2))
    refine ⟨(w ++ u ++ [s[i]], ((i + 1 : Nat) : Int)), ?_, ⟨_, rfl, ?_, by simp; omega⟩, h⟩
    ·unfold A9
     simp only
     rw [HO h, cond_true, hidx, Option.bind_some, show ((s[i].toNat : Int) == 32) = true by rw [hb.1]; rfl, cond_true, Option.bind_some, HO hb.2, cond_true, DK hb.2, Option.bind_some, hu, Option.bind_some, BM (by omega), Option.bind_some, Option.bind_some, hsub, Option.bind_some, BM (by simp; omega), Option.bind_some, CI (by omega)]
    ·rw [htake, List.append_assoc, hb.1]
     exact MZ hw (.more u huw .nil)
   ·refine ⟨(w ++ [s[i]], ((i + 1 : Nat) : Int)), ?_, ⟨_, rfl, ?_, by simp; omega⟩, h⟩
    ·unfold A9
     simp only
     have hno : ((bif ((s[i].toNat : Int) == 32) then some (decide ((i : Int) < (l.length : Int))) else some false) : Option Bool) = some false := by
      by_cases hc : s[i] = 32
      ·have : ¬ i < l.length := fun h' => hb ⟨hc, h'⟩
       rw [hc, show (((32 : UInt8).toNat : Int) == 32) = true from rfl, cond_true, decide_eq_false (by omega)]
      ·have : ((s[i].toNat : Int) == 32) = false := by
        rw [show ((32 : Int)) = (((32 : UInt8).toNat : Nat) : Int) from rfl, FE]; simpa using hc
       rw [this, cond_false]
     rw [HO h, cond_true, hidx, Option.bind_some, hno, Option.bind_some, cond_false, Option.bind_some, hsub, Option.bind_some, BM (by simp; omega), Option.bind_some, CI (by omega)]
    ·rw [htake]
     exact MZ hw (Lw _)
  ·right
   have : i = s.length := by omega
   subst this
   rw [List.take_length] at hw
   refine ⟨.done (w, (s.length : Int)), ?_, (fun _ h => by cases h), w, rfl, hw, hlen⟩
   unfold A9
   simp only
   rw [Jx, cond_false]) s.length N 0 _ (by omega) ⟨[], rfl, .nil, by simp⟩ (by omega)
 exact ⟨w, ho, hw⟩
theorem LW (hN : 200000000 <= N) {x : Expr} {l : List Int} (hl : ∀ v, v ∈ l -> rU8 v) (hx : Fit N x) (hz : sz x <= 1048576) : Cy N x l = some true := by
 unfold Cy Gi
 rw [Option.bind_some, Qc hx, Option.bind_some, LH hx, Mn hx (by omega)]
 simp only [Option.bind_some]
 have hg : ∃ g, ((bif decide (nd x > 200) then some true else (bif decide ((l.length : Int) > 400) then some true else some (decide (dp x >= 32)))) : Option Bool) = some g /\ (g = false -> dp x < 32) := by
  cases decide (nd x > 200)
  ·cases decide ((l.length : Int) > 400)
   ·exact ⟨_, rfl, fun h => by simpa using h⟩
   ·exact ⟨_, rfl, fun h => by cases h⟩
  ·exact ⟨_, rfl, fun h => by cases h⟩
 obtain ⟨g, hg, hg2⟩ := hg
 rw [hg]
 simp only [Option.bind_some]
 cases g with
 | true => rfl
 | false =>
  have hdp := hg2 rfl
  simp only [cond_false]
  unfold prx
  by_cases hs : IH x = true
  ·rw [if_pos hs]
   by_cases hlen : (pr x).length > 3000
   ·rw [show (((pr x, (0 : Int)).2 != 0) || decide (((pr x, (0 : Int)).1.length : Int) > 3000)) = true by simp; omega]; rfl
   ·rw [show (((pr x, (0 : Int)).2 != 0) || decide (((pr x, (0 : Int)).1.length : Int) > 3000)) = false by simp; omega]
    simp only [cond_false]
    obtain ⟨w, hw, hwd, hwl⟩ := Oq (N := N) (x := x) hl (s := pr x) (by omega) (by omega) true false
    rw [hw]
    simp only [Option.bind_some, Bn.k]
    have hk := HB hs
    have tzp := JR _ x (Nat.le_refl _) hk
    have t1 : Tz ([32, 9] ++ w ++ [32]) (tk x) := by
     have h1 := tzp [32] [] rfl (.ws (by decide) .nil)
     rw [List.append_nil] at h1
     have h2 := Rz h1 (MZ hwd (Lw [32]))
     have : ([32, 9] : SZ) ++ w ++ [32] = 32 :: 9 :: (w ++ [32]) := by simp
     rw [this]
     exact .ws (by decide) (.ws (by decide) h2)
    have t2 : Tz ([40] ++ pr x ++ [41]) ([(3, [40])] ++ tk x ++ [(3, [41])]) :=
     (((TzS.sign (c := 40) (by decide) (by decide)).appK tzp).app (TzS.sign (c := 41) (by decide) (by decide)) (by decide) (by decide)).tz
    rw [BM (by simp; omega), Option.bind_some, BM (by simp; omega), Option.bind_some, O1 hN hx hs (by omega) (by simp; omega) t1, Option.bind_some, BM (by simp; omega), Option.bind_some, BM (by simp; omega), Option.bind_some,
     Ns hN hx hs (by omega) hdp (by simp; omega) t2]
    simp only [Option.bind_some]
    rw [Qe hx, MN]; rfl
  ·rw [if_neg hs]; rfl
end
theorem NE (x : Expr) (l : List Int) (h1 : MC x) (h2 : sz x <= 1048576) (h3 : l.length < 9223372036854775808 /\ ∀ c, c ∈ l -> rU8 c) (_ : (l.map (fun _ => 1)).sum + 1 <= 1048576) : ∃ N, Cy N x l = some true := by
 obtain ⟨c, hc⟩ := Rm h1
 exact ⟨c + 200000000, LW (by omega) h3.2 (hc _ (by omega)) (by omega)⟩
end Go.Proofs.YtaihlcdkcampbaaGreatDoor
