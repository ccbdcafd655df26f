/- Lemmas of the claim RulesShortUpto, printed by a program of the claimant and by hand. No statement of the seat is proved here. -/
import Derived.Test.YtaihlcdkcampbaaGreatDoorE20x3
set_option linter.unusedVariables false
set_option linter.unusedSimpArgs false
set_option linter.unusedSectionVars false
set_option maxHeartbeats 4000000
set_option maxRecDepth 100000
namespace Go.Proofs.YtaihlcdkcampbaaGreatDoor
def Dm (N : Nat) (x0 : Ab) : Option (Aj ⊕ Ab) :=
 ((idx x0.l_ 0).bind fun x21 => (((AP N x0 ([40] : Sx)).bind fun r45 => (bif r45 then some (x0.open_ == 32) else some false)).bind fun j38 => (bif j38 then ((AQ N x0 2 x21.at_).bind fun r58 => sk r58 (fun b63 => some (.inl b63)) (fun r61 => none)) else ((A4 N x0 ([40] : Sx)).bind fun r69 => sk r69 (fun b81 => some (.inl b81)) (fun r72 => some (.inr ({ l_ := r72.l_, open_ := (W64 (r72.open_ + 1)) } : Ab)))))))
theorem DI : An Tryz.prog 249 := fun _ _ => by kernel_rfl
theorem Ed (N : Nat) {wb w0 : World} {Fb F0 : Mem} {Lf : Own} (bp0 : Nat) (x0 : Ab) (a0_0 : Sy) (n0_0 : Nat) (hb0_0 : LC x0.l_.length n0_0) (hs0_0 : SlA Ag F0 a0_0 x0.l_) (hs0 : HS wb Fb w0 F0 ((sb bp0 (Ad x0 a0_0 n0_0) 100) :: Lf)) (r : (Aj ⊕ Ab)) (h : Dm N x0 = some r) :
  Calls Tryz.prog 249 ([(pt bp0 0)] : List Value).toArray w0 (BH wb Fb F0 Lf r (fun b => (.iface 158 (.agg (AH b)))) fun a F' v L' => ∃ (aq0_0 : Sy) (nq0_0 : Nat), v = (.tuple #[]) /\ L' = (sb bp0 (Ad a aq0_0 nq0_0) 100) :: Lf /\ LC a.l_.length nq0_0 /\ SlA Ag F' aq0_0 a.l_) := by
 refine Go 31 Tryz.func249 ?_
 refine Sq ?_
 refine Sq (Rg [0, 1, 2, 3, 4, 5, 6, 7] ?_)
 refine Vs 3 ?_
 refine Ld hs0.at0 ?_
 obtain ⟨x21, hx22, h24⟩ := bind_some h
 obtain ⟨hi23, hx22'⟩ := Ay hx22
 obtain ⟨b25, o26, C27, E28, fz29, rfl, hF31, hE32⟩ := Sh hs0_0 hx22'
 have hc34 := hE32 _ _ hx22'
 refine Ix hi23 ?_
 refine Vs 1 ?_
 refine Lx 1 (hs0.pers _ _ hF31) hc34 ?_
 refine Vs 1 ?_
 refine Nss (Rg [0, 1, 2, 3, 4, 5, 6, 7, 8] ?_)
 obtain ⟨j38, hj43, h44⟩ := bind_some h24
 refine Sb (fun f w => ∃ (F1 : Mem), HS wb Fb w F1 ((sb bp0 (Ad x0 (some ⟨b25, o26, none⟩) n0_0) 100) :: Lf) /\ R5 F0 F1 /\ FI f [] [(0, (pt bp0 0)), (2, (vi x21.at_)), (18, (.bool j38))]) ?_ ?_
 ·refine Vs 1 ?_
  obtain ⟨r45, hr46, h47⟩ := bind_some hj43
  refine CB Ch (Co N bp0 x0 (some ⟨b25, o26, none⟩) n0_0 hb0_0 hs0_0 (([40] : Sx)) hs0 _ hr46) ?_
  rintro _ F2 w48 _ hs49 le50 ⟨rfl, rfl⟩
  refine Vs 1 ?_
  refine Sp h47 (fun hb52 h53 => ?_) (fun hb52 h54 => ?_)
  ·refine Vgs hb52 3 ?_
   refine Lg hb52 hs49.at0 ?_
   refine Vgs hb52 1 ?_
   refine Pk1 hb52 ?_
   obtain rfl := Aa h53
   exact RY ⟨rfl, F2, hs49, le50, fI⟩
  ·refine Ss hb52 5 ?_
   refine Pk0 hb52 ?_
   obtain rfl := Aa h54
   exact RY ⟨rfl, F2, hs49, le50, fI⟩
 ·rintro f w35 ⟨F1, hs36, le37, ⟨_, rfl⟩⟩
  refine Ac ?_
  refine Cd h44 (fun hb55 h56 => ?_) (fun hb55 h57 => ?_)
  ·refine Rg [0, 1, 2] ?_
   refine Vs 2 ?_
   obtain ⟨r58, hr59, h60⟩ := bind_some h56
   refine CP AK (AM N bp0 x0 (some ⟨b25, o26, none⟩) n0_0 hb0_0 (R8 hs0_0 le37) 2 x21.at_ hs36 _ hr59) ?_ ?_
   ·rintro _ _ _ _ _ rfl _ _ _; cases hr59
   ·rintro b63 F4 w64 rfl hs65 le66
    have h67 := Bn h60
    refine Ak ?_
    obtain rfl := Aa h67
    exact Cw hs65 (le37.trans le66)
  ·refine Sc ?_
   refine Ac ?_
   refine Sq (Rg [0, 1] ?_)
   refine Vs 1 ?_
   obtain ⟨r69, hr70, h71⟩ := bind_some h57
   refine CP A1 (A5 N bp0 x0 (some ⟨b25, o26, none⟩) n0_0 hb0_0 (R8 hs0_0 le37) (([40] : Sx)) hs36 _ hr70) ?_ ?_
   ·rintro r72 _ F5 w74 _ rfl hs75 le76 ⟨ar72_0_0, nr72_0_0, rfl, rfl, hbr72_0_0, hsr72_0_0⟩
    have h78 := BU h71
    refine Nt ?_
    refine Rg [0, 1, 2, 3, 4, 5, 6, 7] ?_
    refine Vs 3 ?_
    refine Ld hs75.at0 ?_
    refine Vs 3 ?_
    refine St0 #[(.slice ar72_0_0 r72.l_.length nr72_0_0), (vi (W64 (r72.open_ + 1)))] hs75 (fun w79 hs80 => ?_)
    refine RY ?_
    obtain rfl := Aa h78
    exact ReP [] hs80 (le37.trans le76) ⟨ar72_0_0, nr72_0_0, rfl, rfl, hbr72_0_0, hsr72_0_0⟩
   ·rintro b81 F6 w82 rfl hs83 le84
    have h85 := Bn h71
    refine Ak ?_
    obtain rfl := Aa h85
    exact Cw hs83 (le37.trans le84)
def Dh (N : Nat) (x0 : Ab) : Option (Aj ⊕ Ab) :=
 ((A4 N x0 ([41] : Sx)).bind fun r21 => sk r21 (fun b33 => some (.inl b33)) (fun r24 => some (.inr ({ l_ := r24.l_, open_ := (W64 (r24.open_ - 1)) } : Ab))))
theorem DH : An Tryz.prog 250 := fun _ _ => by kernel_rfl
theorem Ec (N : Nat) {wb w0 : World} {Fb F0 : Mem} {Lf : Own} (bp0 : Nat) (x0 : Ab) (a0_0 : Sy) (n0_0 : Nat) (hb0_0 : LC x0.l_.length n0_0) (hs0_0 : SlA Ag F0 a0_0 x0.l_) (hs0 : HS wb Fb w0 F0 ((sb bp0 (Ad x0 a0_0 n0_0) 100) :: Lf)) (r : (Aj ⊕ Ab)) (h : Dh N x0 = some r) :
  Calls Tryz.prog 250 ([(pt bp0 0)] : List Value).toArray w0 (BH wb Fb F0 Lf r (fun b => (.iface 158 (.agg (AH b)))) fun a F' v L' => ∃ (aq0_0 : Sy) (nq0_0 : Nat), v = (.tuple #[]) /\ L' = (sb bp0 (Ad a aq0_0 nq0_0) 100) :: Lf /\ LC a.l_.length nq0_0 /\ SlA Ag F' aq0_0 a.l_) := by
 refine Go 11 Tryz.func250 ?_
 refine Sq (Rg [0, 1] ?_)
 refine Vs 1 ?_
 obtain ⟨r21, hr22, h23⟩ := bind_some h
 refine CP A1 (A5 N bp0 x0 a0_0 n0_0 hb0_0 hs0_0 (([41] : Sx)) hs0 _ hr22) ?_ ?_
 ·rintro r24 _ F1 w26 _ rfl hs27 le28 ⟨ar24_0_0, nr24_0_0, rfl, rfl, hbr24_0_0, hsr24_0_0⟩
  have h30 := BU h23
  refine Nt ?_
  refine Rg [0, 1, 2, 3, 4, 5, 6, 7] ?_
  refine Vs 3 ?_
  refine Ld hs27.at0 ?_
  refine Vs 3 ?_
  refine St0 #[(.slice ar24_0_0 r24.l_.length nr24_0_0), (vi (W64 (r24.open_ - 1)))] hs27 (fun w31 hs32 => ?_)
  refine RY ?_
  obtain rfl := Aa h30
  exact ReP [] hs32 le28 ⟨ar24_0_0, nr24_0_0, rfl, rfl, hbr24_0_0, hsr24_0_0⟩
 ·rintro b33 F2 w34 rfl hs35 le36
  have h37 := Bn h23
  refine Ak ?_
  obtain rfl := Aa h37
  exact Cw hs35 le36
def El (N : Nat) (sR145 : Ab -> Option (Aj ⊕ (Ab × Expr))) (x0 : Ab) : Option (Aj ⊕ (Ab × Expr)) :=
 ((idx x0.l_ 0).bind fun x24 => (((Gh N ).bind fun r56 => ((CJ N r56 x24.text_).bind fun r64 => some r64)).bind fun j48 => (bif (x24.kind_ == 1) then ((FD N x24.text_).bind fun r75 => (bif (r75.2 || ((decide ((x24.text_.length : Int) > 7)) || (decide (r75.1 > 1000000)))) then ((AQ N x0 60 x24.at_).bind fun r97 => sk r97 (fun b102 => some (.inl b102)) (fun r100 => none)) else ((sub x0.l_ 1 (x0.l_.length : Int)).bind fun r108 => some (.inr (({ l_ := r108, open_ := x0.open_ } : Ab), ({ Op := 1, Value := r75.1, Kids := ([] : List Expr) } : Expr)))))) else (bif ((x24.kind_ == 2) && (decide (j48 >= 0))) then ((sub x0.l_ 1 (x0.l_.length : Int)).bind fun r133 => some (.inr (({ l_ := r133, open_ := x0.open_ } : Ab), ({ Op := 2, Value := j48, Kids := ([] : List Expr) } : Expr)))) else ((Ar N x0 ([105, 102] : Sx)).bind fun r145 => (bif r145.2 then ((Dm N r145.1).bind fun r155 => sk r155 (fun b291 => some (.inl b291)) (fun r158 => ((sR145 r158).bind fun r165 => sk r165 (fun b285 => some (.inl b285)) (fun r168 => ((A4 N r168.1 ([44] : Sx)).bind fun r180 => sk r180 (fun b279 => some (.inl b279)) (fun r183 => ((sR145 r183).bind fun r190 => sk r190 (fun b273 => some (.inl b273)) (fun r193 => ((A4 N r193.1 ([44] : Sx)).bind fun r206 => sk r206 (fun b267 => some (.inl b267)) (fun r209 => ((sR145 r209).bind fun r216 => sk r216 (fun b261 => some (.inl b261)) (fun r219 => ((Dh N r219.1).bind fun r232 => sk r232 (fun b254 => some (.inl b254)) (fun r235 => some (.inr (r235, ({ Op := 11, Value := 0, Kids := [r168.2, r193.2, r219.2] } : Expr))))))))))))))))) else ((AP N r145.1 ([40] : Sx)).bind fun r297 => (bif r297 then ((Dm N r145.1).bind fun r307 => sk r307 (fun b356 => some (.inl b356)) (fun r310 => ((sR145 r310).bind fun r317 => sk r317 (fun b350 => some (.inl b350)) (fun r320 => ((Dh N r320.1).bind fun r332 => sk r332 (fun b344 => some (.inl b344)) (fun r335 => some (.inr (r335, r320.2)))))))) else ((AQ N r145.1 60 x24.at_).bind fun r362 => sk r362 (fun b367 => some (.inl b367)) (fun r365 => none))))))))))
theorem GR (N : Nat) (sR145 : Ab -> Option (Aj ⊕ (Ab × Expr))) (hsR145 : Mp sR145) {wb w0 : World} {Fb F0 : Mem} {Lf : Own} (hG : CI F0) (bp0 : Nat) (x0 : Ab) (a0_0 : Sy) (n0_0 : Nat) (hb0_0 : LC x0.l_.length n0_0) (hs0_0 : SlA Ag F0 a0_0 x0.l_) (hs0 : HS wb Fb w0 F0 ((sb bp0 (Ad x0 a0_0 n0_0) 100) :: Lf)) (r : (Aj ⊕ (Ab × Expr))) (h : El N sR145 x0 = some r) :
  Calls Tryz.prog 243 ([(pt bp0 0)] : List Value).toArray w0 (BH wb Fb F0 Lf r (fun b => (.iface 158 (.agg (AH b)))) fun a F' v L' => ∃ (aq0_0 : Sy) (nq0_0 : Nat) (aq1_2 : Sy) (nq1_2 : Nat), v = (.agg (Ae a.2 aq1_2 nq1_2)) /\ L' = (sb bp0 (Ad a.1 aq0_0 nq0_0) 100) :: Lf /\ LC a.1.l_.length nq0_0 /\ SlA Ag F' aq0_0 a.1.l_ /\ LC a.2.Kids.length nq1_2 /\ SlA Ao F' aq1_2 a.2.Kids) := by
 refine Go 112 Tryz.func243 ?_
 refine Sq (Rg [0] ?_)
 refine Al' 33 #[(vi 0), (vi 0), (.slice none ([] : List Expr).length 0)] hs0 (fun b21 w22 hs23 => ?_)
 refine Nss (Rg [0, 1, 2, 3, 4, 5, 6, 7] ?_)
 refine Vs 3 ?_
 refine Ld hs23.at1 ?_
 obtain ⟨x24, hx25, h27⟩ := bind_some h
 obtain ⟨hi26, hx25'⟩ := Ay hx25
 obtain ⟨b28, o29, C30, E31, fz32, rfl, hF34, hE35⟩ := Sh hs0_0 hx25'
 have hc37 := hE35 _ _ hx25'
 refine Ix hi26 ?_
 refine Lx 0 (hs23.pers _ _ hF34) hc37 ?_
 refine Al' 97 #[(vi 0), (vi 0), (.string ⟨(([] : Sx)).toArray⟩)] hs23 (fun b38 w39 hs40 => ?_)
 refine St0 (Bc x24) hs40 (fun w41 hs42 => ?_)
 refine Nss ?_
 refine Sq ?_
 obtain ⟨j48, hj54, h55⟩ := bind_some h27
 refine RD 5 5 [(sb b38 (Bc x24) 97), (sb b21 #[(vi 0), (vi 0), (.slice none ([] : List Expr).length 0)] 33), (sb bp0 (Ad x0 (some ⟨b28, o29, none⟩) n0_0) 100)] [] hs42 (fun f w => ∃ (F1 : Mem), HS wb Fb w F1 ((sb b38 (Bc x24) 97) :: (sb b21 #[(vi 0), (vi 0), (.slice none ([] : List Expr).length 0)] 33) :: (sb bp0 (Ad x0 (some ⟨b28, o29, none⟩) n0_0) 100) :: Lf) /\ R5 F0 F1 /\ FI f [] [(0, (pt bp0 0)), (2, (pt b21 0)), (3, (pt b38 0)), (4, (vi j48))]) (fun wd43 hw44 => ?_) ?_
 ·refine Dv [1] ?_
  refine Dl 2 (fun _ hq => (hq.1.2 0 _ _ rfl)) ?_
  refine D1 0 ?_
  obtain ⟨r56, hr57, h58⟩ := bind_some hj54
  refine DCl GG hw44 (Hw N wd43 F0 hw44.pers  _ hr57) ?_
  rintro _ F2 w60 hs61 le62 ⟨ar56_0_0, nr56_0_0, rfl, hbr56_0_0, hsr56_0_0⟩
  refine D1 3 ?_
  obtain ⟨r64, hr65, h66⟩ := bind_some h58
  refine DCl D8 hs61 (Ef N w60 F2 hs61.pers r56 ar56_0_0 nr56_0_0 hbr56_0_0 hsr56_0_0 x24.text_ _ hr65) ?_
  rintro _ F3 w68 hs69 le70 rfl
  refine Dv [4] ?_
  obtain rfl := Aa h66
  exact Sm (by kernel_rfl) ⟨F3, hs69, (le62.trans le70), fI⟩
 ·rintro f w45 ⟨F1, hs46, le47, ⟨_, rfl⟩⟩
  refine Ac ?_
  refine Bk ?_
  refine Sq (Rg [0, 1, 2, 3] ?_)
  refine Vs 1 ?_
  refine Ld hs46.at0 ?_
  refine Vs 2 ?_
  refine Nt ?_
  refine Cd h55 (fun hb72 h73 => ?_) (fun hb72 h74 => ?_)
  ·refine Sq (Rg [0, 1, 2, 3, 4, 5, 6, 7] ?_)
   refine Vs 1 ?_
   refine Ld hs46.at0 ?_
   obtain ⟨r75, hr76, h77⟩ := bind_some h73
   refine Cl' JM hs46 (KD N w45 F1 hs46.pers (hG.mono le47) x24.text_ _ hr76) ?_
   rintro _ F4 w79 hs80 le81 ⟨vr75_1_0, rfl, her75_1_0⟩
   refine Vs 5 ?_
   refine Nss ?_
   refine Sq (Rg [0, 1, 2, 3, 4, 5, 6, 7, 8, 9, 10, 11] ?_)
   refine Sb (fun f w => ∃ (F5 : Mem), HS wb Fb w F5 ((sb b38 (Bc x24) 97) :: (sb b21 #[(vi 0), (vi 0), (.slice none ([] : List Expr).length 0)] 33) :: (sb bp0 (Ad x0 (some ⟨b28, o29, none⟩) n0_0) 100) :: Lf) /\ R5 F4 F5 /\ FI f [] [(0, (pt bp0 0)), (2, (pt b21 0)), (3, (pt b38 0)), (5, (vi r75.1)), (42, (.bool (r75.2 || ((decide ((x24.text_.length : Int) > 7)) || (decide (r75.1 > 1000000))))))]) ?_ ?_
   ·refine Vs 1 ?_
    refine V 32 4 (HA (t := 134) (t' := 134) (x := (.tmp 31)) (c := .nilIface) her75_1_0 rfl rfl (by kernel_rfl)) ?_
    refine Vs 1 ?_
    refine Sa r75.2 (fun hb92 => ?_) (fun hb92 => ?_)
    ·refine Ss hb92 4 ?_
     refine Pk1 hb92 ?_
     refine Vs 1 ?_
     refine Ss (rfl : true = true) 2 ?_
     refine Pk1 (rfl : true = true) ?_
     exact RY ⟨rfl, F4, hs80, (R6 _), (fJ ⟨rfl, rfl, rfl, rfl, (congrArg Value.bool (Gs hb92 rfl)), trivial⟩)⟩
    ·refine Vgs hb92 1 ?_
     refine Lg hb92 hs80.at0 ?_
     refine Vgs hb92 2 ?_
     refine Pk0 hb92 ?_
     refine Vs 1 ?_
     refine Sa (decide ((x24.text_.length : Int) > 7)) (fun hb93 => ?_) (fun hb93 => ?_)
     ·refine Ss hb93 2 ?_
      refine Pk1 hb93 ?_
      exact RY ⟨rfl, F4, hs80, (R6 _), (fJ ⟨rfl, rfl, rfl, rfl, (congrArg Value.bool (Cc hb92 (Gs hb93 rfl))), trivial⟩)⟩
     ·refine Vgs hb93 2 ?_
      refine Pk0 hb93 ?_
      exact RY ⟨rfl, F4, hs80, (R6 _), (fJ ⟨rfl, rfl, rfl, rfl, (congrArg Value.bool (Cc hb92 (Cc hb93 rfl))), trivial⟩)⟩
   ·rintro f w83 ⟨F5, hs84, le85, ⟨_, rfl⟩⟩
    refine Ac ?_
    refine Cd h77 (fun hb94 h95 => ?_) (fun hb94 h96 => ?_)
    ·refine Rg [0, 1, 2, 3] ?_
     refine Vs 2 ?_
     refine Ld hs84.at0 ?_
     obtain ⟨r97, hr98, h99⟩ := bind_some h95
     refine CP AK (AM N bp0 x0 (some ⟨b28, o29, none⟩) n0_0 hb0_0 (R8 hs0_0 ((le47.trans le81).trans le85)) 60 x24.at_ hs84.pk1.pk1.pk2 _ hr98) ?_ ?_
     ·rintro _ _ _ _ _ rfl _ _ _; cases hr98
     ·rintro b102 F7 w103 rfl hs104 le105
      have h106 := Bn h99
      refine Ak ?_
      refine AL ?_
      refine Ak ?_
      obtain rfl := Aa h106
      exact Cw hs104.dr0.dr0 (((le47.trans le81).trans le85).trans le105)
    ·refine Sc ?_
     refine Ac ?_
     refine Sq (Rg [0, 1, 2, 3, 4, 5, 6, 7, 8] ?_)
     refine Vs 4 ?_
     refine Ld hs84.at2 ?_
     obtain ⟨r108, hr109, h110⟩ := bind_some h96
     obtain ⟨a111, n112, hb113, hs114, hrun115⟩ := Kk (P := Tryz.prog) (T := Ag) (lo := (some (.const (vi 1)))) (hi := none) (mx := none) (t := 98) (E := 97) (by_ := 32) (c := n0_0) (a := (some ⟨b28, o29, none⟩)) (l := x0.l_) (r := r108) (il := 1) (ih := (x0.l_.length : Int)) (im := 0) (by kernel_rfl) (by kernel_rfl) hb0_0 (R8 hs0_0 ((le47.trans le81).trans le85)) (fun h => by first | rfl | cases h) hr109
     refine V 52 98 (hrun115 (x := (.tmp 51)) rfl rfl rfl trivial) ?_
     refine Vs 2 ?_
     refine St2 #[(.slice a111 r108.length n112), (vi x0.open_)] hs84 (fun w116 hs117 => ?_)
     refine Nss (Rg [0, 1, 2] ?_)
     refine Vs 2 ?_
     refine St1 #[(vi 1), (vi r75.1), (.slice none ([] : List Expr).length 0)] hs117 (fun w118 hs119 => ?_)
     refine Nt ?_
     refine Rt ?_
     refine Ah ?_
     refine Af ?_
     obtain rfl := Aa h110
     exact ⟨rfl, (.agg #[(vi 1), (vi r75.1), (.slice none ([] : List Expr).length 0)]), Av (l := [.cell 2 33]) (by kernel_rfl) (vs := [(.agg #[(vi 1), (vi r75.1), (.slice none ([] : List Expr).length 0)])]) ⟨b21, 0, rfl, Ai (t := 33) (g := true) (s := 3) (by kernel_rfl) hs119.at1 rfl (by decide), trivial⟩, .inl ⟨_, F5, _, _, rfl, rfl, hs119.dr0.dr0, ((le47.trans le81).trans le85), ⟨a111, n112, none, 0, rfl, rfl, hb113, hs114, R9, (.inl rfl)⟩⟩⟩
  ·refine Sq (Rg [0, 1, 2, 3, 4, 5, 6, 7] ?_)
   refine Sb (fun f w => ∃ (F8 : Mem), HS wb Fb w F8 ((sb b38 (Bc x24) 97) :: (sb b21 #[(vi 0), (vi 0), (.slice none ([] : List Expr).length 0)] 33) :: (sb bp0 (Ad x0 (some ⟨b28, o29, none⟩) n0_0) 100) :: Lf) /\ R5 F1 F8 /\ FI f [] [(0, (pt bp0 0)), (2, (pt b21 0)), (3, (pt b38 0)), (4, (vi j48)), (57, (.bool ((x24.kind_ == 2) && (decide (j48 >= 0)))))]) ?_ ?_
   ·refine Vs 1 ?_
    refine Ld hs46.at0 ?_
    refine Vs 2 ?_
    refine Sa (x24.kind_ == 2) (fun hb129 => ?_) (fun hb129 => ?_)
    ·refine Vgs hb129 2 ?_
     refine Pk1 hb129 ?_
     refine Vs 1 ?_
     exact RY ⟨rfl, F1, hs46, (R6 _), (fJ ⟨rfl, rfl, rfl, rfl, (congrArg Value.bool (Dc hb129 rfl)), trivial⟩)⟩
    ·refine Ss hb129 2 ?_
     refine Pk0 hb129 ?_
     refine Vs 1 ?_
     exact RY ⟨rfl, F1, hs46, (R6 _), (fJ ⟨rfl, rfl, rfl, rfl, (congrArg Value.bool (E8 hb129 rfl)), trivial⟩)⟩
   ·rintro f w120 ⟨F8, hs121, le122, ⟨_, rfl⟩⟩
    refine Ac ?_
    refine Cd h74 (fun hb130 h131 => ?_) (fun hb130 h132 => ?_)
    ·refine Sq (Rg [0, 1, 2, 3, 4, 5, 6, 7, 8] ?_)
     refine Vs 4 ?_
     refine Ld hs121.at2 ?_
     obtain ⟨r133, hr134, h135⟩ := bind_some h131
     obtain ⟨a136, n137, hb138, hs139, hrun140⟩ := Kk (P := Tryz.prog) (T := Ag) (lo := (some (.const (vi 1)))) (hi := none) (mx := none) (t := 98) (E := 97) (by_ := 32) (c := n0_0) (a := (some ⟨b28, o29, none⟩)) (l := x0.l_) (r := r133) (il := 1) (ih := (x0.l_.length : Int)) (im := 0) (by kernel_rfl) (by kernel_rfl) hb0_0 (R8 hs0_0 (le47.trans le122)) (fun h => by first | rfl | cases h) hr134
     refine V 70 98 (hrun140 (x := (.tmp 69)) rfl rfl rfl trivial) ?_
     refine Vs 2 ?_
     refine St2 #[(.slice a136 r133.length n137), (vi x0.open_)] hs121 (fun w141 hs142 => ?_)
     refine Nss (Rg [0, 1, 2] ?_)
     refine Vs 2 ?_
     refine St1 #[(vi 2), (vi j48), (.slice none ([] : List Expr).length 0)] hs142 (fun w143 hs144 => ?_)
     refine Nt ?_
     refine Rt ?_
     refine Ah ?_
     refine Af ?_
     obtain rfl := Aa h135
     exact ⟨rfl, (.agg #[(vi 2), (vi j48), (.slice none ([] : List Expr).length 0)]), Av (l := [.cell 2 33]) (by kernel_rfl) (vs := [(.agg #[(vi 2), (vi j48), (.slice none ([] : List Expr).length 0)])]) ⟨b21, 0, rfl, Ai (t := 33) (g := true) (s := 3) (by kernel_rfl) hs144.at1 rfl (by decide), trivial⟩, .inl ⟨_, F8, _, _, rfl, rfl, hs144.dr0.dr0, (le47.trans le122), ⟨a136, n137, none, 0, rfl, rfl, hb138, hs139, R9, (.inl rfl)⟩⟩⟩
    ·refine Sq (Rg [0, 1, 2] ?_)
     refine Vs 1 ?_
     obtain ⟨r145, hr146, h147⟩ := bind_some h132
     refine CB AF (AG N bp0 x0 (some ⟨b28, o29, none⟩) n0_0 hb0_0 (R8 hs0_0 (le47.trans le122)) (([105, 102] : Sx)) hs121.pk1.pk1.pk2 _ hr146) ?_
     rintro _ F9 w148 _ hs149 le150 ⟨ar145_0_0, nr145_0_0, rfl, rfl, hbr145_0_0, hsr145_0_0⟩
     refine Vs 1 ?_
     refine Nt ?_
     refine Cd h147 (fun hb152 h153 => ?_) (fun hb152 h154 => ?_)
     ·refine Sq (Rg [0, 1] ?_)
      refine Vs 1 ?_
      obtain ⟨r155, hr156, h157⟩ := bind_some h153
      refine CP DI (Ed N bp0 r145.1 ar145_0_0 nr145_0_0 hbr145_0_0 hsr145_0_0 hs149 _ hr156) ?_ ?_
      ·rintro r158 _ F10 w160 _ rfl hs161 le162 ⟨ar158_0_0, nr158_0_0, rfl, rfl, hbr158_0_0, hsr158_0_0⟩
       have h164 := BU h157
       refine Nss (Rg [0, 1, 2, 3] ?_)
       refine Vs 1 ?_
       obtain ⟨r165, hr166, h167⟩ := bind_some h164
       refine CP BG (hsR145 (hG.mono (((le47.trans le122).trans le150).trans le162)) bp0 r158 ar158_0_0 nr158_0_0 hbr158_0_0 hsr158_0_0 hs161 _ hr166) ?_ ?_
       ·rintro r168 _ F11 w170 _ rfl hs171 le172 ⟨ar168_0_0, nr168_0_0, ar168_1_2, nr168_1_2, rfl, rfl, hbr168_0_0, hsr168_0_0, hbr168_1_2, hsr168_1_2⟩
        have h174 := BU h167
        refine Al' 33 #[(vi 0), (vi 0), (.slice none ([] : List Expr).length 0)] hs171 (fun b175 w176 hs177 => ?_)
        refine St0 (Ae r168.2 ar168_1_2 nr168_1_2) hs177 (fun w178 hs179 => ?_)
        refine Nss (Rg [0, 1] ?_)
        refine Vs 1 ?_
        obtain ⟨r180, hr181, h182⟩ := bind_some h174
        refine CP A1 (A5 N bp0 r168.1 ar168_0_0 nr168_0_0 hbr168_0_0 hsr168_0_0 (([44] : Sx)) hs179.pk3.pk3.pk2.pk3 _ hr181) ?_ ?_
        ·rintro r183 _ F12 w185 _ rfl hs186 le187 ⟨ar183_0_0, nr183_0_0, rfl, rfl, hbr183_0_0, hsr183_0_0⟩
         have h189 := BU h182
         refine Nss (Rg [0, 1, 2, 3] ?_)
         refine Vs 1 ?_
         obtain ⟨r190, hr191, h192⟩ := bind_some h189
         refine CP BG (hsR145 (hG.mono (((((le47.trans le122).trans le150).trans le162).trans le172).trans le187)) bp0 r183 ar183_0_0 nr183_0_0 hbr183_0_0 hsr183_0_0 hs186 _ hr191) ?_ ?_
         ·rintro r193 _ F13 w195 _ rfl hs196 le197 ⟨ar193_0_0, nr193_0_0, ar193_1_2, nr193_1_2, rfl, rfl, hbr193_0_0, hsr193_0_0, hbr193_1_2, hsr193_1_2⟩
          have h199 := BU h192
          refine Al' 33 #[(vi 0), (vi 0), (.slice none ([] : List Expr).length 0)] hs196 (fun b200 w201 hs202 => ?_)
          refine St0 (Ae r193.2 ar193_1_2 nr193_1_2) hs202 (fun w203 hs204 => ?_)
          refine Nss (Rg [0, 1] ?_)
          refine Vs 1 ?_
          have hs205 := hs204.pk4.pk4.pk4.pk3.pk4
          obtain ⟨r206, hr207, h208⟩ := bind_some h199
          refine CP A1 (A5 N bp0 r193.1 ar193_0_0 nr193_0_0 hbr193_0_0 hsr193_0_0 (([44] : Sx)) hs205 _ hr207) ?_ ?_
          ·rintro r209 _ F14 w211 _ rfl hs212 le213 ⟨ar209_0_0, nr209_0_0, rfl, rfl, hbr209_0_0, hsr209_0_0⟩
           have h215 := BU h208
           refine Nss (Rg [0, 1, 2, 3] ?_)
           refine Vs 1 ?_
           obtain ⟨r216, hr217, h218⟩ := bind_some h215
           refine CP BG (hsR145 (hG.mono (((((((le47.trans le122).trans le150).trans le162).trans le172).trans le187).trans le197).trans le213)) bp0 r209 ar209_0_0 nr209_0_0 hbr209_0_0 hsr209_0_0 hs212 _ hr217) ?_ ?_
           ·rintro r219 _ F15 w221 _ rfl hs222 le223 ⟨ar219_0_0, nr219_0_0, ar219_1_2, nr219_1_2, rfl, rfl, hbr219_0_0, hsr219_0_0, hbr219_1_2, hsr219_1_2⟩
            have h225 := BU h218
            refine Al' 33 #[(vi 0), (vi 0), (.slice none ([] : List Expr).length 0)] hs222 (fun b226 w227 hs228 => ?_)
            refine St0 (Ae r219.2 ar219_1_2 nr219_1_2) hs228 (fun w229 hs230 => ?_)
            refine Nss (Rg [0, 1] ?_)
            refine Vs 1 ?_
            have hs231 := hs230.pk5.pk5.pk5.pk5.pk4
            obtain ⟨r232, hr233, h234⟩ := bind_some h225
            refine CP DH (Ec N bp0 r219.1 ar219_0_0 nr219_0_0 hbr219_0_0 hsr219_0_0 hs231.pk5 _ hr233) ?_ ?_
            ·rintro r235 _ F16 w237 _ rfl hs238 le239 ⟨ar235_0_0, nr235_0_0, rfl, rfl, hbr235_0_0, hsr235_0_0⟩
             have h241 := BU h234
             refine Nss (Rg [0, 1, 2, 3, 4, 5] ?_)
             refine Ld hs238.at3 ?_
             refine Ld hs238.at2 ?_
             refine Ld hs238.at1 ?_
             refine Bs 33 [(vi r168.2.Op), (vi r168.2.Value), (.slice ar168_1_2 r168.2.Kids.length nr168_1_2), (vi r193.2.Op), (vi r193.2.Value), (.slice ar193_1_2 r193.2.Kids.length nr193_1_2), (vi r219.2.Op), (vi r219.2.Value), (.slice ar219_1_2 r219.2.Kids.length nr219_1_2)] hs238 (fun b242 w243 hs244 => ?_)
             have hr246 : Au Ao 33 F16 (some ⟨b242, 0, none⟩) 3 [r168.2, r193.2, r219.2] (some b242, .cells ([(vi r168.2.Op), (vi r168.2.Value), (.slice ar168_1_2 r168.2.Kids.length nr168_1_2), (vi r193.2.Op), (vi r193.2.Value), (.slice ar193_1_2 r193.2.Kids.length nr193_1_2), (vi r219.2.Op), (vi r219.2.Value), (.slice ar219_1_2 r219.2.Kids.length nr219_1_2)] : List Value).toArray 33 (0, 0)) := Sr ⟨(A6 ⟨ar168_1_2, nr168_1_2, rfl, hbr168_1_2, (R8 hsr168_1_2 ((((le187.trans le197).trans le213).trans le223).trans le239))⟩), ⟨(A6 ⟨ar193_1_2, nr193_1_2, rfl, hbr193_1_2, (R8 hsr193_1_2 ((le213.trans le223).trans le239))⟩), ⟨(A6 ⟨ar219_1_2, nr219_1_2, rfl, hbr219_1_2, (R8 hsr219_1_2 le239)⟩), rfl⟩⟩⟩ (by simp)
             refine Vs 1 ?_
             refine St6 #[(vi 11), (vi 0), (.slice (some ⟨b242, 0, none⟩) [r168.2, r193.2, r219.2].length 3)] hs244 (fun w247 hs248 => ?_)
             refine Nt ?_
             refine Rt ?_
             refine Ah ?_
             refine Af ?_
             have hb252 := Sn hr246
             obtain ⟨F17, hs249, le250, hs251⟩ := hs248.fr0 hr246
             have hs253 := hs249.dr1.dr1.dr1.dr1.dr1
             obtain rfl := Aa h241
             exact ⟨rfl, (.agg #[(vi 11), (vi 0), (.slice (some ⟨b242, 0, none⟩) [r168.2, r193.2, r219.2].length 3)]), Av (l := [.cell 2 33]) (by kernel_rfl) (vs := [(.agg #[(vi 11), (vi 0), (.slice (some ⟨b242, 0, none⟩) [r168.2, r193.2, r219.2].length 3)])]) ⟨b21, 0, rfl, Ai (t := 33) (g := true) (s := 3) (by kernel_rfl) hs249.at5 rfl (by decide), trivial⟩, .inl ⟨_, F17, _, _, rfl, rfl, hs253, ((((((((((le47.trans le122).trans le150).trans le162).trans le172).trans le187).trans le197).trans le213).trans le223).trans le239).trans le250), ⟨ar235_0_0, nr235_0_0, (some ⟨b242, 0, none⟩), 3, rfl, rfl, hbr235_0_0, (R8 hsr235_0_0 le250), hb252, hs251⟩⟩⟩
            ·rintro b254 F18 w255 rfl hs256 le257
             have h258 := Bn h234
             refine Ak ?_
             refine AL ?_
             refine Ak ?_
             have hs260 := hs256.dr0.dr0.dr0.dr0.dr0
             obtain rfl := Aa h258
             exact Cw hs260 (((((((((le47.trans le122).trans le150).trans le162).trans le172).trans le187).trans le197).trans le213).trans le223).trans le257)
           ·rintro b261 F19 w262 rfl hs263 le264
            have h265 := Bn h218
            refine Ak ?_
            refine AL ?_
            refine Ak ?_
            obtain rfl := Aa h265
            exact Cw hs263.dr0.dr0.dr0.dr0 ((((((((le47.trans le122).trans le150).trans le162).trans le172).trans le187).trans le197).trans le213).trans le264)
          ·rintro b267 F20 w268 rfl hs269 le270
           have h271 := Bn h208
           refine Ak ?_
           refine AL ?_
           refine Ak ?_
           obtain rfl := Aa h271
           exact Cw hs269.dr0.dr0.dr0.dr0 (((((((le47.trans le122).trans le150).trans le162).trans le172).trans le187).trans le197).trans le270)
         ·rintro b273 F21 w274 rfl hs275 le276
          have h277 := Bn h192
          refine Ak ?_
          refine AL ?_
          refine Ak ?_
          obtain rfl := Aa h277
          exact Cw hs275.dr0.dr0.dr0 ((((((le47.trans le122).trans le150).trans le162).trans le172).trans le187).trans le276)
        ·rintro b279 F22 w280 rfl hs281 le282
         have h283 := Bn h182
         refine Ak ?_
         refine AL ?_
         refine Ak ?_
         obtain rfl := Aa h283
         exact Cw hs281.dr0.dr0.dr0 (((((le47.trans le122).trans le150).trans le162).trans le172).trans le282)
       ·rintro b285 F23 w286 rfl hs287 le288
        have h289 := Bn h167
        refine Ak ?_
        refine AL ?_
        refine Ak ?_
        obtain rfl := Aa h289
        exact Cw hs287.dr0.dr0 ((((le47.trans le122).trans le150).trans le162).trans le288)
      ·rintro b291 F24 w292 rfl hs293 le294
       have h295 := Bn h157
       refine Ak ?_
       refine AL ?_
       refine Ak ?_
       obtain rfl := Aa h295
       exact Cw hs293.dr0.dr0 (((le47.trans le122).trans le150).trans le294)
     ·refine Sq (Rg [0, 1, 2] ?_)
      refine Vs 1 ?_
      obtain ⟨r297, hr298, h299⟩ := bind_some h154
      refine CB Ch (Co N bp0 r145.1 ar145_0_0 nr145_0_0 hbr145_0_0 hsr145_0_0 (([40] : Sx)) hs149 _ hr298) ?_
      rintro _ F25 w300 _ hs301 le302 ⟨rfl, rfl⟩
      refine Vs 1 ?_
      refine Nt ?_
      refine Cd h299 (fun hb304 h305 => ?_) (fun hb304 h306 => ?_)
      ·refine Sq (Rg [0, 1] ?_)
       refine Vs 1 ?_
       obtain ⟨r307, hr308, h309⟩ := bind_some h305
       refine CP DI (Ed N bp0 r145.1 ar145_0_0 nr145_0_0 hbr145_0_0 (R8 hsr145_0_0 le302) hs301 _ hr308) ?_ ?_
       ·rintro r310 _ F26 w312 _ rfl hs313 le314 ⟨ar310_0_0, nr310_0_0, rfl, rfl, hbr310_0_0, hsr310_0_0⟩
        have h316 := BU h309
        refine Nss (Rg [0, 1, 2, 3] ?_)
        refine Vs 1 ?_
        obtain ⟨r317, hr318, h319⟩ := bind_some h316
        refine CP BG (hsR145 (hG.mono ((((le47.trans le122).trans le150).trans le302).trans le314)) bp0 r310 ar310_0_0 nr310_0_0 hbr310_0_0 hsr310_0_0 hs313 _ hr318) ?_ ?_
        ·rintro r320 _ F27 w322 _ rfl hs323 le324 ⟨ar320_0_0, nr320_0_0, ar320_1_2, nr320_1_2, rfl, rfl, hbr320_0_0, hsr320_0_0, hbr320_1_2, hsr320_1_2⟩
         have h326 := BU h319
         refine Al' 33 #[(vi 0), (vi 0), (.slice none ([] : List Expr).length 0)] hs323 (fun b327 w328 hs329 => ?_)
         refine St0 (Ae r320.2 ar320_1_2 nr320_1_2) hs329 (fun w330 hs331 => ?_)
         refine Nss (Rg [0, 1] ?_)
         refine Vs 1 ?_
         obtain ⟨r332, hr333, h334⟩ := bind_some h326
         refine CP DH (Ec N bp0 r320.1 ar320_0_0 nr320_0_0 hbr320_0_0 hsr320_0_0 hs331.pk3.pk3.pk2.pk3 _ hr333) ?_ ?_
         ·rintro r335 _ F28 w337 _ rfl hs338 le339 ⟨ar335_0_0, nr335_0_0, rfl, rfl, hbr335_0_0, hsr335_0_0⟩
          have h341 := BU h334
          refine Nss (Rg [0, 1] ?_)
          refine Ld hs338.at1 ?_
          refine St3 (Ae r320.2 ar320_1_2 nr320_1_2) hs338 (fun w342 hs343 => ?_)
          refine Nt ?_
          refine Rt ?_
          refine Ah ?_
          refine Af ?_
          obtain rfl := Aa h341
          exact ⟨rfl, (.agg (Ae r320.2 ar320_1_2 nr320_1_2)), Av (l := [.cell 2 33]) (by kernel_rfl) (vs := [(.agg (Ae r320.2 ar320_1_2 nr320_1_2))]) ⟨b21, 0, rfl, Ai (t := 33) (g := true) (s := 3) (by kernel_rfl) hs343.at3 rfl (by decide), trivial⟩, .inl ⟨_, F28, _, _, rfl, rfl, hs343.dr1.dr1.dr1, ((((((le47.trans le122).trans le150).trans le302).trans le314).trans le324).trans le339), ⟨ar335_0_0, nr335_0_0, ar320_1_2, nr320_1_2, rfl, rfl, hbr335_0_0, hsr335_0_0, hbr320_1_2, (R8 hsr320_1_2 le339)⟩⟩⟩
         ·rintro b344 F29 w345 rfl hs346 le347
          have h348 := Bn h334
          refine Ak ?_
          refine AL ?_
          refine Ak ?_
          obtain rfl := Aa h348
          exact Cw hs346.dr0.dr0.dr0 ((((((le47.trans le122).trans le150).trans le302).trans le314).trans le324).trans le347)
        ·rintro b350 F30 w351 rfl hs352 le353
         have h354 := Bn h319
         refine Ak ?_
         refine AL ?_
         refine Ak ?_
         obtain rfl := Aa h354
         exact Cw hs352.dr0.dr0 (((((le47.trans le122).trans le150).trans le302).trans le314).trans le353)
       ·rintro b356 F31 w357 rfl hs358 le359
        have h360 := Bn h309
        refine Ak ?_
        refine AL ?_
        refine Ak ?_
        obtain rfl := Aa h360
        exact Cw hs358.dr0.dr0 ((((le47.trans le122).trans le150).trans le302).trans le359)
      ·refine Sc ?_
       refine Ap ?_
       refine Ac ?_
       refine Sq (Rg [0, 1, 2, 3] ?_)
       refine Vs 2 ?_
       refine Ld hs301.at1 ?_
       obtain ⟨r362, hr363, h364⟩ := bind_some h306
       refine CP AK (AM N bp0 r145.1 ar145_0_0 nr145_0_0 hbr145_0_0 (R8 hsr145_0_0 le302) 60 x24.at_ hs301 _ hr363) ?_ ?_
       ·rintro _ _ _ _ _ rfl _ _ _; cases hr363
       ·rintro b367 F33 w368 rfl hs369 le370
        have h371 := Bn h364
        refine Ak ?_
        obtain rfl := Aa h371
        exact Cw hs369.dr0.dr0 ((((le47.trans le122).trans le150).trans le302).trans le370)
structure Q2 where
 q145 : Ab -> Option (Aj ⊕ (Ab × Expr))
 q185 : Ab -> Option (Aj ⊕ (Ab × Expr))
 q212 : Ab -> Option (Aj ⊕ (Ab × Expr))
 q226 : Ab -> Option (Aj ⊕ (Ab × Expr))
 q233 : Ab -> Option (Aj ⊕ (Ab × Expr))
 q239 : Ab -> Option (Aj ⊕ (Ab × Expr))
 q243 : Ab -> Option (Aj ⊕ (Ab × Expr))
def BV (N : Nat) : Nat -> Q2
 | 0 => ⟨fun _ => none, fun _ => none, fun _ => none, fun _ => none, fun _ => none, fun _ => none, fun _ => none⟩
 | k + 1 => ⟨Em N (BV N k).q185, Eo N (BV N k).q212, En N (BV N k).q212 (BV N k).q226, Ej N (BV N k).q233, EG N (BV N k).q239, Ek N (BV N k).q243, El N (BV N k).q145⟩
theorem Lt (N : Nat) : ∀ k, Mp (BV N k).q145 /\ Mm (BV N k).q185 /\ J4 (BV N k).q212 /\ Mj (BV N k).q226 /\ Mi (BV N k).q233 /\ Mh (BV N k).q239 /\ Mg (BV N k).q243
 | 0 => ⟨(by unfold Mp; intros; rename_i h; cases h), (by unfold Mm; intros; rename_i h; cases h), (by unfold J4; intros; rename_i h; cases h), (by unfold Mj; intros; rename_i h; cases h), (by unfold Mi; intros; rename_i h; cases h), (by unfold Mh; intros; rename_i h; cases h), (by unfold Mg; intros; rename_i h; cases h)⟩
 | k + 1 => by
  have ih := Lt N k
  exact ⟨@GS N (BV N k).q185 ih.2.1, @GU N (BV N k).q212 ih.2.2.1, @GT N (BV N k).q212 ih.2.2.1 (BV N k).q226 ih.2.2.2.1, @GP N (BV N k).q233 ih.2.2.2.2.1, @Hd N (BV N k).q239 ih.2.2.2.2.2.1, @GQ N (BV N k).q243 ih.2.2.2.2.2.2, @GR N (BV N k).q145 ih.1⟩
def EY (N : Nat) (x0 : Ab) : Option (Aj ⊕ (Ab × Expr)) := (BV N N).q145 x0
theorem Ha (N : Nat) {wb w0 : World} {Fb F0 : Mem} {Lf : Own} (hG : CI F0) (bp0 : Nat) (x0 : Ab) (a0_0 : Sy) (n0_0 : Nat) (hb0_0 : LC x0.l_.length n0_0) (hs0_0 : SlA Ag F0 a0_0 x0.l_) (hs0 : HS wb Fb w0 F0 ((some bp0, (.cells #[(.slice a0_0 x0.l_.length n0_0), (.int .i64 x0.open_)] 100 (0, 0))) :: Lf)) (r : (Aj ⊕ (Ab × Expr))) (h : EY N x0 = some r) :
  Calls Tryz.prog 145 ([(.pointer (some ⟨bp0, 0, none⟩))] : List Value).toArray w0 (BH wb Fb F0 Lf r (fun b => (.iface 158 (.agg #[(.int .i64 b.e_), (.int .i64 b.at_)]))) fun a F' v L' => ∃ (aq0_0 : Sy) (nq0_0 : Nat) (aq1_2 : Sy) (nq1_2 : Nat), v = (.agg #[(.int .i64 a.2.Op), (.int .i64 a.2.Value), (.slice aq1_2 a.2.Kids.length nq1_2)]) /\ L' = (some bp0, (.cells #[(.slice aq0_0 a.1.l_.length nq0_0), (.int .i64 a.1.open_)] 100 (0, 0))) :: Lf /\ LC a.1.l_.length nq0_0 /\ SlA Ag F' aq0_0 a.1.l_ /\ LC a.2.Kids.length nq1_2 /\ SlA Ao F' aq1_2 a.2.Kids) := (Lt N N).1 hG bp0 x0 a0_0 n0_0 hb0_0 hs0_0 hs0 r h
def BP (N : Nat) (x0 : Ab) : Option (Aj ⊕ (Ab × Bo)) :=
 ((idx x0.l_ 0).bind fun x24 => ((EY N x0).bind fun r38 => sk r38 (fun b50 => some (.inl b50)) (fun r41 => some (.inr (r41.1, ({ Expr := r41.2, at_ := x24.at_ } : Bo))))))
theorem BW : An Tryz.prog 86 := fun _ _ => by kernel_rfl
theorem B9 (N : Nat) {wb w0 : World} {Fb F0 : Mem} {Lf : Own} (hG : CI F0) (bp0 : Nat) (x0 : Ab) (a0_0 : Sy) (n0_0 : Nat) (hb0_0 : LC x0.l_.length n0_0) (hs0_0 : SlA Ag F0 a0_0 x0.l_) (hs0 : HS wb Fb w0 F0 ((sb bp0 (Ad x0 a0_0 n0_0) 100) :: Lf)) (r : (Aj ⊕ (Ab × Bo))) (h : BP N x0 = some r) :
  Calls Tryz.prog 86 ([(pt bp0 0)] : List Value).toArray w0 (BH wb Fb F0 Lf r (fun b => (.iface 158 (.agg (AH b)))) fun a F' v L' => ∃ (aq0_0 : Sy) (nq0_0 : Nat) (aq1_2 : Sy) (nq1_2 : Nat), v = (.agg (Aw a.2 aq1_2 nq1_2)) /\ L' = (sb bp0 (Ad a.1 aq0_0 nq0_0) 100) :: Lf /\ LC a.1.l_.length nq0_0 /\ SlA Ag F' aq0_0 a.1.l_ /\ LC a.2.Expr.Kids.length nq1_2 /\ SlA Ao F' aq1_2 a.2.Expr.Kids) := by
 refine Go 15 Tryz.func86 ?_
 refine Sq (Rg [0] ?_)
 refine Al' 113 #[(vi 0), (vi 0), (.slice none ([] : List Expr).length 0), (vi 0)] hs0 (fun b21 w22 hs23 => ?_)
 refine Nss (Rg [0, 1, 2, 3, 4, 5, 6, 7] ?_)
 refine Vs 3 ?_
 refine Ld hs23.at1 ?_
 obtain ⟨x24, hx25, h27⟩ := bind_some h
 obtain ⟨hi26, hx25'⟩ := Ay hx25
 obtain ⟨b28, o29, C30, E31, fz32, rfl, hF34, hE35⟩ := Sh hs0_0 hx25'
 have hc37 := hE35 _ _ hx25'
 refine Ix hi26 ?_
 refine Vs 1 ?_
 refine Lx 1 (hs23.pers _ _ hF34) hc37 ?_
 refine Vs 1 ?_
 refine Nss (Rg [0, 1, 2, 3, 4] ?_)
 refine Vs 1 ?_
 obtain ⟨r38, hr39, h40⟩ := bind_some h27
 refine CP BG (Ha N hG bp0 x0 (some ⟨b28, o29, none⟩) n0_0 hb0_0 hs0_0 hs23.pk1 _ hr39) ?_ ?_
 ·rintro r41 _ F1 w43 _ rfl hs44 le45 ⟨ar41_0_0, nr41_0_0, ar41_1_2, nr41_1_2, rfl, rfl, hbr41_0_0, hsr41_0_0, hbr41_1_2, hsr41_1_2⟩
  have h47 := BU h40
  refine Vs 2 ?_
  refine St1 #[(vi r41.2.Op), (vi r41.2.Value), (.slice ar41_1_2 r41.2.Kids.length nr41_1_2), (vi x24.at_)] hs44 (fun w48 hs49 => ?_)
  refine Nt ?_
  refine Rt ?_
  obtain rfl := Aa h47
  exact ⟨rfl, (.agg #[(vi r41.2.Op), (vi r41.2.Value), (.slice ar41_1_2 r41.2.Kids.length nr41_1_2), (vi x24.at_)]), Av (l := [.cell 2 113]) (by kernel_rfl) (vs := [(.agg #[(vi r41.2.Op), (vi r41.2.Value), (.slice ar41_1_2 r41.2.Kids.length nr41_1_2), (vi x24.at_)])]) ⟨b21, 0, rfl, Ai (t := 113) (g := true) (s := 4) (by kernel_rfl) hs49.at1 rfl (by decide), trivial⟩, .inl ⟨_, F1, _, _, rfl, rfl, hs49.dr1, le45, ⟨ar41_0_0, nr41_0_0, ar41_1_2, nr41_1_2, rfl, rfl, hbr41_0_0, hsr41_0_0, hbr41_1_2, hsr41_1_2⟩⟩⟩
 ·rintro b50 F2 w51 rfl hs52 le53
  have h54 := Bn h40
  refine Ak ?_
  obtain rfl := Aa h54
  exact Cw hs52.dr0 le53
def B3 (N : Nat) (x0 : Ab) (x1 : Bo) (x2 : Int) : Option (Aj ⊕ Unit) :=
 ((CZ N x1.Expr).bind fun r24 => ((Do N x1.Expr).bind fun r32 => (bif (decide (r32 > 32)) then ((AQ N x0 2 x1.at_).bind fun r43 => sk r43 (fun b48 => some (.inl b48)) (fun r46 => none)) else (bif ((r24 == 0) || ((x2 != 0) && (r24 != x2))) then ((AQ N x0 61 x1.at_).bind fun r66 => sk r66 (fun b71 => some (.inl b71)) (fun r69 => none)) else some (.inr ())))))
theorem B8 : An Tryz.prog 88 := fun _ _ => by kernel_rfl
theorem Cj (N : Nat) {wb w0 : World} {Fb F0 : Mem} {Lf : Own} (bp0 : Nat) (x0 : Ab) (a0_0 : Sy) (n0_0 : Nat) (hb0_0 : LC x0.l_.length n0_0) (hs0_0 : SlA Ag F0 a0_0 x0.l_) (x1 : Bo) (a1_2 : Sy) (n1_2 : Nat) (hb1_2 : LC x1.Expr.Kids.length n1_2) (hs1_2 : SlA Ao F0 a1_2 x1.Expr.Kids) (x2 : Int) (hs0 : HS wb Fb w0 F0 ((sb bp0 (Ad x0 a0_0 n0_0) 100) :: Lf)) (r : (Aj ⊕ Unit)) (h : B3 N x0 x1 x2 = some r) :
  Calls Tryz.prog 88 ([(pt bp0 0), (.agg (Aw x1 a1_2 n1_2)), (vi x2)] : List Value).toArray w0 (BH wb Fb F0 Lf r (fun b => (.iface 158 (.agg (AH b)))) fun a F' v L' => v = (.tuple #[]) /\ L' = (sb bp0 (Ad x0 a0_0 n0_0) 100) :: Lf) := by
 refine Go 35 Tryz.func88 ?_
 refine Sq (Rg [0] ?_)
 refine Bx' 113 (Aw x1 a1_2 n1_2) hs0 (fun b21 w22 hs23 => ?_)
 refine Nss (Rg [0, 1, 2, 3] ?_)
 refine Vs 1 ?_
 refine Ld hs23.at0 ?_
 obtain ⟨r24, hr25, h26⟩ := bind_some h
 refine Cl' CF hs23 (DD N w22 F0 hs23.pers x1.Expr a1_2 n1_2 hb1_2 hs1_2 _ hr25) ?_
 rintro _ F1 w28 hs29 le30 rfl
 refine Vs 1 ?_
 refine Nt ?_
 refine Bk ?_
 refine Sq (Rg [0, 1, 2, 3, 4] ?_)
 refine Vs 1 ?_
 refine Ld hs29.at0 ?_
 obtain ⟨r32, hr33, h34⟩ := bind_some h26
 refine Cl' CV hs29 (D2 N w28 F1 hs29.pers x1.Expr a1_2 n1_2 hb1_2 (R8 hs1_2 le30) _ hr33) ?_
 rintro _ F2 w36 hs37 le38 rfl
 refine Vs 2 ?_
 refine Nt ?_
 refine Cd h34 (fun hb40 h41 => ?_) (fun hb40 h42 => ?_)
 ·refine Rg [0, 1, 2, 3] ?_
  refine Vs 2 ?_
  refine Ld hs37.at0 ?_
  obtain ⟨r43, hr44, h45⟩ := bind_some h41
  refine CP AK (AM N bp0 x0 a0_0 n0_0 hb0_0 (R8 hs0_0 (le30.trans le38)) 2 x1.at_ hs37.pk1 _ hr44) ?_ ?_
  ·rintro _ _ _ _ _ rfl _ _ _; cases hr44
  ·rintro b48 F4 w49 rfl hs50 le51
   have h52 := Bn h45
   refine AL ?_
   obtain rfl := Aa h52
   exact Cw hs50.dr0 ((le30.trans le38).trans le51)
 ·refine Sq (Rg [0, 1, 2, 3, 4, 5, 6, 7, 8, 9, 10, 11] ?_)
  refine Sb (fun f w => ∃ (F5 : Mem), HS wb Fb w F5 ((sb b21 (Aw x1 a1_2 n1_2) 113) :: (sb bp0 (Ad x0 a0_0 n0_0) 100) :: Lf) /\ R5 F2 F5 /\ FI f [] [(0, (pt bp0 0)), (4, (pt b21 0)), (19, (.bool ((r24 == 0) || ((x2 != 0) && (r24 != x2)))))]) ?_ ?_
  ·refine Vs 3 ?_
   refine Sa (r24 == 0) (fun hb61 => ?_) (fun hb61 => ?_)
   ·refine Ss hb61 3 ?_
    refine Su' 3 ?_
    refine Ss hb61 1 ?_
    refine Pk1 hb61 ?_
    refine Vs 1 ?_
    exact RY ⟨rfl, F2, hs37, (R6 _), (fJ ⟨rfl, rfl, (congrArg Value.bool (Gs hb61 rfl)), trivial⟩)⟩
   ·refine Vgs hb61 3 ?_
    refine Sa (x2 != 0) (fun hb62 => ?_) (fun hb62 => ?_)
    ·refine Vgs hb62 3 ?_
     refine Pg1 hb61 hb62 ?_
     refine Pk0 hb61 ?_
     refine Vs 1 ?_
     exact RY ⟨rfl, F2, hs37, (R6 _), (fJ ⟨rfl, rfl, (congrArg Value.bool (Cc hb61 (Dc hb62 rfl))), trivial⟩)⟩
    ·refine Ss hb62 3 ?_
     refine Pg0 hb61 hb62 ?_
     refine Pk0 hb61 ?_
     refine Vs 1 ?_
     exact RY ⟨rfl, F2, hs37, (R6 _), (fJ ⟨rfl, rfl, (congrArg Value.bool (Cc hb61 (E8 hb62 rfl))), trivial⟩)⟩
  ·rintro f w54 ⟨F5, hs55, le56, ⟨_, rfl⟩⟩
   refine Ac ?_
   refine Cd h42 (fun hb63 h64 => ?_) (fun hb63 h65 => ?_)
   ·refine Rg [0, 1, 2, 3] ?_
    refine Vs 2 ?_
    refine Ld hs55.at0 ?_
    obtain ⟨r66, hr67, h68⟩ := bind_some h64
    refine CP AK (AM N bp0 x0 a0_0 n0_0 hb0_0 (R8 hs0_0 ((le30.trans le38).trans le56)) 61 x1.at_ hs55.pk1 _ hr67) ?_ ?_
    ·rintro _ _ _ _ _ rfl _ _ _; cases hr67
    ·rintro b71 F7 w72 rfl hs73 le74
     have h75 := Bn h68
     refine AL ?_
     obtain rfl := Aa h75
     exact Cw hs73.dr0 (((le30.trans le38).trans le56).trans le74)
   ·refine Sc ?_
    refine Ap ?_
    obtain rfl := Aa h65
    exact ReP [] hs55.dr0 ((le30.trans le38).trans le56) ⟨rfl, rfl⟩
def EZ (N : Nat) (x0 : Ab) (z0 : Bo) : Option (Aj ⊕ (Ab × Bo)) :=
 ((BP N x0).bind fun r21 => sk r21 (fun b83 => some (.inl b83)) (fun r24 => ((idx r24.1.l_ 0).bind fun x33 => (bif (x33.kind_ != 0) then ((idx r24.1.l_ 0).bind fun x50 => ((AQ N r24.1 60 x50.at_).bind fun r56 => sk r56 (fun b61 => some (.inl b61)) (fun r59 => none))) else ((B3 N r24.1 r24.2 0).bind fun r67 => sk r67 (fun b77 => some (.inl b77)) (fun r70 => some (.inr (r24.1, r24.2))))))))
theorem GI : An Tryz.prog 85 := fun _ _ => by kernel_rfl
theorem Hb (N : Nat) {wb w0 : World} {Fb F0 : Mem} {Lf : Own} (hG : CI F0) (bp0 : Nat) (x0 : Ab) (a0_0 : Sy) (n0_0 : Nat) (hb0_0 : LC x0.l_.length n0_0) (hs0_0 : SlA Ag F0 a0_0 x0.l_) (bz0 : Nat) (z0 : Bo) (az0_2 : Sy) (nz0_2 : Nat) (hbz0_2 : LC z0.Expr.Kids.length nz0_2) (hsz0_2 : SlA Ao F0 az0_2 z0.Expr.Kids) (hs0 : HS wb Fb w0 F0 ((sb bp0 (Ad x0 a0_0 n0_0) 100) :: (sb bz0 (Aw z0 az0_2 nz0_2) 113) :: Lf)) (r : (Aj ⊕ (Ab × Bo))) (h : EZ N x0 z0 = some r) :
  Calls Tryz.prog 85 ([(pt bp0 0), (pt bz0 0)] : List Value).toArray w0 (BH wb Fb F0 Lf r (fun b => (.iface 158 (.agg (AH b)))) fun a F' v L' => ∃ (aq0_0 : Sy) (nq0_0 : Nat) (aq1_2 : Sy) (nq1_2 : Nat), v = (.tuple #[]) /\ L' = (sb bp0 (Ad a.1 aq0_0 nq0_0) 100) :: (sb bz0 (Aw a.2 aq1_2 nq1_2) 113) :: Lf /\ LC a.1.l_.length nq0_0 /\ SlA Ag F' aq0_0 a.1.l_ /\ LC a.2.Expr.Kids.length nq1_2 /\ SlA Ao F' aq1_2 a.2.Expr.Kids) := by
 refine Go 25 Tryz.func85 ?_
 refine Sq (Rg [0, 1, 2] ?_)
 refine Vs 1 ?_
 obtain ⟨r21, hr22, h23⟩ := bind_some h
 refine CP BW (B9 N hG bp0 x0 a0_0 n0_0 hb0_0 hs0_0 hs0 _ hr22) ?_ ?_
 ·rintro r24 _ F1 w26 _ rfl hs27 le28 ⟨ar24_0_0, nr24_0_0, ar24_1_2, nr24_1_2, rfl, rfl, hbr24_0_0, hsr24_0_0, hbr24_1_2, hsr24_1_2⟩
  have h30 := BU h23
  refine St1 (Aw r24.2 ar24_1_2 nr24_1_2) hs27 (fun w31 hs32 => ?_)
  refine Nss ?_
  refine Sq (Rg [0, 1, 2, 3, 4, 5, 6, 7] ?_)
  refine Vs 3 ?_
  refine Ld hs32.at0 ?_
  obtain ⟨x33, hx34, h36⟩ := bind_some h30
  obtain ⟨hi35, hx34'⟩ := Ay hx34
  obtain ⟨b37, o38, C39, E40, fz41, rfl, hF43, hE44⟩ := Sh hsr24_0_0 hx34'
  have hc46 := hE44 _ _ hx34'
  refine Ix hi35 ?_
  refine Vs 1 ?_
  refine Lx 0 (hs32.pers _ _ hF43) hc46 ?_
  refine Vs 1 ?_
  refine Nt ?_
  refine Cd h36 (fun hb47 h48 => ?_) (fun hb47 h49 => ?_)
  ·refine Rg [0, 1, 2, 3, 4, 5, 6, 7, 8] ?_
   refine Vs 4 ?_
   refine Ld hs32.at0 ?_
   obtain ⟨x50, hx51, h53⟩ := bind_some h48
   obtain ⟨hi52, hx51'⟩ := Ay hx51
   have hc55 := hE44 _ _ hx51'
   refine Ix hi52 ?_
   refine Vs 1 ?_
   refine Lx 1 (hs32.pers _ _ hF43) hc55 ?_
   obtain ⟨r56, hr57, h58⟩ := bind_some h53
   refine CP AK (AM N bp0 r24.1 (some ⟨b37, o38, none⟩) nr24_0_0 hbr24_0_0 hsr24_0_0 60 x50.at_ hs32 _ hr57) ?_ ?_
   ·rintro _ _ _ _ _ rfl _ _ _; cases hr57
   ·rintro b61 F3 w62 rfl hs63 le64
    have h65 := Bn h58
    refine Ak ?_
    obtain rfl := Aa h65
    exact Cw hs63.dr0 (le28.trans le64)
  ·refine Sc ?_
   refine Ac ?_
   refine Rg [0, 1, 2] ?_
   refine Vs 1 ?_
   refine Ld hs32.at1 ?_
   obtain ⟨r67, hr68, h69⟩ := bind_some h49
   refine CP B8 (Cj N bp0 r24.1 (some ⟨b37, o38, none⟩) nr24_0_0 hbr24_0_0 hsr24_0_0 r24.2 ar24_1_2 nr24_1_2 hbr24_1_2 hsr24_1_2 0 hs32 _ hr68) ?_ ?_
   ·rintro r70 _ F4 w72 _ rfl hs73 le74 ⟨rfl, rfl⟩
    have h76 := BU h69
    refine RY ?_
    obtain rfl := Aa h76
    exact ReP [] hs73 (le28.trans le74) ⟨(some ⟨b37, o38, none⟩), nr24_0_0, ar24_1_2, nr24_1_2, rfl, rfl, hbr24_0_0, (R8 hsr24_0_0 le74), hbr24_1_2, (R8 hsr24_1_2 le74)⟩
   ·rintro b77 F5 w78 rfl hs79 le80
    have h81 := Bn h69
    obtain rfl := Aa h81
    exact Cw hs79.dr0 (le28.trans le80)
 ·rintro b83 F6 w84 rfl hs85 le86
  have h87 := Bn h23
  refine Ak ?_
  obtain rfl := Aa h87
  exact Cw hs85.dr0 le86
def Dn (N : Nat) (x0 : Ab) : Option (Aj ⊕ Unit) :=
 (((idx x0.l_ 0).bind fun x30 => (bif (x30.kind_ != 0) then ((AP N x0 ([10] : Sx)).bind fun r47 => some (!r47)) else some false)).bind fun j24 => (bif j24 then ((idx x0.l_ 0).bind fun x57 => ((AQ N x0 60 x57.at_).bind fun r71 => sk r71 (fun b76 => some (.inl b76)) (fun r74 => none))) else some (.inr ())))
theorem DJ : An Tryz.prog 136 := fun _ _ => by kernel_rfl
theorem Ee (N : Nat) {wb w0 : World} {Fb F0 : Mem} {Lf : Own} (bp0 : Nat) (x0 : Ab) (a0_0 : Sy) (n0_0 : Nat) (hb0_0 : LC x0.l_.length n0_0) (hs0_0 : SlA Ag F0 a0_0 x0.l_) (hs0 : HS wb Fb w0 F0 ((sb bp0 (Ad x0 a0_0 n0_0) 100) :: Lf)) (r : (Aj ⊕ Unit)) (h : Dn N x0 = some r) :
  Calls Tryz.prog 136 ([(pt bp0 0)] : List Value).toArray w0 (BH wb Fb F0 Lf r (fun b => (.iface 158 (.agg (AH b)))) fun a F' v L' => v = (.tuple #[]) /\ L' = (sb bp0 (Ad x0 a0_0 n0_0) 100) :: Lf) := by
 refine Go 24 Tryz.func136 ?_
 refine Sq (Rg [0, 1, 2, 3, 4, 5, 6, 7, 8, 9, 10, 11, 12] ?_)
 obtain ⟨j24, hj28, h29⟩ := bind_some h
 refine Sb (fun f w => ∃ (F1 : Mem), HS wb Fb w F1 ((sb bp0 (Ad x0 a0_0 n0_0) 100) :: Lf) /\ R5 F0 F1 /\ FI f [] [(0, (pt bp0 0)), (14, (.bool j24))]) ?_ ?_
 ·refine Vs 3 ?_
  refine Ld hs0.at0 ?_
  obtain ⟨x30, hx31, h33⟩ := bind_some hj28
  obtain ⟨hi32, hx31'⟩ := Ay hx31
  obtain ⟨b34, o35, C36, E37, fz38, rfl, hF40, hE41⟩ := Sh hs0_0 hx31'
  have hc43 := hE41 _ _ hx31'
  refine Ix hi32 ?_
  refine Vs 1 ?_
  refine Lx 0 (hs0.pers _ _ hF40) hc43 ?_
  refine Vs 2 ?_
  refine Sp h33 (fun hb44 h45 => ?_) (fun hb44 h46 => ?_)
  ·refine Vgs hb44 1 ?_
   obtain ⟨r47, hr48, h49⟩ := bind_some h45
   refine RWP.callB (dst := (some 12)) (ty := 4) (g := (some (8, true))) (by kernel_rfl) (K5 (d := 10) (by kernel_rfl) rfl hb44) (f0 := (.func 134)) (aos := #[(.tmp 11), (.const (.string ⟨([10] : Sx).toArray⟩))]) (ats := #[95, 9]) (fid := 134) (first := #[]) (cap := #[]) (args := [(pt bp0 0), (.string ⟨(([10] : Sx)).toArray⟩)]) rfl Ch rfl (Co N bp0 x0 (some ⟨b34, o35, none⟩) n0_0 hb0_0 hs0_0 (([10] : Sx)) hs0 _ hr48) ?_
   rintro _ F2 w50 _ hs51 le52 ⟨rfl, rfl⟩
   refine Vgs hb44 1 ?_
   refine Pk1 hb44 ?_
   obtain rfl := Aa h49
   exact RY ⟨rfl, F2, hs51, le52, fI⟩
  ·refine Ss hb44 3 ?_
   refine Pk0 hb44 ?_
   obtain rfl := Aa h46
   exact RY ⟨rfl, F0, hs0, (R6 _), fI⟩
 ·rintro f w21 ⟨F1, hs22, le23, ⟨_, rfl⟩⟩
  refine Ac ?_
  refine Cd h29 (fun hb54 h55 => ?_) (fun hb54 h56 => ?_)
  ·refine Rg [0, 1, 2, 3, 4, 5, 6, 7, 8] ?_
   refine Vs 4 ?_
   refine Ld hs22.at0 ?_
   obtain ⟨x57, hx58, h60⟩ := bind_some h55
   obtain ⟨hi59, hx58'⟩ := Ay hx58
   obtain ⟨b61, o62, C63, E64, fz65, rfl, hF67, hE68⟩ := Sh (R8 hs0_0 le23) hx58'
   have hc70 := hE68 _ _ hx58'
   refine Ix hi59 ?_
   refine Vs 1 ?_
   refine Lx 1 (hs22.pers _ _ hF67) hc70 ?_
   obtain ⟨r71, hr72, h73⟩ := bind_some h60
   refine CP AK (AM N bp0 x0 (some ⟨b61, o62, none⟩) n0_0 hb0_0 (R8 hs0_0 le23) 60 x57.at_ hs22 _ hr72) ?_ ?_
   ·rintro _ _ _ _ _ rfl _ _ _; cases hr72
   ·rintro b76 F4 w77 rfl hs78 le79
    have h80 := Bn h73
    obtain rfl := Aa h80
    exact Cw hs78 (le23.trans le79)
  ·refine Sc ?_
   obtain rfl := Aa h56
   exact ReP [] hs22 le23 ⟨rfl, rfl⟩
def Ei (N : Nat) (x0 : Ab) (x1 : (List Expr)) (x2 : Int) : Option (Aj ⊕ Unit) :=
 (bif ((x1.length : Int) == 64) then ((AQ N x0 2 x2).bind fun r24 => sk r24 (fun b29 => some (.inl b29)) (fun r27 => none)) else some (.inr ()))
theorem FO : An Tryz.prog 137 := fun _ _ => by kernel_rfl
theorem FZ (N : Nat) {wb w0 : World} {Fb F0 : Mem} {Lf : Own} (bp0 : Nat) (x0 : Ab) (a0_0 : Sy) (n0_0 : Nat) (hb0_0 : LC x0.l_.length n0_0) (hs0_0 : SlA Ag F0 a0_0 x0.l_) (x1 : (List Expr)) (a1_0 : Sy) (n1_0 : Nat) (x2 : Int) (hs0 : HS wb Fb w0 F0 ((sb bp0 (Ad x0 a0_0 n0_0) 100) :: Lf)) (r : (Aj ⊕ Unit)) (h : Ei N x0 x1 x2 = some r) :
  Calls Tryz.prog 137 ([(pt bp0 0), (.slice a1_0 x1.length n1_0), (vi x2)] : List Value).toArray w0 (BH wb Fb F0 Lf r (fun b => (.iface 158 (.agg (AH b)))) fun a F' v L' => v = (.tuple #[]) /\ L' = (sb bp0 (Ad x0 a0_0 n0_0) 100) :: Lf) := by
 refine Go 12 Tryz.func137 ?_
 refine Sq (Rg [0, 1, 2] ?_)
 refine Vs 3 ?_
 refine Nt ?_
 refine Cd h (fun hb21 h22 => ?_) (fun hb21 h23 => ?_)
 ·refine Rg [0, 1, 2] ?_
  refine Vs 2 ?_
  obtain ⟨r24, hr25, h26⟩ := bind_some h22
  refine CP AK (AM N bp0 x0 a0_0 n0_0 hb0_0 hs0_0 2 x2 hs0 _ hr25) ?_ ?_
  ·rintro _ _ _ _ _ rfl _ _ _; cases hr25
  ·rintro b29 F2 w30 rfl hs31 le32
   have h33 := Bn h26
   obtain rfl := Aa h33
   exact Cw hs31 le32
 ·refine Sc ?_
  obtain rfl := Aa h23
  exact ReP [] hs0 (R6 _) ⟨rfl, rfl⟩
def DG (N : Nat) (x0 : Ab) (x1 : (List Clause)) (x2 : Int) : Option (Aj ⊕ Unit) :=
 (bif ((x1.length : Int) == 64) then ((AQ N x0 2 x2).bind fun r24 => sk r24 (fun b29 => some (.inl b29)) (fun r27 => none)) else some (.inr ()))
theorem Fe : An Tryz.prog 138 := fun _ _ => by kernel_rfl
theorem FA (N : Nat) {wb w0 : World} {Fb F0 : Mem} {Lf : Own} (bp0 : Nat) (x0 : Ab) (a0_0 : Sy) (n0_0 : Nat) (hb0_0 : LC x0.l_.length n0_0) (hs0_0 : SlA Ag F0 a0_0 x0.l_) (x1 : (List Clause)) (a1_0 : Sy) (n1_0 : Nat) (x2 : Int) (hs0 : HS wb Fb w0 F0 ((sb bp0 (Ad x0 a0_0 n0_0) 100) :: Lf)) (r : (Aj ⊕ Unit)) (h : DG N x0 x1 x2 = some r) :
  Calls Tryz.prog 138 ([(pt bp0 0), (.slice a1_0 x1.length n1_0), (vi x2)] : List Value).toArray w0 (BH wb Fb F0 Lf r (fun b => (.iface 158 (.agg (AH b)))) fun a F' v L' => v = (.tuple #[]) /\ L' = (sb bp0 (Ad x0 a0_0 n0_0) 100) :: Lf) := by
 refine Go 12 Tryz.func138 ?_
 refine Sq (Rg [0, 1, 2] ?_)
 refine Vs 3 ?_
 refine Nt ?_
 refine Cd h (fun hb21 h22 => ?_) (fun hb21 h23 => ?_)
 ·refine Rg [0, 1, 2] ?_
  refine Vs 2 ?_
  obtain ⟨r24, hr25, h26⟩ := bind_some h22
  refine CP AK (AM N bp0 x0 a0_0 n0_0 hb0_0 hs0_0 2 x2 hs0 _ hr25) ?_ ?_
  ·rintro _ _ _ _ _ rfl _ _ _; cases hr25
  ·rintro b29 F2 w30 rfl hs31 le32
   have h33 := Bn h26
   obtain rfl := Aa h33
   exact Cw hs31 le32
 ·refine Sc ?_
  obtain rfl := Aa h23
  exact ReP [] hs0 (R6 _) ⟨rfl, rfl⟩
def HJ (b : Nat) (S : Sx -> Option Value) (e : Option Nat × Obj) : Prop :=
 ∃ es clk, e = (some b, .map es clk) /\ ∀ k : Sx, ∃ r, Instr.findNow .string (.string ⟨k.toArray⟩) es.toList 0 = some r /\ r.map (·.2) = S k
def Es (S : Sx -> Option Value) (k : Sx) (v : Value) : Sx -> Option Value := fun x => if x = k then some v else S x
theorem H7 {d : TypeDesc} {k : Value} {e : MapEntry} {b : Bool} (hs : Instr.sameNow d k e.key = some b) : ∀ (es : List MapEntry) (i : Nat) (r : Option (Nat × Value)), Instr.findNow d k es i = some r ->
  ∃ r', Instr.findNow d k (es ++ [e]) i = some r' /\ r'.map (·.2) = match r with | some p => some p.2 | none => if b then some e.val else none
 | [], i, r, h => by
  simp only [Instr.findNow, Option.some.injEq] at h; subst h
  cases b with
  | true => exact ⟨some (i, e.val), by simp [Instr.findNow, hs], rfl⟩
  | false => exact ⟨none, by simp [Instr.findNow, hs], rfl⟩
 | x :: es, i, r, h => by
  unfold Instr.findNow at h
  cases hx : Instr.sameNow d k x.key with
  | none => rw [hx] at h; cases h
  | some c =>
   rw [hx] at h
   cases c with
   | true => simp only [Option.some.injEq] at h; subst h; exact ⟨some (i, x.val), by simp [Instr.findNow, hx], rfl⟩
   | false =>
    simp only at h
    obtain ⟨r', h1, h2⟩ := H7 hs es (i + 1) r h
    exact ⟨r', by simp [Instr.findNow, hx, h1], h2⟩
theorem HJ.ins {b clk : Nat} {S : Sx -> Option Value} {es : Array MapEntry} (h : ∀ k : Sx, ∃ r, Instr.findNow .string (.string ⟨k.toArray⟩) es.toList 0 = some r /\ r.map (·.2) = S k) (k0 : Sx) (v : Value) (hn : S k0 = none) :
  HJ b (Es S k0 v) (some b, .map (es.push ⟨.string ⟨k0.toArray⟩, v, clk⟩) (clk + 1)) := by
 refine ⟨_, _, rfl, fun k => ?_⟩
 obtain ⟨r, h1, h2⟩ := h k
 have hs : Instr.sameNow .string (.string ⟨k.toArray⟩) (.string ⟨k0.toArray⟩) = some (decide (k = k0)) := by
  simp only [Instr.sameNow, Option.some.injEq]
  rw [beq_toListBytes, ByteArray.toList_eq, ByteArray.toList_eq, Bool.eq_iff_iff]; simp
 obtain ⟨r', h3, h4⟩ := H7 (e := ⟨.string ⟨k0.toArray⟩, v, clk⟩) hs es.toList 0 r h1
 refine ⟨r', by rw [Array.toList_push]; exact h3, ?_⟩
 rw [h4]
 unfold Es
 cases r with
 | some p =>
  simp only at h2 ⊢
  have hne : k ≠ k0 := fun e => by rw [e, hn] at h2; cases h2
  rw [if_neg hne, <- h2]; rfl
 | none =>
  simp only at h2 ⊢
  by_cases hk : k = k0
  ·simp [hk]
  ·simp only [hk, decide_false, Bool.false_eq_true, if_false]; rw [<- h2]; rfl
theorem HJ.nil (b : Nat) : HJ b (fun _ => none) (some b, .map #[] 0) := ⟨_, _, rfl, fun _ => ⟨none, rfl, rfl⟩⟩
theorem HJ.congr {b : Nat} {S S' : Sx -> Option Value} {e : Option Nat × Obj} (h : HJ b S e) (hs : ∀ k, S k = S' k) : HJ b S' e := by
 obtain ⟨es, clk, h1, h2⟩ := h; exact ⟨es, clk, h1, fun k => by rw [<- hs k]; exact h2 k⟩
section
variable {P : Program} {w w0 : World} {F0 F : Mem} {L : Own} {ρ : Operand -> Value} {ty : TypeId}
theorem HS.ownAt' {k : Nat} {e : Option Nat × Obj} (h : HS w0 F0 w F L) (hk : L[k]? = some e) : ∀ b o, e = (some b, o) -> w.heap[b]? = some o := fun b o he => h.ownAt (by rw [hk, he])
theorem MB {mt k vt : TypeId} {m x : Operand} {b : Nat} {S : Sx -> Option Value} {e : Option Nat × Obj} {t : Sx} {v : Value} (hm : ρ m = .map (some b)) (hx : ρ x = .string ⟨t.toArray⟩) (hu : P.underlying mt = some (.map k vt)) (hk : P.underlying k = some .string)
  (hw : ∀ b o, e = (some b, o) -> w.heap[b]? = some o) (hp : HJ b S e) (hS : S t = some v) : (Am ρ (.lookup mt m x true) ty).run P w = .ok (.value (.tuple #[v, .bool true])) w := by
 obtain ⟨es, clk, rfl, h2⟩ := hp
 have hb := hw b _ rfl
 obtain ⟨r, h3, h4⟩ := h2 t
 rw [hS] at h4
 cases r with
 | none => cases h4
 | some p =>
  obtain ⟨i, v'⟩ := p
  simp only [Option.map_some, Option.some.injEq] at h4
  subst h4
  have e : Am ρ (.lookup mt m x true) ty = (do pure (Next.value (<- Instr.lookup mt (ρ m) (ρ x) true))) := rfl
  rw [e, hm, hx]
  simp [Instr.lookup, run_underlying hu, MapKept.run_getObj_map hb, MapKept.run_checkKey hk (k := .string ⟨t.toArray⟩) trivial, MapKept.run_findKey hk h3, Result.andThen]
end
section
variable {P : Program} {n : Nat} {R : Array Oper} {PQ : List PanicEntry -> List Deferred -> World -> Prop} {Post : Fr -> World -> Prop} {zz fuel : Nat} {ll l' : List Bool} {zd : Bool} {Fs : Mem} {Lc Lz : Own} {w w0 : World} {F0 F : Mem} {L : Own} {f : Fr} {i : Nat} {dst : Option Nat} {ty : TypeId} {g : Option (Nat × Bool)}
theorem Az.pMake {t : TypeId} (hl : ll.set i true = l') (hzd : l'.toArray.getD zz true = zd) (ho : opq R i = some (dst, .makeMap t none, ty, g)) (hg : gd R f g = true) (hs : HS w0 F0 w F L) (hle : R5 Fs F) (hL : ∀ p, p ∈ Lc -> p ∈ L) (hLz : zd = false -> ∀ p, p ∈ Lz -> p ∈ L)
  (kk : ∀ b e w', HS w0 F0 w' F (e :: L) -> HJ b (fun _ => none) e -> DWP P n R PQ Post zz (DZ Fs Lc Lz) fuel l' (AX f dst (.map (some b))) w') : Az P n R PQ Post zz (DZ Fs Lc Lz) fuel ll i f w :=
 Sk hl hzd ho hg Ge (BF (hs.alloc _) hle (fun p hp => List.mem_cons_of_mem _ (hL p hp)) (fun e p hp => List.mem_cons_of_mem _ (hLz e p hp))) (kk _ _ _ (hs.alloc _) (HJ.nil _))
theorem Az.pIns {mt k vt : TypeId} {m x y : Operand} {b : Nat} {S : Sx -> Option Value} {k0 : Sx} {v : Value} {e : Option Nat × Obj} (hl : ll.set i true = l') (hzd : l'.toArray.getD zz true = zd) (ho : opq R i = some (none, .insert mt m x y, ty, g)) (hg : gd R f g = true)
  (hm : fev f m = .map (some b)) (hx : fev f x = .string ⟨k0.toArray⟩) (hy : fev f y = v) (hu : P.underlying mt = some (.map k vt)) (hk : P.underlying k = some .string) (hn : S k0 = none)
  (hs : HS w0 F0 w F (e :: L)) (hp : HJ b S e) (hle : R5 Fs F) (hL : ∀ p, p ∈ Lc -> p ∈ L) (hLz : zd = false -> ∀ p, p ∈ Lz -> p ∈ L)
  (kk : ∀ e' w', HS w0 F0 w' F (e' :: L) -> HJ b (Es S k0 v) e' -> DWP P n R PQ Post zz (DZ Fs Lc Lz) fuel l' f w') : Az P n R PQ Post zz (DZ Fs Lc Lz) fuel ll i f w := by
 obtain ⟨es, clk, rfl, h2⟩ := hp
 have hb := hs.ownAt (k := 0) rfl
 obtain ⟨r, h3, h4⟩ := h2 k0
 rw [hn] at h4
 have hr : r = none := by cases r with | none => rfl | some p => cases h4
 subst hr
 have hs' := hs.put (k := 0) rfl (.map (es.push ⟨.string ⟨k0.toArray⟩, v, clk⟩) (clk + 1))
 have hset : (setObj b (.map (es.push ⟨.string ⟨k0.toArray⟩, v, clk⟩) (clk + 1))).run P w = .ok () (Ct w b (.map (es.push ⟨.string ⟨k0.toArray⟩, v, clk⟩) (clk + 1))) := by
  rw [MapKept.run_setObj_map _ hb]; rfl
 refine Sl hl hzd ho hg (w' := Ct w b (.map (es.push ⟨.string ⟨k0.toArray⟩, v, clk⟩) (clk + 1))) ?_ (BF hs' hle (fun p hp => List.mem_cons_of_mem _ (hL p hp)) (fun e p hp => List.mem_cons_of_mem _ (hLz e p hp))) (kk _ _ hs' (HJ.ins h2 k0 v hn))
 have e : Am (fev f) (.insert mt m x y) ty = (do Instr.mapUpdate mt (fev f m) (fev f x) (fev f y); pure .skip) := rfl
 rw [e, hm, hx, hy]
 simp [Instr.mapUpdate, run_underlying hu, MapKept.run_getObj_map hb, MapKept.run_checkKey hk (k := .string ⟨k0.toArray⟩) trivial, MapKept.run_findKey hk h3, Result.andThen, hset]
abbrev St := @Az.pIns
end
def Ez (b : Nat) : Sx -> Option Value := fun t => if t = [112, 111, 105, 110, 116, 115] then some (.pointer (some ⟨b, 0, none⟩)) else if t = [109, 117, 108, 116, 105, 112, 108, 105, 101, 114] then some (.pointer (some ⟨b, 1, none⟩)) else if t = [112, 101, 110, 97, 108, 116, 121] then some (.pointer (some ⟨b, 2, none⟩)) else none
section
variable {b : Nat} {t : Sx}
theorem OK (h : (t == ([112, 111, 105, 110, 116, 115] : Sx)) = true) : Ez b t = some (.pointer (some ⟨b, 0, none⟩)) := by
 have := eq_of_beq h; subst this; rfl
end
theorem Nw {wb w : World} {Fb F : Mem} {L : Own} {f : Fr} {bp : Nat} {Q : Exit -> Fr -> World -> Prop} (hs0 : HS wb Fb w F L) (h1 : f 1 = .pointer (some ⟨bp, 0, none⟩))
  (k : ∀ (f' : Fr) (w' : World) (e : Option Nat × Obj) (b : Nat), HS wb Fb w' F (e :: L) -> HJ b (Ez bp) e -> f' 6 = .map (some b) -> (f'.d = f.d /\ f' 0 = f 0 /\ f' 4 = f 4) -> Q .normal f' w') : CWP Tryz.prog none 114 (cs1 (cs2 (cs2 (B7 Tryz.f81)))) Q f w := by
 refine CWP.regionD (by kernel_rfl) (by kernel_rfl) (by kernel_rfl) (by kernel_rfl) (z := 15) (F := F) (Lc := []) (Lz := []) (l := [false, false, false, false, false, false, false, false, false, false, false, false, false, false, false]) (fuel := 15) (by kernel_rfl) (by kernel_rfl) hs0 (by simp) (by simp) (fun f' w' => ∃ e b, HS wb Fb w' F (e :: L) /\ HJ b (Ez bp) e /\ f' 6 = .map (some b) /\ f'.d = f.d /\ f' 0 = f 0 /\ f' 4 = f 4) (fun wd hw => ?_) ?_
 ·refine Si (i := 1) (v := (.pointer (some ⟨bp, 0, none⟩))) (zd := true) (dst := (some 49)) (ty := 102) (g := none) (by kernel_rfl) (by kernel_rfl) (by kernel_rfl) (by kernel_rfl) (by kernel_rfl) rfl (fun wq hq => (AJ (x := .tmp 1) (v := (.pointer (some ⟨bp, 0, none⟩))) h1)) (l' := [false, true, false, false, false, false, false, false, false, false, false, false, false, false, false]) (by kernel_rfl) ?_
  refine Si (i := 2) (v := (.pointer (some ⟨bp, 0, none⟩))) (zd := true) (dst := (some 50)) (ty := 0) (g := none) (by kernel_rfl) (by kernel_rfl) (by kernel_rfl) (by kernel_rfl) (by kernel_rfl) rfl (fun wq hq => (Dw (x := .tmp 49) (a := ⟨bp, 0, none⟩) rfl)) (l' := [false, true, true, false, false, false, false, false, false, false, false, false, false, false, false]) (by kernel_rfl) ?_
  refine Si (i := 3) (v := (.pointer (some ⟨bp, 0, none⟩))) (zd := true) (dst := (some 51)) (ty := 0) (g := none) (by kernel_rfl) (by kernel_rfl) (by kernel_rfl) (by kernel_rfl) (by kernel_rfl) rfl (fun wq hq => (B0 (s := 26) (x := .tmp 50) (i := 0) (o := 0) (k := 1) (b := bp) (o0 := 0) rfl (by kernel_rfl) rfl (o1 := 0) rfl)) (l' := [false, true, true, true, false, false, false, false, false, false, false, false, false, false, false]) (by kernel_rfl) ?_
  refine Si (i := 5) (v := (.pointer (some ⟨bp, 0, none⟩))) (zd := true) (dst := (some 52)) (ty := 102) (g := none) (by kernel_rfl) (by kernel_rfl) (by kernel_rfl) (by kernel_rfl) (by kernel_rfl) rfl (fun wq hq => (AJ (x := .tmp 1) (v := (.pointer (some ⟨bp, 0, none⟩))) h1)) (l' := [false, true, true, true, false, true, false, false, false, false, false, false, false, false, false]) (by kernel_rfl) ?_
  refine Si (i := 6) (v := (.pointer (some ⟨bp, 0, none⟩))) (zd := true) (dst := (some 53)) (ty := 0) (g := none) (by kernel_rfl) (by kernel_rfl) (by kernel_rfl) (by kernel_rfl) (by kernel_rfl) rfl (fun wq hq => (Dw (x := .tmp 52) (a := ⟨bp, 0, none⟩) rfl)) (l' := [false, true, true, true, false, true, true, false, false, false, false, false, false, false, false]) (by kernel_rfl) ?_
  refine Si (i := 7) (v := (.pointer (some ⟨bp, 1, none⟩))) (zd := true) (dst := (some 54)) (ty := 0) (g := none) (by kernel_rfl) (by kernel_rfl) (by kernel_rfl) (by kernel_rfl) (by kernel_rfl) rfl (fun wq hq => (B0 (s := 26) (x := .tmp 53) (i := 1) (o := 1) (k := 1) (b := bp) (o0 := 0) rfl (by kernel_rfl) rfl (o1 := 1) rfl)) (l' := [false, true, true, true, false, true, true, true, false, false, false, false, false, false, false]) (by kernel_rfl) ?_
  refine Si (i := 9) (v := (.pointer (some ⟨bp, 0, none⟩))) (zd := true) (dst := (some 55)) (ty := 102) (g := none) (by kernel_rfl) (by kernel_rfl) (by kernel_rfl) (by kernel_rfl) (by kernel_rfl) rfl (fun wq hq => (AJ (x := .tmp 1) (v := (.pointer (some ⟨bp, 0, none⟩))) h1)) (l' := [false, true, true, true, false, true, true, true, false, true, false, false, false, false, false]) (by kernel_rfl) ?_
  refine Si (i := 10) (v := (.pointer (some ⟨bp, 0, none⟩))) (zd := true) (dst := (some 56)) (ty := 0) (g := none) (by kernel_rfl) (by kernel_rfl) (by kernel_rfl) (by kernel_rfl) (by kernel_rfl) rfl (fun wq hq => (Dw (x := .tmp 55) (a := ⟨bp, 0, none⟩) rfl)) (l' := [false, true, true, true, false, true, true, true, false, true, true, false, false, false, false]) (by kernel_rfl) ?_
  refine Si (i := 11) (v := (.pointer (some ⟨bp, 2, none⟩))) (zd := true) (dst := (some 57)) (ty := 0) (g := none) (by kernel_rfl) (by kernel_rfl) (by kernel_rfl) (by kernel_rfl) (by kernel_rfl) rfl (fun wq hq => (B0 (s := 26) (x := .tmp 56) (i := 2) (o := 2) (k := 1) (b := bp) (o0 := 0) rfl (by kernel_rfl) rfl (o1 := 2) rfl)) (l' := [false, true, true, true, false, true, true, true, false, true, true, true, false, false, false]) (by kernel_rfl) ?_
  refine Sj (i := 0) (by kernel_rfl) ?_
  refine Az.pMake (l' := [true, true, true, true, false, true, true, true, false, true, true, true, false, false, false]) (zd := true) (by kernel_rfl) (by kernel_rfl) (dst := some 48) (ty := 167) (g := none) (by kernel_rfl) rfl (t := 167) hw (R6 _) (by simp) (fun e => by cases e) (fun b e0 w0 hs1 hp0 => ?_)
  refine DWP.three (i := 4) (j := 8) (k := 12) (by kernel_rfl) ?_ ?_ ?_
  ·
   refine St (l' := [true, true, true, true, true, true, true, true, false, true, true, true, false, false, false]) (zd := true) (by kernel_rfl) (by kernel_rfl) (ty := 0) (g := none) (by kernel_rfl) rfl (mt := 167) (k := 9) (vt := 166) (m := .tmp 48) (x := .const (.string ⟨([112, 111, 105, 110, 116, 115] : Sx).toArray⟩)) (y := .tmp 51) (k0 := [112, 111, 105, 110, 116, 115]) (v := .pointer (some ⟨bp, 0, none⟩)) rfl rfl rfl (by kernel_rfl) (by kernel_rfl) (by simp [Es]) hs1 hp0 (R6 _) (by simp) (fun e => by cases e) (fun e11 w11 hs11 hp11 => ?_)
   refine DWP.two (i := 8) (j := 12) (by kernel_rfl) ?_ ?_
   ·
    refine St (l' := [true, true, true, true, true, true, true, true, true, true, true, true, false, false, false]) (zd := true) (by kernel_rfl) (by kernel_rfl) (ty := 0) (g := none) (by kernel_rfl) rfl (mt := 167) (k := 9) (vt := 166) (m := .tmp 48) (x := .const (.string ⟨([109, 117, 108, 116, 105, 112, 108, 105, 101, 114] : Sx).toArray⟩)) (y := .tmp 54) (k0 := [109, 117, 108, 116, 105, 112, 108, 105, 101, 114]) (v := .pointer (some ⟨bp, 1, none⟩)) rfl rfl rfl (by kernel_rfl) (by kernel_rfl) (by simp [Es]) hs11 hp11 (R6 _) (by simp) (fun e => by cases e) (fun e12 w12 hs12 hp12 => ?_)
    refine Sj (i := 12) (by kernel_rfl) ?_
    refine St (l' := [true, true, true, true, true, true, true, true, true, true, true, true, true, false, false]) (zd := true) (by kernel_rfl) (by kernel_rfl) (ty := 0) (g := none) (by kernel_rfl) rfl (mt := 167) (k := 9) (vt := 166) (m := .tmp 48) (x := .const (.string ⟨([112, 101, 110, 97, 108, 116, 121] : Sx).toArray⟩)) (y := .tmp 57) (k0 := [112, 101, 110, 97, 108, 116, 121]) (v := .pointer (some ⟨bp, 2, none⟩)) rfl rfl rfl (by kernel_rfl) (by kernel_rfl) (by simp [Es]) hs12 hp12 (R6 _) (by simp) (fun e => by cases e) (fun e13 w13 hs13 hp13 => ?_)
    refine Sj (i := 13) (by kernel_rfl) ?_
    refine Sk (l' := [true, true, true, true, true, true, true, true, true, true, true, true, true, true, false]) (zd := true) (by kernel_rfl) (by kernel_rfl) (dst := some 58) (ty := 167) (g := none) (by kernel_rfl) rfl (AJ (x := .tmp 48) (v := .map (some b)) rfl) (BF hs13 (R6 _) (by simp) (fun e => by cases e)) ?_
    refine Sj (i := 14) (by kernel_rfl) ?_
    refine Sk (l' := [true, true, true, true, true, true, true, true, true, true, true, true, true, true, true]) (zd := true) (by kernel_rfl) (by kernel_rfl) (dst := some 6) (ty := 167) (g := none) (by kernel_rfl) rfl (AA (x := .tmp 58) (v := .map (some b)) rfl) (BF hs13 (R6 _) (by simp) (fun e => by cases e)) ?_
    exact Sm (by kernel_rfl) ⟨_, b, hs13, hp13.congr (fun k => by by_cases a : k = [112, 111, 105, 110, 116, 115] <;> by_cases b : k = [109, 117, 108, 116, 105, 112, 108, 105, 101, 114] <;> by_cases c : k = [112, 101, 110, 97, 108, 116, 121] <;> simp_all [Es, Ez]), rfl, rfl, rfl, rfl⟩
   ·
    refine St (l' := [true, true, true, true, true, true, true, true, false, true, true, true, true, false, false]) (zd := true) (by kernel_rfl) (by kernel_rfl) (ty := 0) (g := none) (by kernel_rfl) rfl (mt := 167) (k := 9) (vt := 166) (m := .tmp 48) (x := .const (.string ⟨([112, 101, 110, 97, 108, 116, 121] : Sx).toArray⟩)) (y := .tmp 57) (k0 := [112, 101, 110, 97, 108, 116, 121]) (v := .pointer (some ⟨bp, 2, none⟩)) rfl rfl rfl (by kernel_rfl) (by kernel_rfl) (by simp [Es]) hs11 hp11 (R6 _) (by simp) (fun e => by cases e) (fun e14 w14 hs14 hp14 => ?_)
    refine Sj (i := 8) (by kernel_rfl) ?_
    refine St (l' := [true, true, true, true, true, true, true, true, true, true, true, true, true, false, false]) (zd := true) (by kernel_rfl) (by kernel_rfl) (ty := 0) (g := none) (by kernel_rfl) rfl (mt := 167) (k := 9) (vt := 166) (m := .tmp 48) (x := .const (.string ⟨([109, 117, 108, 116, 105, 112, 108, 105, 101, 114] : Sx).toArray⟩)) (y := .tmp 54) (k0 := [109, 117, 108, 116, 105, 112, 108, 105, 101, 114]) (v := .pointer (some ⟨bp, 1, none⟩)) rfl rfl rfl (by kernel_rfl) (by kernel_rfl) (by simp [Es]) hs14 hp14 (R6 _) (by simp) (fun e => by cases e) (fun e15 w15 hs15 hp15 => ?_)
    refine Sj (i := 13) (by kernel_rfl) ?_
    refine Sk (l' := [true, true, true, true, true, true, true, true, true, true, true, true, true, true, false]) (zd := true) (by kernel_rfl) (by kernel_rfl) (dst := some 58) (ty := 167) (g := none) (by kernel_rfl) rfl (AJ (x := .tmp 48) (v := .map (some b)) rfl) (BF hs15 (R6 _) (by simp) (fun e => by cases e)) ?_
    refine Sj (i := 14) (by kernel_rfl) ?_
    refine Sk (l' := [true, true, true, true, true, true, true, true, true, true, true, true, true, true, true]) (zd := true) (by kernel_rfl) (by kernel_rfl) (dst := some 6) (ty := 167) (g := none) (by kernel_rfl) rfl (AA (x := .tmp 58) (v := .map (some b)) rfl) (BF hs15 (R6 _) (by simp) (fun e => by cases e)) ?_
    exact Sm (by kernel_rfl) ⟨_, b, hs15, hp15.congr (fun k => by by_cases a : k = [112, 111, 105, 110, 116, 115] <;> by_cases b : k = [109, 117, 108, 116, 105, 112, 108, 105, 101, 114] <;> by_cases c : k = [112, 101, 110, 97, 108, 116, 121] <;> simp_all [Es, Ez]), rfl, rfl, rfl, rfl⟩
  ·
   refine St (l' := [true, true, true, true, false, true, true, true, true, true, true, true, false, false, false]) (zd := true) (by kernel_rfl) (by kernel_rfl) (ty := 0) (g := none) (by kernel_rfl) rfl (mt := 167) (k := 9) (vt := 166) (m := .tmp 48) (x := .const (.string ⟨([109, 117, 108, 116, 105, 112, 108, 105, 101, 114] : Sx).toArray⟩)) (y := .tmp 54) (k0 := [109, 117, 108, 116, 105, 112, 108, 105, 101, 114]) (v := .pointer (some ⟨bp, 1, none⟩)) rfl rfl rfl (by kernel_rfl) (by kernel_rfl) (by simp [Es]) hs1 hp0 (R6 _) (by simp) (fun e => by cases e) (fun e16 w16 hs16 hp16 => ?_)
   refine DWP.two (i := 4) (j := 12) (by kernel_rfl) ?_ ?_
   ·
    refine St (l' := [true, true, true, true, true, true, true, true, true, true, true, true, false, false, false]) (zd := true) (by kernel_rfl) (by kernel_rfl) (ty := 0) (g := none) (by kernel_rfl) rfl (mt := 167) (k := 9) (vt := 166) (m := .tmp 48) (x := .const (.string ⟨([112, 111, 105, 110, 116, 115] : Sx).toArray⟩)) (y := .tmp 51) (k0 := [112, 111, 105, 110, 116, 115]) (v := .pointer (some ⟨bp, 0, none⟩)) rfl rfl rfl (by kernel_rfl) (by kernel_rfl) (by simp [Es]) hs16 hp16 (R6 _) (by simp) (fun e => by cases e) (fun e17 w17 hs17 hp17 => ?_)
    refine Sj (i := 12) (by kernel_rfl) ?_
    refine St (l' := [true, true, true, true, true, true, true, true, true, true, true, true, true, false, false]) (zd := true) (by kernel_rfl) (by kernel_rfl) (ty := 0) (g := none) (by kernel_rfl) rfl (mt := 167) (k := 9) (vt := 166) (m := .tmp 48) (x := .const (.string ⟨([112, 101, 110, 97, 108, 116, 121] : Sx).toArray⟩)) (y := .tmp 57) (k0 := [112, 101, 110, 97, 108, 116, 121]) (v := .pointer (some ⟨bp, 2, none⟩)) rfl rfl rfl (by kernel_rfl) (by kernel_rfl) (by simp [Es]) hs17 hp17 (R6 _) (by simp) (fun e => by cases e) (fun e18 w18 hs18 hp18 => ?_)
    refine Sj (i := 13) (by kernel_rfl) ?_
    refine Sk (l' := [true, true, true, true, true, true, true, true, true, true, true, true, true, true, false]) (zd := true) (by kernel_rfl) (by kernel_rfl) (dst := some 58) (ty := 167) (g := none) (by kernel_rfl) rfl (AJ (x := .tmp 48) (v := .map (some b)) rfl) (BF hs18 (R6 _) (by simp) (fun e => by cases e)) ?_
    refine Sj (i := 14) (by kernel_rfl) ?_
    refine Sk (l' := [true, true, true, true, true, true, true, true, true, true, true, true, true, true, true]) (zd := true) (by kernel_rfl) (by kernel_rfl) (dst := some 6) (ty := 167) (g := none) (by kernel_rfl) rfl (AA (x := .tmp 58) (v := .map (some b)) rfl) (BF hs18 (R6 _) (by simp) (fun e => by cases e)) ?_
    exact Sm (by kernel_rfl) ⟨_, b, hs18, hp18.congr (fun k => by by_cases a : k = [112, 111, 105, 110, 116, 115] <;> by_cases b : k = [109, 117, 108, 116, 105, 112, 108, 105, 101, 114] <;> by_cases c : k = [112, 101, 110, 97, 108, 116, 121] <;> simp_all [Es, Ez]), rfl, rfl, rfl, rfl⟩
   ·
    refine St (l' := [true, true, true, true, false, true, true, true, true, true, true, true, true, false, false]) (zd := true) (by kernel_rfl) (by kernel_rfl) (ty := 0) (g := none) (by kernel_rfl) rfl (mt := 167) (k := 9) (vt := 166) (m := .tmp 48) (x := .const (.string ⟨([112, 101, 110, 97, 108, 116, 121] : Sx).toArray⟩)) (y := .tmp 57) (k0 := [112, 101, 110, 97, 108, 116, 121]) (v := .pointer (some ⟨bp, 2, none⟩)) rfl rfl rfl (by kernel_rfl) (by kernel_rfl) (by simp [Es]) hs16 hp16 (R6 _) (by simp) (fun e => by cases e) (fun e19 w19 hs19 hp19 => ?_)
    refine Sj (i := 4) (by kernel_rfl) ?_
    refine St (l' := [true, true, true, true, true, true, true, true, true, true, true, true, true, false, false]) (zd := true) (by kernel_rfl) (by kernel_rfl) (ty := 0) (g := none) (by kernel_rfl) rfl (mt := 167) (k := 9) (vt := 166) (m := .tmp 48) (x := .const (.string ⟨([112, 111, 105, 110, 116, 115] : Sx).toArray⟩)) (y := .tmp 51) (k0 := [112, 111, 105, 110, 116, 115]) (v := .pointer (some ⟨bp, 0, none⟩)) rfl rfl rfl (by kernel_rfl) (by kernel_rfl) (by simp [Es]) hs19 hp19 (R6 _) (by simp) (fun e => by cases e) (fun e20 w20 hs20 hp20 => ?_)
    refine Sj (i := 13) (by kernel_rfl) ?_
    refine Sk (l' := [true, true, true, true, true, true, true, true, true, true, true, true, true, true, false]) (zd := true) (by kernel_rfl) (by kernel_rfl) (dst := some 58) (ty := 167) (g := none) (by kernel_rfl) rfl (AJ (x := .tmp 48) (v := .map (some b)) rfl) (BF hs20 (R6 _) (by simp) (fun e => by cases e)) ?_
    refine Sj (i := 14) (by kernel_rfl) ?_
    refine Sk (l' := [true, true, true, true, true, true, true, true, true, true, true, true, true, true, true]) (zd := true) (by kernel_rfl) (by kernel_rfl) (dst := some 6) (ty := 167) (g := none) (by kernel_rfl) rfl (AA (x := .tmp 58) (v := .map (some b)) rfl) (BF hs20 (R6 _) (by simp) (fun e => by cases e)) ?_
    exact Sm (by kernel_rfl) ⟨_, b, hs20, hp20.congr (fun k => by by_cases a : k = [112, 111, 105, 110, 116, 115] <;> by_cases b : k = [109, 117, 108, 116, 105, 112, 108, 105, 101, 114] <;> by_cases c : k = [112, 101, 110, 97, 108, 116, 121] <;> simp_all [Es, Ez]), rfl, rfl, rfl, rfl⟩
  ·
   refine St (l' := [true, true, true, true, false, true, true, true, false, true, true, true, true, false, false]) (zd := true) (by kernel_rfl) (by kernel_rfl) (ty := 0) (g := none) (by kernel_rfl) rfl (mt := 167) (k := 9) (vt := 166) (m := .tmp 48) (x := .const (.string ⟨([112, 101, 110, 97, 108, 116, 121] : Sx).toArray⟩)) (y := .tmp 57) (k0 := [112, 101, 110, 97, 108, 116, 121]) (v := .pointer (some ⟨bp, 2, none⟩)) rfl rfl rfl (by kernel_rfl) (by kernel_rfl) (by simp [Es]) hs1 hp0 (R6 _) (by simp) (fun e => by cases e) (fun e21 w21 hs21 hp21 => ?_)
   refine DWP.two (i := 4) (j := 8) (by kernel_rfl) ?_ ?_
   ·
    refine St (l' := [true, true, true, true, true, true, true, true, false, true, true, true, true, false, false]) (zd := true) (by kernel_rfl) (by kernel_rfl) (ty := 0) (g := none) (by kernel_rfl) rfl (mt := 167) (k := 9) (vt := 166) (m := .tmp 48) (x := .const (.string ⟨([112, 111, 105, 110, 116, 115] : Sx).toArray⟩)) (y := .tmp 51) (k0 := [112, 111, 105, 110, 116, 115]) (v := .pointer (some ⟨bp, 0, none⟩)) rfl rfl rfl (by kernel_rfl) (by kernel_rfl) (by simp [Es]) hs21 hp21 (R6 _) (by simp) (fun e => by cases e) (fun e22 w22 hs22 hp22 => ?_)
    refine Sj (i := 8) (by kernel_rfl) ?_
    refine St (l' := [true, true, true, true, true, true, true, true, true, true, true, true, true, false, false]) (zd := true) (by kernel_rfl) (by kernel_rfl) (ty := 0) (g := none) (by kernel_rfl) rfl (mt := 167) (k := 9) (vt := 166) (m := .tmp 48) (x := .const (.string ⟨([109, 117, 108, 116, 105, 112, 108, 105, 101, 114] : Sx).toArray⟩)) (y := .tmp 54) (k0 := [109, 117, 108, 116, 105, 112, 108, 105, 101, 114]) (v := .pointer (some ⟨bp, 1, none⟩)) rfl rfl rfl (by kernel_rfl) (by kernel_rfl) (by simp [Es]) hs22 hp22 (R6 _) (by simp) (fun e => by cases e) (fun e23 w23 hs23 hp23 => ?_)
    refine Sj (i := 13) (by kernel_rfl) ?_
    refine Sk (l' := [true, true, true, true, true, true, true, true, true, true, true, true, true, true, false]) (zd := true) (by kernel_rfl) (by kernel_rfl) (dst := some 58) (ty := 167) (g := none) (by kernel_rfl) rfl (AJ (x := .tmp 48) (v := .map (some b)) rfl) (BF hs23 (R6 _) (by simp) (fun e => by cases e)) ?_
    refine Sj (i := 14) (by kernel_rfl) ?_
    refine Sk (l' := [true, true, true, true, true, true, true, true, true, true, true, true, true, true, true]) (zd := true) (by kernel_rfl) (by kernel_rfl) (dst := some 6) (ty := 167) (g := none) (by kernel_rfl) rfl (AA (x := .tmp 58) (v := .map (some b)) rfl) (BF hs23 (R6 _) (by simp) (fun e => by cases e)) ?_
    exact Sm (by kernel_rfl) ⟨_, b, hs23, hp23.congr (fun k => by by_cases a : k = [112, 111, 105, 110, 116, 115] <;> by_cases b : k = [109, 117, 108, 116, 105, 112, 108, 105, 101, 114] <;> by_cases c : k = [112, 101, 110, 97, 108, 116, 121] <;> simp_all [Es, Ez]), rfl, rfl, rfl, rfl⟩
   ·
    refine St (l' := [true, true, true, true, false, true, true, true, true, true, true, true, true, false, false]) (zd := true) (by kernel_rfl) (by kernel_rfl) (ty := 0) (g := none) (by kernel_rfl) rfl (mt := 167) (k := 9) (vt := 166) (m := .tmp 48) (x := .const (.string ⟨([109, 117, 108, 116, 105, 112, 108, 105, 101, 114] : Sx).toArray⟩)) (y := .tmp 54) (k0 := [109, 117, 108, 116, 105, 112, 108, 105, 101, 114]) (v := .pointer (some ⟨bp, 1, none⟩)) rfl rfl rfl (by kernel_rfl) (by kernel_rfl) (by simp [Es]) hs21 hp21 (R6 _) (by simp) (fun e => by cases e) (fun e24 w24 hs24 hp24 => ?_)
    refine Sj (i := 4) (by kernel_rfl) ?_
    refine St (l' := [true, true, true, true, true, true, true, true, true, true, true, true, true, false, false]) (zd := true) (by kernel_rfl) (by kernel_rfl) (ty := 0) (g := none) (by kernel_rfl) rfl (mt := 167) (k := 9) (vt := 166) (m := .tmp 48) (x := .const (.string ⟨([112, 111, 105, 110, 116, 115] : Sx).toArray⟩)) (y := .tmp 51) (k0 := [112, 111, 105, 110, 116, 115]) (v := .pointer (some ⟨bp, 0, none⟩)) rfl rfl rfl (by kernel_rfl) (by kernel_rfl) (by simp [Es]) hs24 hp24 (R6 _) (by simp) (fun e => by cases e) (fun e25 w25 hs25 hp25 => ?_)
    refine Sj (i := 13) (by kernel_rfl) ?_
    refine Sk (l' := [true, true, true, true, true, true, true, true, true, true, true, true, true, true, false]) (zd := true) (by kernel_rfl) (by kernel_rfl) (dst := some 58) (ty := 167) (g := none) (by kernel_rfl) rfl (AJ (x := .tmp 48) (v := .map (some b)) rfl) (BF hs25 (R6 _) (by simp) (fun e => by cases e)) ?_
    refine Sj (i := 14) (by kernel_rfl) ?_
    refine Sk (l' := [true, true, true, true, true, true, true, true, true, true, true, true, true, true, true]) (zd := true) (by kernel_rfl) (by kernel_rfl) (dst := some 6) (ty := 167) (g := none) (by kernel_rfl) rfl (AA (x := .tmp 58) (v := .map (some b)) rfl) (BF hs25 (R6 _) (by simp) (fun e => by cases e)) ?_
    exact Sm (by kernel_rfl) ⟨_, b, hs25, hp25.congr (fun k => by by_cases a : k = [112, 111, 105, 110, 116, 115] <;> by_cases b : k = [109, 117, 108, 116, 105, 112, 108, 105, 101, 114] <;> by_cases c : k = [112, 101, 110, 97, 108, 116, 121] <;> simp_all [Es, Ez]), rfl, rfl, rfl, rfl⟩
 ·rintro f' w' ⟨e, b, h1, h2, h3, h4, h5⟩
  exact k f' w' e b h1 h2 h3 ⟨h4, h5⟩
def EX (N : Nat) (x0 : Ab) (x1 : Du) : Option (Aj ⊕ (Ab × Du)) :=
 ((idx x0.l_ 0).bind fun x21 => ((Ar N x0 ([114, 101, 112, 101, 97, 116] : Sx)).bind fun r41 => (bif r41.2 then ((A4 N r41.1 ([58] : Sx)).bind fun r51 => sk r51 (fun b242 => some (.inl b242)) (fun r54 => ((BP N r54).bind fun r61 => sk r61 (fun b235 => some (.inl b235)) (fun r64 => ((Dn N r64.1).bind fun r77 => sk r77 (fun b228 => some (.inl b228)) (fun r80 => (((Ei N r64.1 x1.Repeats x21.at_).bind fun r100 => sk r100 (fun b110 => some (.inl b110)) (fun r103 => some (.inr ()))).bind fun j92 => sk j92 (fun b222 => some (.inl b222)) (fun J99 => ((B3 N r64.1 r64.2 1).bind fun r118 => sk r118 (fun b215 => some (.inl b215)) (fun r121 => (((EQ x1.Repeats [({ Op := 0, Value := 0, Kids := ([] : List Expr) } : Expr)]).bind fun r142 => ((idx r142 (x1.Repeats.length : Int)).bind fun x151 => some (r142.set ((x1.Repeats.length : Int) : Int).toNat r64.2.Expr))).bind fun j133 => some (.inr (r64.1, ({ Points := x1.Points, Multipliers := x1.Multipliers, Penalties := x1.Penalties, Repeats := j133 } : Du)))))))))))))) else (bif (x21.text_ == ([112, 111, 105, 110, 116, 115] : Sx)) then ((Ar N r41.1 x21.text_).bind fun r264 => (bif (!r264.2) then ((AQ N r264.1 60 x21.at_).bind fun r274 => sk r274 (fun b279 => some (.inl b279)) (fun r277 => none)) else ((A4 N r264.1 ([58] : Sx)).bind fun r286 => sk r286 (fun b489 => some (.inl b489)) (fun r289 => ((BP N r289).bind fun r296 => sk r296 (fun b482 => some (.inl b482)) (fun r299 => ((A4 N r299.1 ([61, 62] : Sx)).bind fun r319 => sk r319 (fun b475 => some (.inl b475)) (fun r322 => ((BP N r322).bind fun r329 => sk r329 (fun b468 => some (.inl b468)) (fun r332 => ((Dn N r332.1).bind fun r354 => sk r354 (fun b461 => some (.inl b461)) (fun r357 => (((DG N r332.1 x1.Points x21.at_).bind fun r378 => sk r378 (fun b388 => some (.inl b388)) (fun r381 => some (.inr ()))).bind fun j369 => sk j369 (fun b455 => some (.inl b455)) (fun J377 => ((B3 N r332.1 r299.2 2).bind fun r396 => sk r396 (fun b448 => some (.inl b448)) (fun r399 => ((B3 N r332.1 r332.2 1).bind fun r406 => sk r406 (fun b441 => some (.inl b441)) (fun r409 => (((EQ x1.Points [({ When := r299.2.Expr, Then := r332.2.Expr } : Clause)]).bind fun r430 => some r430).bind fun j421 => some (.inr (r332.1, ({ Points := j421, Multipliers := x1.Multipliers, Penalties := x1.Penalties, Repeats := x1.Repeats } : Du)))))))))))))))))))))) else none))))
theorem GD : An Tryz.prog 81 := fun _ _ => by kernel_rfl
theorem G9 (N : Nat) {wb w0 : World} {Fb F0 : Mem} {Lf : Own} (hG : CI F0) (bp0 : Nat) (x0 : Ab) (a0_0 : Sy) (n0_0 : Nat) (hb0_0 : LC x0.l_.length n0_0) (hs0_0 : SlA Ag F0 a0_0 x0.l_) (bp1 : Nat) (x1 : Du) (a1_0 : Sy) (n1_0 : Nat) (e1_0 : Option Nat × Obj) (a1_1 : Sy) (n1_1 : Nat) (e1_1 : Option Nat × Obj) (a1_2 : Sy) (n1_2 : Nat) (e1_2 : Option Nat × Obj) (a1_3 : Sy) (n1_3 : Nat) (e1_3 : Option Nat × Obj) (hr1_0 : Au AB 56 F0 a1_0 n1_0 x1.Points e1_0) (hr1_1 : Au AB 56 F0 a1_1 n1_1 x1.Multipliers e1_1) (hr1_2 : Au AB 56 F0 a1_2 n1_2 x1.Penalties e1_2) (hr1_3 : Au Ao 33 F0 a1_3 n1_3 x1.Repeats e1_3) (hs0 : HS wb Fb w0 F0 ((sb bp0 (Ad x0 a0_0 n0_0) 100) :: (sb bp1 (Bx x1 a1_0 n1_0 a1_1 n1_1 a1_2 n1_2 a1_3 n1_3) 26) :: e1_0 :: e1_1 :: e1_2 :: e1_3 :: Lf)) (r : (Aj ⊕ (Ab × Du))) (h : EX N x0 x1 = some r) :
  Calls Tryz.prog 81 ([(pt bp0 0), (pt bp1 0)] : List Value).toArray w0 (BH wb Fb F0 Lf r (fun b => (.iface 158 (.agg (AH b)))) fun a F' v L' => ∃ (aq0_0 : Sy) (nq0_0 : Nat) (aq1_0 : Sy) (nq1_0 : Nat) (eq1_0 : Option Nat × Obj) (aq1_1 : Sy) (nq1_1 : Nat) (eq1_1 : Option Nat × Obj) (aq1_2 : Sy) (nq1_2 : Nat) (eq1_2 : Option Nat × Obj) (aq1_3 : Sy) (nq1_3 : Nat) (eq1_3 : Option Nat × Obj), v = (.tuple #[]) /\ L' = (sb bp0 (Ad a.1 aq0_0 nq0_0) 100) :: (sb bp1 (Bx a.2 aq1_0 nq1_0 aq1_1 nq1_1 aq1_2 nq1_2 aq1_3 nq1_3) 26) :: eq1_0 :: eq1_1 :: eq1_2 :: eq1_3 :: Lf /\ LC a.1.l_.length nq0_0 /\ SlA Ag F' aq0_0 a.1.l_ /\ Au AB 56 F' aq1_0 nq1_0 a.2.Points eq1_0 /\ Au AB 56 F' aq1_1 nq1_1 a.2.Multipliers eq1_1 /\ Au AB 56 F' aq1_2 nq1_2 a.2.Penalties eq1_2 /\ Au Ao 33 F' aq1_3 nq1_3 a.2.Repeats eq1_3) := by
 refine Go 114 Tryz.func81 ?_
 refine Sq (Rg [0, 1, 2, 3, 4, 5, 6, 7] ?_)
 refine Vs 3 ?_
 refine Ld hs0.at0 ?_
 obtain ⟨x21, hx22, h24⟩ := bind_some h
 obtain ⟨hi23, hx22'⟩ := Ay hx22
 obtain ⟨b25, o26, C27, E28, fz29, rfl, hF31, hE32⟩ := Sh hs0_0 hx22'
 have hc34 := hE32 _ _ hx22'
 refine Ix hi23 ?_
 refine Lx 0 (hs0.pers _ _ hF31) hc34 ?_
 refine Al' 97 #[(vi 0), (vi 0), (.string ⟨(([] : Sx)).toArray⟩)] hs0 (fun b35 w36 hs37 => ?_)
 refine St0 (Bc x21) hs37 (fun w38 hs39 => ?_)
 refine Nss ?_
 refine Sq (Rg [0, 1] ?_)
 refine Vs 1 ?_
 have hs40 := hs39.pk6.pk6.pk6.pk6.pk6.pk5
 obtain ⟨r41, hr42, h43⟩ := bind_some h24
 refine CB AF (AG N bp0 x0 (some ⟨b25, o26, none⟩) n0_0 hb0_0 hs0_0 (([114, 101, 112, 101, 97, 116] : Sx)) hs40.pk6 _ hr42) ?_
 rintro _ F1 w44 _ hs45 le46 ⟨ar41_0_0, nr41_0_0, rfl, rfl, hbr41_0_0, hsr41_0_0⟩
 refine Nt ?_
 refine Cd h43 (fun hb48 h49 => ?_) (fun hb48 h50 => ?_)
 ·refine Sq (Rg [0, 1] ?_)
  refine Vs 1 ?_
  obtain ⟨r51, hr52, h53⟩ := bind_some h49
  refine CP A1 (A5 N bp0 r41.1 ar41_0_0 nr41_0_0 hbr41_0_0 hsr41_0_0 (([58] : Sx)) hs45 _ hr52) ?_ ?_
  ·rintro r54 _ F2 w56 _ rfl hs57 le58 ⟨ar54_0_0, nr54_0_0, rfl, rfl, hbr54_0_0, hsr54_0_0⟩
   have h60 := BU h53
   refine Nss (Rg [0, 1, 2, 3] ?_)
   refine Vs 1 ?_
   obtain ⟨r61, hr62, h63⟩ := bind_some h60
   refine CP BW (B9 N (hG.mono (le46.trans le58)) bp0 r54 ar54_0_0 nr54_0_0 hbr54_0_0 hsr54_0_0 hs57 _ hr62) ?_ ?_
   ·rintro r64 _ F3 w66 _ rfl hs67 le68 ⟨ar64_0_0, nr64_0_0, ar64_1_2, nr64_1_2, rfl, rfl, hbr64_0_0, hsr64_0_0, hbr64_1_2, hsr64_1_2⟩
    have h70 := BU h63
    refine Al' 113 #[(vi 0), (vi 0), (.slice none ([] : List Expr).length 0), (vi 0)] hs67 (fun b71 w72 hs73 => ?_)
    refine St0 (Aw r64.2 ar64_1_2 nr64_1_2) hs73 (fun w74 hs75 => ?_)
    refine Nss (Rg [0, 1] ?_)
    refine Vs 1 ?_
    have hs76 := hs75.pk7.pk7.pk7.pk7.pk7.pk7
    obtain ⟨r77, hr78, h79⟩ := bind_some h70
    refine CP DJ (Ee N bp0 r64.1 ar64_0_0 nr64_0_0 hbr64_0_0 hsr64_0_0 hs76.pk6.pk7 _ hr78) ?_ ?_
    ·rintro r80 _ F4 w82 _ rfl hs83 le84 ⟨rfl, rfl⟩
     have h86 := BU h79
     refine Nss ?_
     obtain ⟨j92, hj97, h98⟩ := bind_some h86
     refine RDP 8 8 [(sb bp0 (Ad r64.1 ar64_0_0 nr64_0_0) 100), (sb b71 (Aw r64.2 ar64_1_2 nr64_1_2) 113), (sb b35 (Bc x21) 97), (sb bp1 (Bx x1 a1_0 n1_0 a1_1 n1_1 a1_2 n1_2 a1_3 n1_3) 26), e1_0, e1_1, e1_2, e1_3] [] hs83 (fun c d w => d = [] /\ ∃ (b : Aj) (Fp : Mem), j92 = .inl b /\ c = [{ v := (.iface 158 (.agg (AH b))), recovered := false }] /\ HS wb Fb w Fp Lf /\ R5 F4 Fp) (fun f w => ∃ (J99 : Unit), j92 = .inr J99 /\ ∃ (F5 : Mem), HS wb Fb w F5 ((sb bp0 (Ad r64.1 ar64_0_0 nr64_0_0) 100) :: (sb b71 (Aw r64.2 ar64_1_2 nr64_1_2) 113) :: (sb bp1 (Bx x1 a1_0 n1_0 a1_1 n1_1 a1_2 n1_2 a1_3 n1_3) 26) :: e1_0 :: e1_1 :: e1_2 :: e1_3 :: Lf) /\ R5 F4 F5 /\ FI f [] [(0, (pt bp0 0)), (1, (pt bp1 0)), (5, (pt b71 0))]) (fun wd87 hw88 => ?_) ?_ ?_
     ·refine Dv [0, 1, 2, 3] ?_
      refine Dl 4 (fun _ hq => (hq.1.2 3 _ _ rfl)) ?_
      refine Dv [5] ?_
      refine Dl 6 (fun _ hq => (hq.1.2 2 _ _ rfl)) ?_
      refine D1 7 ?_
      obtain ⟨r100, hr101, h102⟩ := bind_some hj97
      refine DCP FO (FZ N bp0 r64.1 ar64_0_0 nr64_0_0 hbr64_0_0 (R8 hsr64_0_0 le84) x1.Repeats a1_3 n1_3 x21.at_ hw88 _ hr101) ?_ ?_
      ·rintro r103 _ F6 w105 _ rfl hs106 le107 ⟨rfl, rfl⟩
       have h109 := BU h102
       refine ⟨BF hs106 le107 (by simp) (zdT (by kernel_rfl)), ?_⟩
       obtain rfl := Aa h109
       exact Sm (by kernel_rfl) ⟨_, rfl, F6, hs106.dr2, le107, fI⟩
      ·rintro b110 F7 w111 rfl hs112 le113
       have h114 := Bn h102
       obtain rfl := Aa h114
       have hs116 := hs112.dr0.dr0.dr0.dr0.dr0
       exact ⟨rfl, _, _, rfl, rfl, hs116.dr0.dr0, le113⟩
     ·rintro f w89 ⟨J99, rfl, F5, hs90, le91, ⟨_, rfl⟩⟩
      have h117 := BU h98
      refine Ac ?_
      refine Sq (Rg [0, 1, 2] ?_)
      refine Vs 1 ?_
      refine Ld hs90.at1 ?_
      obtain ⟨r118, hr119, h120⟩ := bind_some h117
      refine CP B8 (Cj N bp0 r64.1 ar64_0_0 nr64_0_0 hbr64_0_0 (R8 hsr64_0_0 (le84.trans le91)) r64.2 ar64_1_2 nr64_1_2 hbr64_1_2 (R8 hsr64_1_2 (le84.trans le91)) 1 hs90 _ hr119) ?_ ?_
      ·rintro r121 _ F8 w123 _ rfl hs124 le125 ⟨rfl, rfl⟩
       have h127 := BU h120
       refine Nss ?_
       obtain ⟨j133, hj135, h136⟩ := bind_some h127
       refine RD 14 14 [(sb bp0 (Ad r64.1 ar64_0_0 nr64_0_0) 100), (sb b71 (Aw r64.2 ar64_1_2 nr64_1_2) 113), e1_0, e1_1, e1_2] [] hs124 (fun f w => ∃ (F9 : Mem) (aj133_0 : Sy) (nj133_0 : Nat) (ej133_0 : Option Nat × Obj), HS wb Fb w F9 ((sb bp0 (Ad r64.1 ar64_0_0 nr64_0_0) 100) :: (sb bp1 #[(.slice a1_0 x1.Points.length n1_0), (.slice a1_1 x1.Multipliers.length n1_1), (.slice a1_2 x1.Penalties.length n1_2), (.slice aj133_0 j133.length nj133_0)] 26) :: e1_0 :: e1_1 :: e1_2 :: ej133_0 :: Lf) /\ R5 F8 F9 /\ FI f [] [] /\ Au Ao 33 F9 aj133_0 nj133_0 j133 ej133_0) (fun wd128 hw129 => ?_) ?_
       ·refine Dv [0, 1, 2, 4] ?_
        refine Dl 5 (fun _ hq => (hq.1.2 1 _ _ rfl)) ?_
        refine DWP.two (i := 3) (j := 7) (by kernel_rfl) ?_ ?_
        ·refine Sk (l' := [true, true, true, true, true, true, false, false, false, false, false, false, false, false]) (zd := true) (by kernel_rfl) (by kernel_rfl) (dst := (some 39)) (ty := 24) (g := none) (by kernel_rfl) rfl (Cb (t := 24) (x := (.tmp 38)) (b := bp1) (o := 3) (g := false) (s := 1) (C := (Bx x1 a1_0 n1_0 a1_1 n1_1 a1_2 n1_2 a1_3 n1_3)) (v := (.slice a1_3 x1.Repeats.length n1_3)) rfl (by kernel_rfl) hw129.at2 rfl rfl rfl) (BF hw129 (R6 _) (by simp) (fun e => by cases e)) ?_
         refine Dv [6] ?_
         refine D1 7 ?_
         refine DBs 33 [(vi 0), (vi 0), (.slice none ([] : List Expr).length 0)] hw129 (R6 _) (fun b137 w138 hs139 => ?_)
         have hr141 : Au Ao 33 F8 (some ⟨b137, 0, none⟩) 1 [({ Op := 0, Value := 0, Kids := ([] : List Expr) } : Expr)] (some b137, .cells ([(vi 0), (vi 0), (.slice none ([] : List Expr).length 0)] : List Value).toArray 33 (0, 0)) := Sr ⟨(A6 ⟨none, 0, rfl, R9, (.inl rfl)⟩), rfl⟩ (by simp)
         refine D1 8 ?_
         obtain ⟨r142, hap143, h144⟩ := bind_some hj135
         refine RF Pj hs139 (hr1_3.mono (((((le46.trans le58).trans le68).trans le84).trans le91).trans le125)) (hs139.rd0 hr141) hap143 (R6 _) (fun a145 n146 e147 w148 hs149 hr150 => ?_)
         obtain ⟨x151, hx152, h154⟩ := bind_some h144
         obtain ⟨hi153, hx152'⟩ := Ay hx152
         obtain ⟨b155, C156, rfl, rfl, hE159⟩ := Au.open hr150 hx152'
         have hr160 := hr150
         obtain ⟨ae161_2, ne161_2, hc162, hbe161_2, hse161_2⟩ := (AR (hE159 _ _ hx152'))
         refine Dj 9 hi153 ?_
         refine Dv [11, 12] ?_
         refine DWP.two (i := 10) (j := 13) (by kernel_rfl) ?_ ?_
         ·refine Az.storeRow (l' := [true, true, true, true, true, true, true, true, true, true, true, true, true, false]) (zd := true) (by kernel_rfl) (by kernel_rfl) (ty := 0) (g := none) (by kernel_rfl) rfl (x := (.tmp 45)) (y := (.tmp 41)) (t := 33) (v := (.agg (Ae r64.2.Expr ar64_1_2 nr64_1_2))) (gg := true) (b := b155) (j := ((x1.Repeats.length : Int) : Int).toNat) (C := C156) (T := Ao) (E := 33) (u := r64.2.Expr) rfl rfl (by kernel_rfl) hs149 (k := 7) rfl hr160 hx152' (A6 ⟨ar64_1_2, nr64_1_2, rfl, hbr64_1_2, (R8 hsr64_1_2 ((le84.trans le91).trans le125))⟩) rfl (R6 _) (fun _ => by simp) (fun e => by cases e) (fun C163 w164 (hs165 : HS wb Fb w164 F8 ((some b137, .cells ([(vi 0), (vi 0), (.slice none ([] : List Expr).length 0)] : List Value).toArray 33 (0, 0)) :: (sb bp0 (Ad r64.1 ar64_0_0 nr64_0_0) 100) :: (sb b71 (Aw r64.2 ar64_1_2 nr64_1_2) 113) :: (sb bp1 (Bx x1 a1_0 n1_0 a1_1 n1_1 a1_2 n1_2 a1_3 n1_3) 26) :: e1_0 :: e1_1 :: e1_2 :: (some b155, .cells C163 33 (0, 0)) :: Lf)) hr166 => ?_)
          refine D1 13 ?_
          refine Az.store (l' := [true, true, true, true, true, true, true, true, true, true, true, true, true, true]) (zd := true) (by kernel_rfl) (by kernel_rfl) (ty := 0) (g := none) (by kernel_rfl) rfl (x := (.tmp 47)) (y := (.tmp 44)) (t := 24) (gg := false) (s := 1) (v := (.slice (some ⟨b155, 0, none⟩) (r142.set ((x1.Repeats.length : Int) : Int).toNat r64.2.Expr).length n146)) (b := bp1) (o := 3) (C := (Bx x1 a1_0 n1_0 a1_1 n1_1 a1_2 n1_2 a1_3 n1_3)) rfl (L3 rfl) (by kernel_rfl) hs165 (k := 3) rfl rfl rfl rfl (C' := #[(.slice a1_0 x1.Points.length n1_0), (.slice a1_1 x1.Multipliers.length n1_1), (.slice a1_2 x1.Penalties.length n1_2), (.slice (some ⟨b155, 0, none⟩) (r142.set ((x1.Repeats.length : Int) : Int).toNat r64.2.Expr).length n146)]) rfl (R6 _) (by simp) (fun e => by cases e) (fun w167 (hs168 : HS wb Fb w167 F8 ((some b137, .cells ([(vi 0), (vi 0), (.slice none ([] : List Expr).length 0)] : List Value).toArray 33 (0, 0)) :: (sb bp0 (Ad r64.1 ar64_0_0 nr64_0_0) 100) :: (sb b71 (Aw r64.2 ar64_1_2 nr64_1_2) 113) :: (sb bp1 #[(.slice a1_0 x1.Points.length n1_0), (.slice a1_1 x1.Multipliers.length n1_1), (.slice a1_2 x1.Penalties.length n1_2), (.slice (some ⟨b155, 0, none⟩) (r142.set ((x1.Repeats.length : Int) : Int).toNat r64.2.Expr).length n146)] 26) :: e1_0 :: e1_1 :: e1_2 :: (some b155, .cells C163 33 (0, 0)) :: Lf)) => ?_)
          obtain rfl := Aa h154
          exact Sm (by kernel_rfl) ⟨F8, (some ⟨b155, 0, none⟩), n146, (some b155, .cells C163 33 (0, 0)), hs168.dr0.dr1, (R6 _), fI, hr166⟩
         ·refine Q6 #[(.slice a1_0 x1.Points.length n1_0), (.slice a1_1 x1.Multipliers.length n1_1), (.slice a1_2 x1.Penalties.length n1_2), (.slice (some ⟨b155, 0, none⟩) r142.length n146)] hs149 (R6 _) (fun w169 hs170 => ?_)
          refine D1 10 ?_
          refine Az.storeRow (l' := [true, true, true, true, true, true, true, true, true, true, true, true, true, true]) (zd := true) (by kernel_rfl) (by kernel_rfl) (ty := 0) (g := none) (by kernel_rfl) rfl (x := (.tmp 45)) (y := (.tmp 41)) (t := 33) (v := (.agg (Ae r64.2.Expr ar64_1_2 nr64_1_2))) (gg := true) (b := b155) (j := ((x1.Repeats.length : Int) : Int).toNat) (C := C156) (T := Ao) (E := 33) (u := r64.2.Expr) rfl rfl (by kernel_rfl) hs170 (k := 7) rfl hr160 hx152' (A6 ⟨ar64_1_2, nr64_1_2, rfl, hbr64_1_2, (R8 hsr64_1_2 ((le84.trans le91).trans le125))⟩) rfl (R6 _) (fun _ => by simp) (fun e => by cases e) (fun C171 w172 (hs173 : HS wb Fb w172 F8 ((some b137, .cells ([(vi 0), (vi 0), (.slice none ([] : List Expr).length 0)] : List Value).toArray 33 (0, 0)) :: (sb bp0 (Ad r64.1 ar64_0_0 nr64_0_0) 100) :: (sb b71 (Aw r64.2 ar64_1_2 nr64_1_2) 113) :: (sb bp1 #[(.slice a1_0 x1.Points.length n1_0), (.slice a1_1 x1.Multipliers.length n1_1), (.slice a1_2 x1.Penalties.length n1_2), (.slice (some ⟨b155, 0, none⟩) r142.length n146)] 26) :: e1_0 :: e1_1 :: e1_2 :: (some b155, .cells C171 33 (0, 0)) :: Lf)) hr174 => ?_)
          have hs175 : HS wb Fb w172 F8 ((some b137, .cells ([(vi 0), (vi 0), (.slice none ([] : List Expr).length 0)] : List Value).toArray 33 (0, 0)) :: (sb bp0 (Ad r64.1 ar64_0_0 nr64_0_0) 100) :: (sb b71 (Aw r64.2 ar64_1_2 nr64_1_2) 113) :: (sb bp1 #[(.slice a1_0 x1.Points.length n1_0), (.slice a1_1 x1.Multipliers.length n1_1), (.slice a1_2 x1.Penalties.length n1_2), (.slice (some ⟨b155, 0, none⟩) (r142.set ((x1.Repeats.length : Int) : Int).toNat r64.2.Expr).length n146)] 26) :: e1_0 :: e1_1 :: e1_2 :: (some b155, .cells C171 33 (0, 0)) :: Lf) := by have hq := hs173; simp only [List.length_set] at hq ⊢; exact hq
          obtain rfl := Aa h154
          exact Sm (by kernel_rfl) ⟨F8, (some ⟨b155, 0, none⟩), n146, (some b155, .cells C171 33 (0, 0)), hs175.dr0.dr1, (R6 _), fI, hr174⟩
        ·refine DBs 33 [(vi 0), (vi 0), (.slice none ([] : List Expr).length 0)] hw129 (R6 _) (fun b176 w177 hs178 => ?_)
         have hr180 : Au Ao 33 F8 (some ⟨b176, 0, none⟩) 1 [({ Op := 0, Value := 0, Kids := ([] : List Expr) } : Expr)] (some b176, .cells ([(vi 0), (vi 0), (.slice none ([] : List Expr).length 0)] : List Value).toArray 33 (0, 0)) := Sr ⟨(A6 ⟨none, 0, rfl, R9, (.inl rfl)⟩), rfl⟩ (by simp)
         refine D1 3 ?_
         refine Sk (l' := [true, true, true, true, true, true, false, true, false, false, false, false, false, false]) (zd := true) (by kernel_rfl) (by kernel_rfl) (dst := (some 39)) (ty := 24) (g := none) (by kernel_rfl) rfl (Cb (t := 24) (x := (.tmp 38)) (b := bp1) (o := 3) (g := false) (s := 1) (C := (Bx x1 a1_0 n1_0 a1_1 n1_1 a1_2 n1_2 a1_3 n1_3)) (v := (.slice a1_3 x1.Repeats.length n1_3)) rfl (by kernel_rfl) hs178.at3 rfl rfl rfl) (BF hs178 (R6 _) (by simp) (fun e => by cases e)) ?_
         refine Dv [6] ?_
         refine D1 8 ?_
         obtain ⟨r181, hap182, h183⟩ := bind_some hj135
         refine RF Pj hs178 (hr1_3.mono (((((le46.trans le58).trans le68).trans le84).trans le91).trans le125)) (hs178.rd0 hr180) hap182 (R6 _) (fun a184 n185 e186 w187 hs188 hr189 => ?_)
         obtain ⟨x190, hx191, h193⟩ := bind_some h183
         obtain ⟨hi192, hx191'⟩ := Ay hx191
         obtain ⟨b194, C195, rfl, rfl, hE198⟩ := Au.open hr189 hx191'
         have hr199 := hr189
         obtain ⟨ae200_2, ne200_2, hc201, hbe200_2, hse200_2⟩ := (AR (hE198 _ _ hx191'))
         refine Dj 9 hi192 ?_
         refine Dv [11, 12] ?_
         refine DWP.two (i := 10) (j := 13) (by kernel_rfl) ?_ ?_
         ·refine Az.storeRow (l' := [true, true, true, true, true, true, true, true, true, true, true, true, true, false]) (zd := true) (by kernel_rfl) (by kernel_rfl) (ty := 0) (g := none) (by kernel_rfl) rfl (x := (.tmp 45)) (y := (.tmp 41)) (t := 33) (v := (.agg (Ae r64.2.Expr ar64_1_2 nr64_1_2))) (gg := true) (b := b194) (j := ((x1.Repeats.length : Int) : Int).toNat) (C := C195) (T := Ao) (E := 33) (u := r64.2.Expr) rfl rfl (by kernel_rfl) hs188 (k := 7) rfl hr199 hx191' (A6 ⟨ar64_1_2, nr64_1_2, rfl, hbr64_1_2, (R8 hsr64_1_2 ((le84.trans le91).trans le125))⟩) rfl (R6 _) (fun _ => by simp) (fun e => by cases e) (fun C202 w203 (hs204 : HS wb Fb w203 F8 ((some b176, .cells ([(vi 0), (vi 0), (.slice none ([] : List Expr).length 0)] : List Value).toArray 33 (0, 0)) :: (sb bp0 (Ad r64.1 ar64_0_0 nr64_0_0) 100) :: (sb b71 (Aw r64.2 ar64_1_2 nr64_1_2) 113) :: (sb bp1 (Bx x1 a1_0 n1_0 a1_1 n1_1 a1_2 n1_2 a1_3 n1_3) 26) :: e1_0 :: e1_1 :: e1_2 :: (some b194, .cells C202 33 (0, 0)) :: Lf)) hr205 => ?_)
          refine D1 13 ?_
          refine Az.store (l' := [true, true, true, true, true, true, true, true, true, true, true, true, true, true]) (zd := true) (by kernel_rfl) (by kernel_rfl) (ty := 0) (g := none) (by kernel_rfl) rfl (x := (.tmp 47)) (y := (.tmp 44)) (t := 24) (gg := false) (s := 1) (v := (.slice (some ⟨b194, 0, none⟩) (r181.set ((x1.Repeats.length : Int) : Int).toNat r64.2.Expr).length n185)) (b := bp1) (o := 3) (C := (Bx x1 a1_0 n1_0 a1_1 n1_1 a1_2 n1_2 a1_3 n1_3)) rfl (L3 rfl) (by kernel_rfl) hs204 (k := 3) rfl rfl rfl rfl (C' := #[(.slice a1_0 x1.Points.length n1_0), (.slice a1_1 x1.Multipliers.length n1_1), (.slice a1_2 x1.Penalties.length n1_2), (.slice (some ⟨b194, 0, none⟩) (r181.set ((x1.Repeats.length : Int) : Int).toNat r64.2.Expr).length n185)]) rfl (R6 _) (by simp) (fun e => by cases e) (fun w206 (hs207 : HS wb Fb w206 F8 ((some b176, .cells ([(vi 0), (vi 0), (.slice none ([] : List Expr).length 0)] : List Value).toArray 33 (0, 0)) :: (sb bp0 (Ad r64.1 ar64_0_0 nr64_0_0) 100) :: (sb b71 (Aw r64.2 ar64_1_2 nr64_1_2) 113) :: (sb bp1 #[(.slice a1_0 x1.Points.length n1_0), (.slice a1_1 x1.Multipliers.length n1_1), (.slice a1_2 x1.Penalties.length n1_2), (.slice (some ⟨b194, 0, none⟩) (r181.set ((x1.Repeats.length : Int) : Int).toNat r64.2.Expr).length n185)] 26) :: e1_0 :: e1_1 :: e1_2 :: (some b194, .cells C202 33 (0, 0)) :: Lf)) => ?_)
          obtain rfl := Aa h193
          exact Sm (by kernel_rfl) ⟨F8, (some ⟨b194, 0, none⟩), n185, (some b194, .cells C202 33 (0, 0)), hs207.dr0.dr1, (R6 _), fI, hr205⟩
         ·refine Q6 #[(.slice a1_0 x1.Points.length n1_0), (.slice a1_1 x1.Multipliers.length n1_1), (.slice a1_2 x1.Penalties.length n1_2), (.slice (some ⟨b194, 0, none⟩) r181.length n185)] hs188 (R6 _) (fun w208 hs209 => ?_)
          refine D1 10 ?_
          refine Az.storeRow (l' := [true, true, true, true, true, true, true, true, true, true, true, true, true, true]) (zd := true) (by kernel_rfl) (by kernel_rfl) (ty := 0) (g := none) (by kernel_rfl) rfl (x := (.tmp 45)) (y := (.tmp 41)) (t := 33) (v := (.agg (Ae r64.2.Expr ar64_1_2 nr64_1_2))) (gg := true) (b := b194) (j := ((x1.Repeats.length : Int) : Int).toNat) (C := C195) (T := Ao) (E := 33) (u := r64.2.Expr) rfl rfl (by kernel_rfl) hs209 (k := 7) rfl hr199 hx191' (A6 ⟨ar64_1_2, nr64_1_2, rfl, hbr64_1_2, (R8 hsr64_1_2 ((le84.trans le91).trans le125))⟩) rfl (R6 _) (fun _ => by simp) (fun e => by cases e) (fun C210 w211 (hs212 : HS wb Fb w211 F8 ((some b176, .cells ([(vi 0), (vi 0), (.slice none ([] : List Expr).length 0)] : List Value).toArray 33 (0, 0)) :: (sb bp0 (Ad r64.1 ar64_0_0 nr64_0_0) 100) :: (sb b71 (Aw r64.2 ar64_1_2 nr64_1_2) 113) :: (sb bp1 #[(.slice a1_0 x1.Points.length n1_0), (.slice a1_1 x1.Multipliers.length n1_1), (.slice a1_2 x1.Penalties.length n1_2), (.slice (some ⟨b194, 0, none⟩) r181.length n185)] 26) :: e1_0 :: e1_1 :: e1_2 :: (some b194, .cells C210 33 (0, 0)) :: Lf)) hr213 => ?_)
          have hs214 : HS wb Fb w211 F8 ((some b176, .cells ([(vi 0), (vi 0), (.slice none ([] : List Expr).length 0)] : List Value).toArray 33 (0, 0)) :: (sb bp0 (Ad r64.1 ar64_0_0 nr64_0_0) 100) :: (sb b71 (Aw r64.2 ar64_1_2 nr64_1_2) 113) :: (sb bp1 #[(.slice a1_0 x1.Points.length n1_0), (.slice a1_1 x1.Multipliers.length n1_1), (.slice a1_2 x1.Penalties.length n1_2), (.slice (some ⟨b194, 0, none⟩) (r181.set ((x1.Repeats.length : Int) : Int).toNat r64.2.Expr).length n185)] 26) :: e1_0 :: e1_1 :: e1_2 :: (some b194, .cells C210 33 (0, 0)) :: Lf) := by have hq := hs212; simp only [List.length_set] at hq ⊢; exact hq
          obtain rfl := Aa h193
          exact Sm (by kernel_rfl) ⟨F8, (some ⟨b194, 0, none⟩), n185, (some b194, .cells C210 33 (0, 0)), hs214.dr0.dr1, (R6 _), fI, hr213⟩
       ·rintro f w130 ⟨F9, aj133_0, nj133_0, ej133_0, hs131, le132, ⟨_, rfl⟩, hrj133_0⟩
        refine Ac ?_
        refine Rt ?_
        refine Af ?_
        obtain rfl := Aa h136
        exact ReP [] hs131 ((((((le46.trans le58).trans le68).trans le84).trans le91).trans le125).trans le132) ⟨ar64_0_0, nr64_0_0, a1_0, n1_0, e1_0, a1_1, n1_1, e1_1, a1_2, n1_2, e1_2, aj133_0, nj133_0, ej133_0, rfl, rfl, hbr64_0_0, (R8 hsr64_0_0 (((le84.trans le91).trans le125).trans le132)), (hr1_0.mono ((((((le46.trans le58).trans le68).trans le84).trans le91).trans le125).trans le132)), (hr1_1.mono ((((((le46.trans le58).trans le68).trans le84).trans le91).trans le125).trans le132)), (hr1_2.mono ((((((le46.trans le58).trans le68).trans le84).trans le91).trans le125).trans le132)), hrj133_0⟩
      ·rintro b215 F10 w216 rfl hs217 le218
       have h219 := Bn h120
       refine Ak ?_
       refine Ak ?_
       have hs221 := hs217.dr0.dr0.dr0.dr0.dr0
       obtain rfl := Aa h219
       exact Cw hs221.dr0 (((((le46.trans le58).trans le68).trans le84).trans le91).trans le218)
     ·rintro c f w223 ⟨hd226, b222, F11, rfl, rfl, hs224, le225⟩
      have h227 := Bn h98
      refine Ak ?_
      refine Ak ?_
      obtain rfl := Aa h227
      exact ⟨hd226, .inr ⟨_, F11, rfl, rfl, hs224, ((((le46.trans le58).trans le68).trans le84).trans le225)⟩⟩
    ·rintro b228 F12 w229 rfl hs230 le231
     have h232 := Bn h79
     refine Ak ?_
     refine Ak ?_
     have hs234 := hs230.dr0.dr0.dr0.dr0.dr0
     obtain rfl := Aa h232
     exact Cw hs234.dr0.dr0 (((le46.trans le58).trans le68).trans le231)
   ·rintro b235 F13 w236 rfl hs237 le238
    have h239 := Bn h63
    refine Ak ?_
    refine Ak ?_
    have hs241 := hs237.dr0.dr0.dr0.dr0.dr0
    obtain rfl := Aa h239
    exact Cw hs241.dr0 ((le46.trans le58).trans le238)
  ·rintro b242 F14 w243 rfl hs244 le245
   have h246 := Bn h53
   refine Ak ?_
   refine Ak ?_
   have hs248 := hs244.dr0.dr0.dr0.dr0.dr0
   obtain rfl := Aa h246
   exact Cw hs248.dr0 (le46.trans le245)
 ·refine Sc ?_
  refine Ac ?_
  refine Sq ?_
  refine Nw (L := ((sb bp0 (Ad r41.1 ar41_0_0 nr41_0_0) 100) :: (sb b35 (Bc x21) 97) :: (sb bp1 (Bx x1 a1_0 n1_0 a1_1 n1_1 a1_2 n1_2 a1_3 n1_3) 26) :: e1_0 :: e1_1 :: e1_2 :: e1_3 :: Lf)) hs45 rfl (fun f249 w250 e251 b252 hs253 hp254 h255 hkeep => ?_)
  have h256 : f249.d = [] := (hkeep.1).trans rfl
  have h257 : f249 0 = (pt bp0 0) := (hkeep.2.1).trans rfl
  have h258 : f249 4 = (pt b35 0) := (hkeep.2.2).trans rfl
  clear hkeep
  have hs259 : HS wb Fb w250 F1 (e251 :: (sb bp0 (Ad r41.1 ar41_0_0 nr41_0_0) 100) :: (sb b35 (Bc x21) 97) :: (sb bp1 (Bx x1 a1_0 n1_0 a1_1 n1_1 a1_2 n1_2 a1_3 n1_3) 26) :: e1_0 :: e1_1 :: e1_2 :: e1_3 :: Lf) := hs253
  refine Ac ?_
  refine Sq (Rg [0, 1, 2, 3, 4, 5, 6, 7, 8] ?_)
  refine V 60 167 (mv 6 (.map (some b252)) h255) ?_
  refine V 61 0 (fa 97 4 2 2 1 b35 0 2 h258) ?_
  refine Ld hs259.at2 ?_
  refine Sp h50 (fun hb260 h261 => ?_) (fun hb260 h262 => ?_)
  ·refine V 63 168 (MB (mt := 167) (k := 9) (vt := 166) (m := (.tmp 60)) (x := (.tmp 62)) rfl rfl (by kernel_rfl) (by kernel_rfl) (hs259.ownAt' (k := 0) rfl) hp254 (OK hb260)) ?_
   refine Vs 5 ?_
   refine Nss ?_
   refine Sq (Rg [0, 1, 2, 3, 4, 5, 6, 7, 8] ?_)
   refine Vs 3 ?_
   refine Vg 69 95 2 false 68 rfl (mv 0 (pt bp0 0) h257) ?_
   refine Vg 70 0 2 false 68 rfl (fa 97 4 2 2 1 b35 0 2 h258) ?_
   refine Vg 71 9 2 false 68 rfl (ld 9 70 b35 2 false 1 (.string ⟨(x21.text_).toArray⟩) hs259.at2) ?_
   have hs263 := hs259.pk7.pk7.pk7.pk7.pk7
   obtain ⟨r264, hr265, h266⟩ := bind_some h261
   refine RWP.callB (dst := (some 72)) (ty := 4) (g := (some (2, false))) (by kernel_rfl) (K5 (d := 68) (by kernel_rfl) rfl rfl) (f0 := (.func 80)) (aos := #[(.tmp 69), (.tmp 71)]) (ats := #[95, 9]) (fid := 80) (first := #[]) (cap := #[]) (args := [(pt bp0 0), (.string ⟨(x21.text_).toArray⟩)]) rfl AF rfl (AG N bp0 r41.1 ar41_0_0 nr41_0_0 hbr41_0_0 hsr41_0_0 x21.text_ hs263.pk7.pk6.pk7 _ hr265) ?_
   rintro _ F15 w267 _ hs268 le269 ⟨ar264_0_0, nr264_0_0, rfl, rfl, hbr264_0_0, hsr264_0_0⟩
   refine Vg 73 4 2 false 68 rfl (LV (t := 4) (x := (.tmp 72)) (a := r264.2) rfl) ?_
   refine Pk0 (rfl : false = false) ?_
   refine Nt ?_
   refine Cd h266 (fun hb271 h272 => ?_) (fun hb271 h273 => ?_)
   ·refine Rg [0, 1, 2, 3] ?_
    refine V 75 95 (mv 0 (pt bp0 0) h257) ?_
    refine V 76 0 (fa 97 4 1 1 1 b35 0 1 h258) ?_
    refine Ld hs268.at2 ?_
    obtain ⟨r274, hr275, h276⟩ := bind_some h272
    refine CP AK (AM N bp0 r264.1 ar264_0_0 nr264_0_0 hbr264_0_0 hsr264_0_0 60 x21.at_ hs268 _ hr275) ?_ ?_
    ·rintro _ _ _ _ _ rfl _ _ _; cases hr275
    ·rintro b279 F17 w280 rfl hs281 le282
     have h283 := Bn h276
     refine Ak ?_
     have hs285 := hs281.dr0.dr0.dr0.dr0.dr0
     obtain rfl := Aa h283
     exact ⟨h256, .inr ⟨_, F17, rfl, rfl, hs285.dr0.dr0, ((le46.trans le269).trans le282)⟩⟩
   ·refine Sc ?_
    refine Ac ?_
    refine Sq (Rg [0, 1] ?_)
    refine V 79 95 (mv 0 (pt bp0 0) h257) ?_
    obtain ⟨r286, hr287, h288⟩ := bind_some h273
    refine CP A1 (A5 N bp0 r264.1 ar264_0_0 nr264_0_0 hbr264_0_0 hsr264_0_0 (([58] : Sx)) hs268 _ hr287) ?_ ?_
    ·rintro r289 _ F18 w291 _ rfl hs292 le293 ⟨ar289_0_0, nr289_0_0, rfl, rfl, hbr289_0_0, hsr289_0_0⟩
     have h295 := BU h288
     refine Nss (Rg [0, 1, 2, 3] ?_)
     refine V 81 95 (mv 0 (pt bp0 0) h257) ?_
     obtain ⟨r296, hr297, h298⟩ := bind_some h295
     refine CP BW (B9 N (hG.mono ((le46.trans le269).trans le293)) bp0 r289 ar289_0_0 nr289_0_0 hbr289_0_0 hsr289_0_0 hs292 _ hr297) ?_ ?_
     ·rintro r299 _ F19 w301 _ rfl hs302 le303 ⟨ar299_0_0, nr299_0_0, ar299_1_2, nr299_1_2, rfl, rfl, hbr299_0_0, hsr299_0_0, hbr299_1_2, hsr299_1_2⟩
      have h305 := BU h298
      refine Al' 113 #[(vi 0), (vi 0), (.slice none ([] : List Expr).length 0), (vi 0)] hs302 (fun b306 w307 hs308 => ?_)
      refine St0 (Aw r299.2 ar299_1_2 nr299_1_2) hs308 (fun w309 hs310 => ?_)
      refine Nss (Rg [0, 1] ?_)
      refine V 83 95 (mv 0 (pt bp0 0) h257) ?_
      have hs317 : HS wb Fb w309 F19 (e251 :: (sb b35 (Bc x21) 97) :: (sb bp1 (Bx x1 a1_0 n1_0 a1_1 n1_1 a1_2 n1_2 a1_3 n1_3) 26) :: e1_0 :: e1_1 :: e1_2 :: e1_3 :: (sb b306 (Aw r299.2 ar299_1_2 nr299_1_2) 113) :: (sb bp0 (Ad r299.1 ar299_0_0 nr299_0_0) 100) :: Lf) := hs310.pm [2, 3, 4, 5, 6, 7, 8, 0, 1]
      have hs318 : HS wb Fb w309 F19 ((sb bp0 (Ad r299.1 ar299_0_0 nr299_0_0) 100) :: (sb b306 (Aw r299.2 ar299_1_2 nr299_1_2) 113) :: e251 :: (sb b35 (Bc x21) 97) :: (sb bp1 (Bx x1 a1_0 n1_0 a1_1 n1_1 a1_2 n1_2 a1_3 n1_3) 26) :: e1_0 :: e1_1 :: e1_2 :: e1_3 :: Lf) := hs317.pk7.pick (k := 8) rfl
      obtain ⟨r319, hr320, h321⟩ := bind_some h305
      refine CP A1 (A5 N bp0 r299.1 ar299_0_0 nr299_0_0 hbr299_0_0 hsr299_0_0 (([61, 62] : Sx)) hs318 _ hr320) ?_ ?_
      ·rintro r322 _ F20 w324 _ rfl hs325 le326 ⟨ar322_0_0, nr322_0_0, rfl, rfl, hbr322_0_0, hsr322_0_0⟩
       have h328 := BU h321
       refine Nss (Rg [0, 1, 2, 3] ?_)
       refine V 85 95 (mv 0 (pt bp0 0) h257) ?_
       obtain ⟨r329, hr330, h331⟩ := bind_some h328
       refine CP BW (B9 N (hG.mono ((((le46.trans le269).trans le293).trans le303).trans le326)) bp0 r322 ar322_0_0 nr322_0_0 hbr322_0_0 hsr322_0_0 hs325 _ hr330) ?_ ?_
       ·rintro r332 _ F21 w334 _ rfl hs335 le336 ⟨ar332_0_0, nr332_0_0, ar332_1_2, nr332_1_2, rfl, rfl, hbr332_0_0, hsr332_0_0, hbr332_1_2, hsr332_1_2⟩
        have h338 := BU h331
        refine Al' 113 #[(vi 0), (vi 0), (.slice none ([] : List Expr).length 0), (vi 0)] hs335 (fun b339 w340 hs341 => ?_)
        refine St0 (Aw r332.2 ar332_1_2 nr332_1_2) hs341 (fun w342 hs343 => ?_)
        refine Nss (Rg [0, 1] ?_)
        refine V 87 95 (mv 0 (pt bp0 0) h257) ?_
        have hs353 : HS wb Fb w342 F21 ((sb bp0 (Ad r332.1 ar332_0_0 nr332_0_0) 100) :: (sb b339 (Aw r332.2 ar332_1_2 nr332_1_2) 113) :: (sb b306 (Aw r299.2 ar299_1_2 nr299_1_2) 113) :: e251 :: (sb b35 (Bc x21) 97) :: (sb bp1 (Bx x1 a1_0 n1_0 a1_1 n1_1 a1_2 n1_2 a1_3 n1_3) 26) :: e1_0 :: e1_1 :: e1_2 :: e1_3 :: Lf) := hs343.pm [1, 0, 2, 3, 4, 5, 6, 7, 8, 9]
        obtain ⟨r354, hr355, h356⟩ := bind_some h338
        refine CP DJ (Ee N bp0 r332.1 ar332_0_0 nr332_0_0 hbr332_0_0 hsr332_0_0 hs353 _ hr355) ?_ ?_
        ·rintro r357 _ F22 w359 _ rfl hs360 le361 ⟨rfl, rfl⟩
         have h363 := BU h356
         refine Nss ?_
         obtain ⟨j369, hj375, h376⟩ := bind_some h363
         refine RDP 7 7 [(sb bp0 (Ad r332.1 ar332_0_0 nr332_0_0) 100), (sb b339 (Aw r332.2 ar332_1_2 nr332_1_2) 113), (sb b306 (Aw r299.2 ar299_1_2 nr299_1_2) 113), e251, (sb b35 (Bc x21) 97), (sb bp1 (Bx x1 a1_0 n1_0 a1_1 n1_1 a1_2 n1_2 a1_3 n1_3) 26), e1_0, e1_1, e1_2, e1_3] [] hs360 (fun c d w => d = [] /\ ∃ (b : Aj) (Fp : Mem), j369 = .inl b /\ c = [{ v := (.iface 158 (.agg (AH b))), recovered := false }] /\ HS wb Fb w Fp Lf /\ R5 F22 Fp) (fun f w => ∃ (J377 : Unit), j369 = .inr J377 /\ ∃ (F23 : Mem), HS wb Fb w F23 ((sb bp0 (Ad r332.1 ar332_0_0 nr332_0_0) 100) :: (sb b339 (Aw r332.2 ar332_1_2 nr332_1_2) 113) :: (sb b306 (Aw r299.2 ar299_1_2 nr299_1_2) 113) :: (sb bp1 (Bx x1 a1_0 n1_0 a1_1 n1_1 a1_2 n1_2 a1_3 n1_3) 26) :: e1_0 :: e1_1 :: e1_2 :: e1_3 :: Lf) /\ R5 F22 F23 /\ FI f [] [(0, (pt bp0 0)), (7, (pt bp1 0)), (9, (pt b306 0)), (10, (pt b339 0))]) (fun wd364 hw365 => ?_) ?_ ?_
         ·refine Dt 0 89 95 _ (fun _ hq => mv 0 (pt bp0 0) h257) ?_
          refine Dv [1, 2] ?_
          refine Dl 3 (fun _ hq => (hq.1.2 5 _ _ rfl)) ?_
          refine Dt 4 93 0 (pt b35 1) (fun _ hq => fa 97 4 1 1 1 b35 0 1 h258) ?_
          refine Dl 5 (fun _ hq => (hq.1.2 4 _ _ rfl)) ?_
          refine D1 6 ?_
          obtain ⟨r378, hr379, h380⟩ := bind_some hj375
          refine DCP Fe (FA N bp0 r332.1 ar332_0_0 nr332_0_0 hbr332_0_0 (R8 hsr332_0_0 le361) x1.Points a1_0 n1_0 x21.at_ hw365 _ hr379) ?_ ?_
          ·rintro r381 _ F24 w383 _ rfl hs384 le385 ⟨rfl, rfl⟩
           have h387 := BU h380
           refine ⟨BF hs384 le385 (by simp) (zdT (by kernel_rfl)), ?_⟩
           obtain rfl := Aa h387
           exact Sm (by kernel_rfl) ⟨_, rfl, F24, hs384.dr3.dr3, le385, (fJ ⟨h257, rfl, rfl, rfl, trivial⟩ (hd := h256))⟩
          ·rintro b388 F25 w389 rfl hs390 le391
           have h392 := Bn h380
           obtain rfl := Aa h392
           have hs394 := hs390.dr0.dr0.dr0.dr0.dr0
           exact ⟨h256, _, _, rfl, rfl, hs394.dr0.dr0.dr0.dr0, le391⟩
         ·rintro f w366 ⟨J377, rfl, F23, hs367, le368, ⟨_, rfl⟩⟩
          have h395 := BU h376
          refine Ac ?_
          refine Sq (Rg [0, 1, 2] ?_)
          refine Vs 1 ?_
          refine Ld hs367.at2 ?_
          obtain ⟨r396, hr397, h398⟩ := bind_some h395
          refine CP B8 (Cj N bp0 r332.1 ar332_0_0 nr332_0_0 hbr332_0_0 (R8 hsr332_0_0 (le361.trans le368)) r299.2 ar299_1_2 nr299_1_2 hbr299_1_2 (R8 hsr299_1_2 (((le326.trans le336).trans le361).trans le368)) 2 hs367 _ hr397) ?_ ?_
          ·rintro r399 _ F26 w401 _ rfl hs402 le403 ⟨rfl, rfl⟩
           have h405 := BU h398
           refine Nss (Rg [0, 1, 2] ?_)
           refine Vs 1 ?_
           refine Ld hs402.at1 ?_
           obtain ⟨r406, hr407, h408⟩ := bind_some h405
           refine CP B8 (Cj N bp0 r332.1 ar332_0_0 nr332_0_0 hbr332_0_0 (R8 hsr332_0_0 ((le361.trans le368).trans le403)) r332.2 ar332_1_2 nr332_1_2 hbr332_1_2 (R8 hsr332_1_2 ((le361.trans le368).trans le403)) 1 hs402 _ hr407) ?_ ?_
           ·rintro r409 _ F27 w411 _ rfl hs412 le413 ⟨rfl, rfl⟩
            have h415 := BU h408
            refine Nt ?_
            obtain ⟨j421, hj423, h424⟩ := bind_some h415
            refine RD 12 13 [(sb bp0 (Ad r332.1 ar332_0_0 nr332_0_0) 100), (sb b339 (Aw r332.2 ar332_1_2 nr332_1_2) 113), (sb b306 (Aw r299.2 ar299_1_2 nr299_1_2) 113), e1_1, e1_2, e1_3] [(sb bp1 (Bx x1 a1_0 n1_0 a1_1 n1_1 a1_2 n1_2 a1_3 n1_3) 26)] hs412 (fun f w => ∃ (F28 : Mem) (aj421_0 : Sy) (nj421_0 : Nat) (ej421_0 : Option Nat × Obj), HS wb Fb w F28 ((sb bp0 (Ad r332.1 ar332_0_0 nr332_0_0) 100) :: (sb bp1 #[(.slice aj421_0 j421.length nj421_0), (.slice a1_1 x1.Multipliers.length n1_1), (.slice a1_2 x1.Penalties.length n1_2), (.slice a1_3 x1.Repeats.length n1_3)] 26) :: ej421_0 :: e1_1 :: e1_2 :: e1_3 :: Lf) /\ R5 F27 F28 /\ FI f [] [] /\ Au AB 56 F28 aj421_0 nj421_0 j421 ej421_0) (fun wd416 hw417 => ?_) ?_
            ·refine Dv [0, 1, 2] ?_
             refine Dl 3 (fun _ hq => ((hq.2 rfl).2 0 _ _ rfl)) ?_
             refine Dv [4] ?_
             refine Dl 5 (fun _ hq => (hq.1.2 2 _ _ rfl)) ?_
             refine Dv [6] ?_
             refine Dl 7 (fun _ hq => (hq.1.2 1 _ _ rfl)) ?_
             refine Dv [8] ?_
             refine D1 9 ?_
             refine DBs 56 [(vi r299.2.Expr.Op), (vi r299.2.Expr.Value), (.slice ar299_1_2 r299.2.Expr.Kids.length nr299_1_2), (vi r332.2.Expr.Op), (vi r332.2.Expr.Value), (.slice ar332_1_2 r332.2.Expr.Kids.length nr332_1_2)] hw417 (R6 _) (fun b425 w426 hs427 => ?_)
             have hr429 : Au AB 56 F27 (some ⟨b425, 0, none⟩) 1 [({ When := r299.2.Expr, Then := r332.2.Expr } : Clause)] (some b425, .cells ([(vi r299.2.Expr.Op), (vi r299.2.Expr.Value), (.slice ar299_1_2 r299.2.Expr.Kids.length nr299_1_2), (vi r332.2.Expr.Op), (vi r332.2.Expr.Value), (.slice ar332_1_2 r332.2.Expr.Kids.length nr332_1_2)] : List Value).toArray 56 (0, 0)) := Sr ⟨⟨ar299_1_2, nr299_1_2, ar332_1_2, nr332_1_2, rfl, hbr299_1_2, (R8 hsr299_1_2 (((((le326.trans le336).trans le361).trans le368).trans le403).trans le413)), hbr332_1_2, (R8 hsr332_1_2 (((le361.trans le368).trans le403).trans le413))⟩, rfl⟩ (by simp)
             refine D1 10 ?_
             obtain ⟨r430, hap431, h432⟩ := bind_some hj423
             refine RV Oa hs427 (hr1_0.mono (((((((((le46.trans le269).trans le293).trans le303).trans le326).trans le336).trans le361).trans le368).trans le403).trans le413)) (hs427.rd0 hr429) hap431 (R6 _) (fun a433 n434 e435 w436 hs437 hr438 => ?_)
             refine Dv [11] ?_
             refine D1 12 ?_
             refine RT #[(.slice a433 r430.length n434), (.slice a1_1 x1.Multipliers.length n1_1), (.slice a1_2 x1.Penalties.length n1_2), (.slice a1_3 x1.Repeats.length n1_3)] hs437 (R6 _) (fun w439 hs440 => ?_)
             obtain rfl := Aa h432
             exact Sm (by kernel_rfl) ⟨F27, a433, n434, e435, hs440.dr0.dr1.dr1, (R6 _), fI, hr438⟩
            ·rintro f w418 ⟨F28, aj421_0, nj421_0, ej421_0, hs419, le420, ⟨_, rfl⟩, hrj421_0⟩
             obtain rfl := Aa h424
             exact ReP [] hs419 ((((((((((le46.trans le269).trans le293).trans le303).trans le326).trans le336).trans le361).trans le368).trans le403).trans le413).trans le420) ⟨ar332_0_0, nr332_0_0, aj421_0, nj421_0, ej421_0, a1_1, n1_1, e1_1, a1_2, n1_2, e1_2, a1_3, n1_3, e1_3, rfl, rfl, hbr332_0_0, (R8 hsr332_0_0 ((((le361.trans le368).trans le403).trans le413).trans le420)), hrj421_0, (hr1_1.mono ((((((((((le46.trans le269).trans le293).trans le303).trans le326).trans le336).trans le361).trans le368).trans le403).trans le413).trans le420)), (hr1_2.mono ((((((((((le46.trans le269).trans le293).trans le303).trans le326).trans le336).trans le361).trans le368).trans le403).trans le413).trans le420)), (hr1_3.mono ((((((((((le46.trans le269).trans le293).trans le303).trans le326).trans le336).trans le361).trans le368).trans le403).trans le413).trans le420))⟩
           ·rintro b441 F29 w442 rfl hs443 le444
            have h445 := Bn h408
            refine Ak ?_
            have hs447 := hs443.dr0.dr0.dr0.dr0.dr0
            obtain rfl := Aa h445
            exact Cw hs447.dr0.dr0 (((((((((le46.trans le269).trans le293).trans le303).trans le326).trans le336).trans le361).trans le368).trans le403).trans le444)
          ·rintro b448 F30 w449 rfl hs450 le451
           have h452 := Bn h398
           refine Ak ?_
           have hs454 := hs450.dr0.dr0.dr0.dr0.dr0
           obtain rfl := Aa h452
           exact Cw hs454.dr0.dr0 ((((((((le46.trans le269).trans le293).trans le303).trans le326).trans le336).trans le361).trans le368).trans le451)
         ·rintro c f w456 ⟨hd459, b455, F31, rfl, rfl, hs457, le458⟩
          have h460 := Bn h376
          refine Ak ?_
          obtain rfl := Aa h460
          exact ⟨hd459, .inr ⟨_, F31, rfl, rfl, hs457, (((((((le46.trans le269).trans le293).trans le303).trans le326).trans le336).trans le361).trans le458)⟩⟩
        ·rintro b461 F32 w462 rfl hs463 le464
         have h465 := Bn h356
         refine Ak ?_
         have hs467 := hs463.dr0.dr0.dr0.dr0.dr0
         obtain rfl := Aa h465
         exact ⟨h256, .inr ⟨_, F32, rfl, rfl, hs467.dr0.dr0.dr0.dr0, ((((((le46.trans le269).trans le293).trans le303).trans le326).trans le336).trans le464)⟩⟩
       ·rintro b468 F33 w469 rfl hs470 le471
        have h472 := Bn h331
        refine Ak ?_
        have hs474 := hs470.dr0.dr0.dr0.dr0.dr0
        obtain rfl := Aa h472
        exact ⟨h256, .inr ⟨_, F33, rfl, rfl, hs474.dr0.dr0.dr0, (((((le46.trans le269).trans le293).trans le303).trans le326).trans le471)⟩⟩
      ·rintro b475 F34 w476 rfl hs477 le478
       have h479 := Bn h321
       refine Ak ?_
       have hs481 := hs477.dr0.dr0.dr0.dr0.dr0
       obtain rfl := Aa h479
       exact ⟨h256, .inr ⟨_, F34, rfl, rfl, hs481.dr0.dr0.dr0, ((((le46.trans le269).trans le293).trans le303).trans le478)⟩⟩
     ·rintro b482 F35 w483 rfl hs484 le485
      have h486 := Bn h298
      refine Ak ?_
      have hs488 := hs484.dr0.dr0.dr0.dr0.dr0
      obtain rfl := Aa h486
      exact ⟨h256, .inr ⟨_, F35, rfl, rfl, hs488.dr0.dr0, (((le46.trans le269).trans le293).trans le485)⟩⟩
    ·rintro b489 F36 w490 rfl hs491 le492
     have h493 := Bn h288
     refine Ak ?_
     have hs495 := hs491.dr0.dr0.dr0.dr0.dr0
     obtain rfl := Aa h493
     exact ⟨h256, .inr ⟨_, F36, rfl, rfl, hs495.dr0.dr0, ((le46.trans le269).trans le492)⟩⟩
  ·cases h262
def Ft (N : Nat) (x0 : Ab) (z0 : Du) : (List Aq × Int × List Clause × List Clause × List Clause × List Expr) -> Option (BX (Aj ⊕ (Ab × Du)) (List Aq × Int × List Clause × List Clause × List Clause × List Expr)) := fun s24 =>
 ((idx s24.1 0).bind fun x42 => (bif (x42.kind_ != 0) then ((Ar N ({ l_ := s24.1, open_ := s24.2.1 } : Ab) ([10] : Sx)).bind fun r59 => (bif (!r59.2) then ((EX N r59.1 ({ Points := s24.2.2.1, Multipliers := s24.2.2.2.1, Penalties := s24.2.2.2.2.1, Repeats := s24.2.2.2.2.2 } : Du)).bind fun r69 => sk r69 (fun b80 => some (.ret (.inl b80))) (fun r72 => some (.next (r72.1.l_, r72.1.open_, r72.2.Points, r72.2.Multipliers, r72.2.Penalties, r72.2.Repeats)))) else some (.next (r59.1.l_, r59.1.open_, s24.2.2.1, s24.2.2.2.1, s24.2.2.2.2.1, s24.2.2.2.2.2)))) else some (.done (s24.1, s24.2.1, s24.2.2.1, s24.2.2.2.1, s24.2.2.2.2.1, s24.2.2.2.2.2))))
def Ho (N : Nat) (x0 : Ab) (z0 : Du) : Option (Aj ⊕ (Ab × Du)) :=
 ((Br (Ft N x0 z0) N (x0.l_, x0.open_, z0.Points, z0.Multipliers, z0.Penalties, z0.Repeats)).bind fun o => o.k (fun r => some r) (fun s31 => some (.inr (({ l_ := s31.1, open_ := s31.2.1 } : Ab), ({ Points := s31.2.2.1, Multipliers := s31.2.2.2.1, Penalties := s31.2.2.2.2.1, Repeats := s31.2.2.2.2.2 } : Du)))))
theorem Jc : An Tryz.prog 79 := fun _ _ => by kernel_rfl
theorem JY (N : Nat) {wb w0 : World} {Fb F0 : Mem} {Lf : Own} (hG : CI F0) (bp0 : Nat) (x0 : Ab) (a0_0 : Sy) (n0_0 : Nat) (hb0_0 : LC x0.l_.length n0_0) (hs0_0 : SlA Ag F0 a0_0 x0.l_) (bz0 : Nat) (z0 : Du) (az0_0 : Sy) (nz0_0 : Nat) (ez0_0 : Option Nat × Obj) (az0_1 : Sy) (nz0_1 : Nat) (ez0_1 : Option Nat × Obj) (az0_2 : Sy) (nz0_2 : Nat) (ez0_2 : Option Nat × Obj) (az0_3 : Sy) (nz0_3 : Nat) (ez0_3 : Option Nat × Obj) (hrz0_0 : Au AB 56 F0 az0_0 nz0_0 z0.Points ez0_0) (hrz0_1 : Au AB 56 F0 az0_1 nz0_1 z0.Multipliers ez0_1) (hrz0_2 : Au AB 56 F0 az0_2 nz0_2 z0.Penalties ez0_2) (hrz0_3 : Au Ao 33 F0 az0_3 nz0_3 z0.Repeats ez0_3) (hs0 : HS wb Fb w0 F0 ((sb bp0 (Ad x0 a0_0 n0_0) 100) :: (sb bz0 (Bx z0 az0_0 nz0_0 az0_1 nz0_1 az0_2 nz0_2 az0_3 nz0_3) 26) :: ez0_0 :: ez0_1 :: ez0_2 :: ez0_3 :: Lf)) (r : (Aj ⊕ (Ab × Du))) (h : Ho N x0 z0 = some r) :
  Calls Tryz.prog 79 ([(pt bp0 0), (pt bz0 0)] : List Value).toArray w0 (BH wb Fb F0 Lf r (fun b => (.iface 158 (.agg (AH b)))) fun a F' v L' => ∃ (aq0_0 : Sy) (nq0_0 : Nat) (aq1_0 : Sy) (nq1_0 : Nat) (eq1_0 : Option Nat × Obj) (aq1_1 : Sy) (nq1_1 : Nat) (eq1_1 : Option Nat × Obj) (aq1_2 : Sy) (nq1_2 : Nat) (eq1_2 : Option Nat × Obj) (aq1_3 : Sy) (nq1_3 : Nat) (eq1_3 : Option Nat × Obj), v = (.tuple #[]) /\ L' = (sb bp0 (Ad a.1 aq0_0 nq0_0) 100) :: (sb bz0 (Bx a.2 aq1_0 nq1_0 aq1_1 nq1_1 aq1_2 nq1_2 aq1_3 nq1_3) 26) :: eq1_0 :: eq1_1 :: eq1_2 :: eq1_3 :: Lf /\ LC a.1.l_.length nq0_0 /\ SlA Ag F' aq0_0 a.1.l_ /\ Au AB 56 F' aq1_0 nq1_0 a.2.Points eq1_0 /\ Au AB 56 F' aq1_1 nq1_1 a.2.Multipliers eq1_1 /\ Au AB 56 F' aq1_2 nq1_2 a.2.Penalties eq1_2 /\ Au Ao 33 F' aq1_3 nq1_3 a.2.Repeats eq1_3) := by
 refine Go 16 Tryz.func79 ?_
 obtain ⟨o21, ho22, h23⟩ := bind_some h
 refine Se (fun f w => ∃ (s31 : (List Aq × Int × List Clause × List Clause × List Clause × List Expr)) (F2 : Mem) (as31_0 : Sy) (ns31_0 : Nat) (as31_2 : Sy) (ns31_2 : Nat) (es31_2 : Option Nat × Obj) (as31_3 : Sy) (ns31_3 : Nat) (es31_3 : Option Nat × Obj) (as31_4 : Sy) (ns31_4 : Nat) (es31_4 : Option Nat × Obj) (as31_5 : Sy) (ns31_5 : Nat) (es31_5 : Option Nat × Obj), o21 = .done s31 /\ HS wb Fb w F2 ((sb bp0 #[(.slice as31_0 s31.1.length ns31_0), (vi s31.2.1)] 100) :: (sb bz0 #[(.slice as31_2 s31.2.2.1.length ns31_2), (.slice as31_3 s31.2.2.2.1.length ns31_3), (.slice as31_4 s31.2.2.2.2.1.length ns31_4), (.slice as31_5 s31.2.2.2.2.2.length ns31_5)] 26) :: es31_2 :: es31_3 :: es31_4 :: es31_5 :: Lf) /\ R5 F0 F2 /\ FI f [] [] /\ LC s31.1.length ns31_0 /\ SlA Ag F2 as31_0 s31.1 /\ Au AB 56 F2 as31_2 ns31_2 s31.2.2.1 es31_2 /\ Au AB 56 F2 as31_3 ns31_3 s31.2.2.2.1 es31_3 /\ Au AB 56 F2 as31_4 ns31_4 s31.2.2.2.2.1 es31_4 /\ Au Ao 33 F2 as31_5 ns31_5 s31.2.2.2.2.2 es31_5) ?_ ?_
 ·refine Bk ?_
  refine R4 (by kernel_rfl) (fun m f w => ∃ (s24 : (List Aq × Int × List Clause × List Clause × List Clause × List Expr)) (F1 : Mem) (as24_0 : Sy) (ns24_0 : Nat) (as24_2 : Sy) (ns24_2 : Nat) (es24_2 : Option Nat × Obj) (as24_3 : Sy) (ns24_3 : Nat) (es24_3 : Option Nat × Obj) (as24_4 : Sy) (ns24_4 : Nat) (es24_4 : Option Nat × Obj) (as24_5 : Sy) (ns24_5 : Nat) (es24_5 : Option Nat × Obj), Br (Ft N x0 z0) m s24 = some o21 /\ HS wb Fb w F1 ((sb bp0 #[(.slice as24_0 s24.1.length ns24_0), (vi s24.2.1)] 100) :: (sb bz0 #[(.slice as24_2 s24.2.2.1.length ns24_2), (.slice as24_3 s24.2.2.2.1.length ns24_3), (.slice as24_4 s24.2.2.2.2.1.length ns24_4), (.slice as24_5 s24.2.2.2.2.2.length ns24_5)] 26) :: es24_2 :: es24_3 :: es24_4 :: es24_5 :: Lf) /\ R5 F0 F1 /\ FI f [] [(0, (pt bp0 0)), (1, (pt bz0 0))] /\ LC s24.1.length ns24_0 /\ SlA Ag F1 as24_0 s24.1 /\ Au AB 56 F1 as24_2 ns24_2 s24.2.2.1 es24_2 /\ Au AB 56 F1 as24_3 ns24_3 s24.2.2.2.1 es24_3 /\ Au AB 56 F1 as24_4 ns24_4 s24.2.2.2.2.1 es24_4 /\ Au Ao 33 F1 as24_5 ns24_5 s24.2.2.2.2.2 es24_5) N ⟨(x0.l_, x0.open_, z0.Points, z0.Multipliers, z0.Penalties, z0.Repeats), F0, a0_0, n0_0, az0_0, nz0_0, ez0_0, az0_1, nz0_1, ez0_1, az0_2, nz0_2, ez0_2, az0_3, nz0_3, ez0_3, ho22, hs0, (R6 _), fI, hb0_0, hs0_0, hrz0_0, hrz0_1, hrz0_2, hrz0_3⟩ ?_
  rintro m36 f w25 ⟨s24, F1, as24_0, ns24_0, as24_2, ns24_2, es24_2, as24_3, ns24_3, es24_3, as24_4, ns24_4, es24_4, as24_5, ns24_5, es24_5, hit37, hs26, le27, ⟨_, rfl⟩, hbs24_0, hss24_0, hrs24_2, hrs24_3, hrs24_4, hrs24_5⟩
  obtain ⟨m38, fl39, rfl, hb40, hnx41⟩ := A7 hit37
  refine Sq ?_
  refine Sq (Rg [0, 1, 2, 3, 4, 5, 6, 7] ?_)
  refine Vs 3 ?_
  refine Ld hs26.at0 ?_
  obtain ⟨x42, hx43, h45⟩ := bind_some hb40
  obtain ⟨hi44, hx43'⟩ := Ay hx43
  obtain ⟨b46, o47, C48, E49, fz50, rfl, hF52, hE53⟩ := Sh hss24_0 hx43'
  have hc55 := hE53 _ _ hx43'
  refine Ix hi44 ?_
  refine Vs 1 ?_
  refine Lx 0 (hs26.pers _ _ hF52) hc55 ?_
  refine Vs 1 ?_
  refine Nt ?_
  refine Cd h45 (fun hb56 h57 => ?_) (fun hb56 h58 => ?_)
  ·refine Sc ?_
   refine Ac ?_
   refine Bk ?_
   refine Sq (Rg [0, 1, 2] ?_)
   refine Vs 1 ?_
   obtain ⟨r59, hr60, h61⟩ := bind_some h57
   refine CB AF (AG N bp0 (({ l_ := s24.1, open_ := s24.2.1 } : Ab)) (some ⟨b46, o47, none⟩) ns24_0 hbs24_0 hss24_0 (([10] : Sx)) hs26 _ hr60) ?_
   rintro _ F3 w62 _ hs63 le64 ⟨ar59_0_0, nr59_0_0, rfl, rfl, hbr59_0_0, hsr59_0_0⟩
   refine Vs 1 ?_
   refine Nt ?_
   refine Cd h61 (fun hb66 h67 => ?_) (fun hb66 h68 => ?_)
   ·refine Rg [0, 1] ?_
    refine Vs 1 ?_
    obtain ⟨r69, hr70, h71⟩ := bind_some h67
    refine CP GD (G9 N (hG.mono (le27.trans le64)) bp0 r59.1 ar59_0_0 nr59_0_0 hbr59_0_0 hsr59_0_0 bz0 (({ Points := s24.2.2.1, Multipliers := s24.2.2.2.1, Penalties := s24.2.2.2.2.1, Repeats := s24.2.2.2.2.2 } : Du)) as24_2 ns24_2 es24_2 as24_3 ns24_3 es24_3 as24_4 ns24_4 es24_4 as24_5 ns24_5 es24_5 (hrs24_2.mono le64) (hrs24_3.mono le64) (hrs24_4.mono le64) (hrs24_5.mono le64) hs63 _ hr70) ?_ ?_
    ·rintro r72 _ F4 w74 _ rfl hs75 le76 ⟨ar72_0_0, nr72_0_0, ar72_1_0, nr72_1_0, er72_1_0, ar72_1_1, nr72_1_1, er72_1_1, ar72_1_2, nr72_1_2, er72_1_2, ar72_1_3, nr72_1_3, er72_1_3, rfl, rfl, hbr72_0_0, hsr72_0_0, hrr72_1_0, hrr72_1_1, hrr72_1_2, hrr72_1_3⟩
     have h78 := BU h71
     refine RY ?_
     refine Ap ?_
     have hn79 := A0 h78 hnx41
     exact ⟨m38, Nat.lt_succ_self _, (r72.1.l_, r72.1.open_, r72.2.Points, r72.2.Multipliers, r72.2.Penalties, r72.2.Repeats), F4, ar72_0_0, nr72_0_0, ar72_1_0, nr72_1_0, er72_1_0, ar72_1_1, nr72_1_1, er72_1_1, ar72_1_2, nr72_1_2, er72_1_2, ar72_1_3, nr72_1_3, er72_1_3, hn79, hs75, ((le27.trans le64).trans le76), fI, hbr72_0_0, hsr72_0_0, hrr72_1_0, hrr72_1_1, hrr72_1_2, hrr72_1_3⟩
    ·rintro b80 F5 w81 rfl hs82 le83
     have h84 := Bn h71
     refine AL ?_
     refine Ak ?_
     refine AL ?_
     have hret := Cf h84 hnx41
     subst hret
     refine .inr ?_
     obtain rfl := Aa h23
     exact Cw hs82 ((le27.trans le64).trans le83)
   ·refine Sc ?_
    refine Ap ?_
    have hn86 := A0 h68 hnx41
    exact ⟨m38, Nat.lt_succ_self _, (r59.1.l_, r59.1.open_, s24.2.2.1, s24.2.2.2.1, s24.2.2.2.2.1, s24.2.2.2.2.2), F3, ar59_0_0, nr59_0_0, as24_2, ns24_2, es24_2, as24_3, ns24_3, es24_3, as24_4, ns24_4, es24_4, as24_5, ns24_5, es24_5, hn86, hs63, (le27.trans le64), fI, hbr59_0_0, hsr59_0_0, (hrs24_2.mono le64), (hrs24_3.mono le64), (hrs24_4.mono le64), (hrs24_5.mono le64)⟩
  ·refine Ex ?_
   refine AC ?_
   refine AC ?_
   refine AV rfl ?_
   have ho87 := Bd h58 hnx41
   exact .inl ⟨rfl, (s24.1, s24.2.1, s24.2.2.1, s24.2.2.2.1, s24.2.2.2.2.1, s24.2.2.2.2.2), F1, (some ⟨b46, o47, none⟩), ns24_0, as24_2, ns24_2, es24_2, as24_3, ns24_3, es24_3, as24_4, ns24_4, es24_4, as24_5, ns24_5, es24_5, ho87, hs26, le27, fI, hbs24_0, hss24_0, hrs24_2, hrs24_3, hrs24_4, hrs24_5⟩
 ·rintro f w32 ⟨s31, F2, as31_0, ns31_0, as31_2, ns31_2, es31_2, as31_3, ns31_3, es31_3, as31_4, ns31_4, es31_4, as31_5, ns31_5, es31_5, rfl, hs33, le34, ⟨_, rfl⟩, hbs31_0, hss31_0, hrs31_2, hrs31_3, hrs31_4, hrs31_5⟩
  have h88 := Cu h23
  obtain rfl := Aa h88
  exact ReP [] hs33 le34 ⟨as31_0, ns31_0, as31_2, ns31_2, es31_2, as31_3, ns31_3, es31_3, as31_4, ns31_4, es31_4, as31_5, ns31_5, es31_5, rfl, rfl, hbs31_0, hss31_0, hrs31_2, hrs31_3, hrs31_4, hrs31_5⟩
def OU : Expr := { Op := 0, Value := 0, Kids := ([] : List Expr) }
def NW : Bo := { Expr := OU, at_ := 0 }
def NX : Du := { Points := ([] : List Clause), Multipliers := ([] : List Clause), Penalties := ([] : List Clause), Repeats := ([] : List Expr) }
def IF {α β : Type} (N : Nat) (s : Sx) (run : Ab -> Option (Aj ⊕ α)) (z : β) (f : α -> β) : Option (β × Int × Int) :=
 bif decide ((s.length : Int) > 65536) then some (z, 2, 0) else (Gg N s).bind fun l => (run { l_ := l, open_ := 0 }).bind fun q => sk q (fun b => bif b.e_ != 0 then some (z, b.e_, b.at_) else none) (fun a => some (f a, 0, 0))
def CD (N : Nat) (x0 : Sx) : Option (Expr × Int × Int) := IF N x0 (fun p => EZ N p NW) OU (fun a => a.2.Expr)
def D4 (N : Nat) (x0 : Sx) : Option (Du × Int × Int) := IF N x0 (fun p => Ho N p NX) NX (fun a => a.2)
theorem M5 {α : Type} {b : Bool} {x y : α} (h : b = true) : (bif b then x else y) = x := by subst h; rfl
theorem LF {α : Type} {b : Bool} {x y : α} (h : b = false) : (bif b then x else y) = y := by subst h; rfl
theorem EL : An Tryz.prog 25 := fun _ _ => by kernel_rfl
set_option maxRecDepth 100000 in
theorem E7 (N : Nat) (w0 : World) (F0 : Mem) (hF : Sz w0 F0) (hG : CI F0) (x0 : Sx) (r : Expr × Int × Int) (h : CD N x0 = some r) :
  Calls Tryz.prog 25 ([.string ⟨x0.toArray⟩] : List Value).toArray w0 (AU w0 F0 fun F' v => ∃ (aq0_2 : Sy) (nq0_2 : Nat), v = (.tuple #[(.agg #[(.int .i64 r.1.Op), (.int .i64 r.1.Value), (.slice aq0_2 r.1.Kids.length nq0_2)]), (.int .i64 r.2.1), (.int .i64 r.2.2)]) /\ LC r.1.Kids.length nq0_2 /\ SlA Ao F' aq0_2 r.1.Kids) := by
 have hs0 := R7 hF
 refine Ea (n := 21) (c := B7 Tryz.f25) Tryz.func25 (by kernel_rfl) (by kernel_rfl) (by kernel_rfl) ?_
 refine Sq ?_
 refine Rg [0, 1, 2] ?_
 refine Sf (dst := some 2) (ty := 0) (g := none) (by kernel_rfl) rfl (t := 33) (z := .agg #[.int .i64 0, .int .i64 0, .slice none 0 0]) (by kernel_rfl) (C := #[.int .i64 0, .int .i64 0, .slice none 0 0]) rfl hs0 (fun b2 w1 hs1 => ?_)
 refine V 3 27 (AA (x := .const (.int .i64 0)) (v := .int .i64 0) rfl) ?_
 refine V 4 3 (AA (x := .const (.int .i64 0)) (v := .int .i64 0) rfl) ?_
 refine RY ?_
 refine Ac ?_
 refine Sq ?_
 refine Rg [0] ?_
 refine Sf (dst := some 5) (ty := 0) (g := none) (by kernel_rfl) rfl (t := 113) (z := .agg #[.int .i64 0, .int .i64 0, .slice none 0 0, .int .i64 0]) (by kernel_rfl) (C := #[.int .i64 0, .int .i64 0, .slice none 0 0, .int .i64 0]) rfl hs1 (fun b5 w2 hs2 => ?_)
 refine RY ?_
 refine Ac ?_
 refine Sq ?_
 refine Rg [0, 1, 2, 3, 4, 5, 6, 7] ?_
 refine V 9 9 (AJ (x := .tmp 0) (v := .string ⟨x0.toArray⟩) rfl) ?_
 refine V 10 103 (CX (fn := .func 85) (first := #[]) (cap := #[.tmp 5]) (fl := []) (cl := [.pointer (some ⟨b5, 0, none⟩)]) rfl rfl) ?_
 obtain ⟨X, hX⟩ : ∃ X : Own, X = [(some b2, .cells #[.int .i64 0, .int .i64 0, .slice none 0 0] 33 (0, 0))] := ⟨_, rfl⟩
 refine R2 (dst := some 11) (ty := 88) (g := none) (by kernel_rfl) rfl (C8 (f := .func 78) (aos := #[.tmp 9, .tmp 10]) (ats := #[9, 103]) (g := 78) (first := #[]) (cap := #[]) (args := [.string ⟨x0.toArray⟩, .func (.func 85) #[] #[.pointer (some ⟨b5, 0, none⟩)]]) rfl Hs rfl)
  (Im N hs2 x0 (g := 85) (cap := [.pointer (some ⟨b5, 0, none⟩)]) GI (fun o F' L' => match o with
   | none => ∃ (e : Expr) (at_ : Int) (a : Sy) (n : Nat), L' = (some b5, .cells #[.int .i64 e.Op, .int .i64 e.Value, .slice a e.Kids.length n, .int .i64 at_] 113 (0, 0)) :: X /\ LC e.Kids.length n /\ SlA Ao F' a e.Kids /\ some (e, (0 : Int), (0 : Int)) = some r
   | some x => (bif x.e_ != 0 then some (OU, x.e_, x.at_) else none) = some r /\ (L' = X \/ ∃ o, L' = (some b5, o) :: X)) ?_ ?_) ?_
 ·intro hc F'
  unfold CD IF at h
  rw [M5 hc] at h
  exact ⟨h, .inr ⟨_, by rw [hX]⟩⟩
 ·intro hc
  unfold CD IF at h
  rw [LF hc] at h
  obtain ⟨l, hl, h⟩ := bind_some h
  obtain ⟨q, hq, h⟩ := bind_some h
  refine ⟨l, hl, fun w3 F3 be_ ba_ bp a n le3 hb hsl hs3 => ?_⟩
  have hs4 : HS w0 F0 w3 F3 ((some bp, .cells #[.slice a l.length n, .int .i64 0] 100 (0, 0)) :: (some b5, .cells #[.int .i64 0, .int .i64 0, .slice none 0 0, .int .i64 0] 113 (0, 0)) :: (some ba_, ba 0) :: (some be_, be 0) :: X) := by
   rw [hX]; exact (hs3.pick (k := 3) rfl).pick (k := 1) rfl
  refine (Hb N (hG.mono (hs3.le)) bp { l_ := l, open_ := 0 } a n hb hsl b5 NW none 0 R9 (.inl rfl) hs4 q hq).mono ?_
  rintro e w4 (⟨a1, F4, v, L', rfl, rfl, hs5, le5, aq, nq, az, nz, rfl, rfl, h1, h2, h3, h4⟩ | ⟨x, F4, rfl, rfl, hs5, le5⟩)
  ·exact .inl ⟨_, F4, _, rfl, ((hs5.drop 0).pick (k := 2) rfl).pick (k := 2) rfl, le5, _, _, az, nz, rfl, h3, h4, h⟩
  ·exact .inr ⟨x, F4, _, rfl, hs5, le5, h, .inl rfl⟩
 ·rintro e w5 ⟨o, F5, L5, rfl, hs5, le5, hK⟩
  cases o with
  | none =>
   obtain ⟨e, at_, a, n, rfl, hb, hsl, hr⟩ := hK
   simp only
   refine V 8 88 (AJ (x := .tmp 11) (v := .tuple #[.int .i64 0, .int .i64 0]) rfl) ?_
   refine V 12 27 (BD (x := .tmp 8) (vs := #[.int .i64 0, .int .i64 0]) (i := 0) (v := .int .i64 0) rfl rfl) ?_
   refine V 13 3 (BD (x := .tmp 8) (vs := #[.int .i64 0, .int .i64 0]) (i := 1) (v := .int .i64 0) rfl rfl) ?_
   refine V 6 27 (AA (x := .tmp 12) (v := .int .i64 0) rfl) ?_
   refine V 7 3 (AA (x := .tmp 13) (v := .int .i64 0) rfl) ?_
   refine RY ?_
   refine Ac ?_
   refine Sq ?_
   refine Sq ?_
   refine Rg [0, 1] ?_
   refine V 14 27 (AJ (x := .tmp 6) (v := .int .i64 0) rfl) ?_
   refine V 15 4 (GX (t := 27) (t' := 27) (x := .tmp 14) (y := .const (.int .i64 0)) (k := .i64) (a := 0) (b := 0) rfl rfl) ?_
   refine RY ?_
   refine Ac ?_
   refine CWP.cond0 (t := false) (by kernel_rfl) rfl rfl ?_
   refine R3 (by kernel_rfl) ?_
   refine Ac ?_
   refine Sq ?_
   refine Rg [0, 1, 2, 3, 4] ?_
   refine V 19 0 (B0 (s := 113) (x := .tmp 5) (i := 0) (o := 0) (k := 3) (b := b5) (o0 := 0) rfl (by kernel_rfl) rfl (o1 := 0) rfl) ?_
   refine V 20 33 (Cb (t := 33) (x := .tmp 19) (b := b5) (o := 0) (g := true) (s := 3) (C := #[.int .i64 e.Op, .int .i64 e.Value, .slice a e.Kids.length n, .int .i64 at_]) (v := .agg #[.int .i64 e.Op, .int .i64 e.Value, .slice a e.Kids.length n]) rfl (by kernel_rfl) (hs5.ownAt (k := 0) rfl) rfl rfl rfl) ?_
   subst hX
   refine Sg (ty := 0) (g := none) (by kernel_rfl) rfl (x := .tmp 2) (y := .tmp 20) (t := 33) (gg := true) (s := 3) (v := .agg #[.int .i64 e.Op, .int .i64 e.Value, .slice a e.Kids.length n]) (b := b2) (o := 0) (C := #[.int .i64 0, .int .i64 0, .slice none 0 0]) rfl rfl (by kernel_rfl) hs5 (k := 1) rfl rfl rfl rfl (C' := #[.int .i64 e.Op, .int .i64 e.Value, .slice a e.Kids.length n]) rfl (fun w6 hs6 => ?_)
   refine V 3 27 (AA (x := .const (.int .i64 0)) (v := .int .i64 0) rfl) ?_
   refine V 4 3 (AA (x := .const (.int .i64 0)) (v := .int .i64 0) rfl) ?_
   refine RY ?_
   refine Ac ?_
   refine CWP.ret (by kernel_rfl) ?_
   obtain rfl := Aa hr
   exact ⟨rfl, _, Av (l := [.cell 2 33, .tmp 3, .tmp 4]) (by kernel_rfl) (vs := [.agg #[.int .i64 e.Op, .int .i64 e.Value, .slice a e.Kids.length n], .int .i64 0, .int .i64 0]) ⟨b2, 0, rfl, Ai (t := 33) (g := true) (s := 3) (by kernel_rfl) (hs6.ownAt (k := 1) rfl) rfl (by decide), rfl, rfl, trivial⟩, _, F5, rfl, hs6.clear, a, n, rfl, hb, hsl⟩
  | some x =>
   obtain ⟨hr, hL⟩ := hK
   have hs6 : HS w0 F0 w5 F5 X := by
    rcases hL with rfl | ⟨o, rfl⟩
    ·exact hs5
    ·exact hs5.drop 0
   clear hs5 hL
   cases hne : x.e_ != 0 with
   | false => rw [hne] at hr; cases hr
   | true =>
    rw [hne] at hr
    obtain rfl := Aa hr
    simp only
    refine V 8 88 (AJ (x := .tmp 11) (v := .tuple #[.int .i64 x.e_, .int .i64 x.at_]) rfl) ?_
    refine V 12 27 (BD (x := .tmp 8) (vs := #[.int .i64 x.e_, .int .i64 x.at_]) (i := 0) (v := .int .i64 x.e_) rfl rfl) ?_
    refine V 13 3 (BD (x := .tmp 8) (vs := #[.int .i64 x.e_, .int .i64 x.at_]) (i := 1) (v := .int .i64 x.at_) rfl rfl) ?_
    refine V 6 27 (AA (x := .tmp 12) (v := .int .i64 x.e_) rfl) ?_
    refine V 7 3 (AA (x := .tmp 13) (v := .int .i64 x.at_) rfl) ?_
    refine RY ?_
    refine Ac ?_
    refine Sq ?_
    refine Sq ?_
    refine Rg [0, 1] ?_
    refine V 14 27 (AJ (x := .tmp 6) (v := .int .i64 x.e_) rfl) ?_
    refine V 15 4 (GX (t := 27) (t' := 27) (x := .tmp 14) (y := .const (.int .i64 0)) (k := .i64) (a := x.e_) (b := 0) rfl rfl) ?_
    refine RY ?_
    refine Ac ?_
    refine CWP.cond1 (t := x.e_ != 0) (by kernel_rfl) rfl hne ?_
    refine Sq ?_
    refine Rg [0, 1, 2, 3, 4, 5] ?_
    refine V 16 33 (FG (t := 33) (parts := #[]) (vs := []) rfl (cs := [.int .i64 0, .int .i64 0, .slice none 0 0]) (by kernel_rfl)) ?_
    refine V 17 27 (AJ (x := .tmp 6) (v := .int .i64 x.e_) rfl) ?_
    refine V 18 3 (AJ (x := .tmp 7) (v := .int .i64 x.at_) rfl) ?_
    subst hX
    refine Sg (ty := 0) (g := none) (by kernel_rfl) rfl (x := .tmp 2) (y := .tmp 16) (t := 33) (gg := true) (s := 3) (v := .agg #[.int .i64 0, .int .i64 0, .slice none 0 0]) (b := b2) (o := 0) (C := #[.int .i64 0, .int .i64 0, .slice none 0 0]) rfl rfl (by kernel_rfl) hs6 (k := 0) rfl rfl rfl rfl (C' := #[.int .i64 0, .int .i64 0, .slice none 0 0]) rfl (fun w7 hs7 => ?_)
    refine V 3 27 (AA (x := .tmp 17) (v := .int .i64 x.e_) rfl) ?_
    refine V 4 3 (AA (x := .tmp 18) (v := .int .i64 x.at_) rfl) ?_
    refine RY ?_
    refine Ac ?_
    refine CWP.ret (by kernel_rfl) ?_
    refine Af ?_
    exact ⟨rfl, _, Av (l := [.cell 2 33, .tmp 3, .tmp 4]) (by kernel_rfl) (vs := [.agg #[.int .i64 0, .int .i64 0, .slice none 0 0], .int .i64 x.e_, .int .i64 x.at_]) ⟨b2, 0, rfl, Ai (t := 33) (g := true) (s := 3) (by kernel_rfl) (hs7.ownAt (k := 0) rfl) rfl (by decide), rfl, rfl, trivial⟩, _, F5, rfl, hs7.clear, none, 0, rfl, R9, .inl rfl⟩
theorem GJ : An Tryz.prog 22 := fun _ _ => by kernel_rfl
set_option maxRecDepth 100000 in
theorem Hx (N : Nat) (w0 : World) (F0 : Mem) (hF : Sz w0 F0) (hG : CI F0) (x0 : Sx) (r : Du × Int × Int) (h : D4 N x0 = some r) :
  Calls Tryz.prog 22 ([.string ⟨x0.toArray⟩] : List Value).toArray w0 (AU w0 F0 fun F' v => ∃ (aq0_0 : Sy) (nq0_0 : Nat) (aq0_1 : Sy) (nq0_1 : Nat) (aq0_2 : Sy) (nq0_2 : Nat) (aq0_3 : Sy) (nq0_3 : Nat), v = (.tuple #[(.agg #[(.slice aq0_0 r.1.Points.length nq0_0), (.slice aq0_1 r.1.Multipliers.length nq0_1), (.slice aq0_2 r.1.Penalties.length nq0_2), (.slice aq0_3 r.1.Repeats.length nq0_3)]), (.int .i64 r.2.1), (.int .i64 r.2.2)]) /\ LC r.1.Points.length nq0_0 /\ SlA AB F' aq0_0 r.1.Points /\ LC r.1.Multipliers.length nq0_1 /\ SlA AB F' aq0_1 r.1.Multipliers /\ LC r.1.Penalties.length nq0_2 /\ SlA AB F' aq0_2 r.1.Penalties /\ LC r.1.Repeats.length nq0_3 /\ SlA Ao F' aq0_3 r.1.Repeats) := by
 have hs0 := R7 hF
 refine Ea (n := 20) (c := B7 Tryz.f22) Tryz.func22 (by kernel_rfl) (by kernel_rfl) (by kernel_rfl) ?_
 refine Sq ?_
 refine Rg [0, 1, 2] ?_
 refine Sf (dst := some 2) (ty := 0) (g := none) (by kernel_rfl) rfl (t := 26) (z := .agg #[.slice none 0 0, .slice none 0 0, .slice none 0 0, .slice none 0 0]) (by kernel_rfl) (C := #[.slice none 0 0, .slice none 0 0, .slice none 0 0, .slice none 0 0]) rfl hs0 (fun b2 w1 hs1 => ?_)
 refine V 3 27 (AA (x := .const (.int .i64 0)) (v := .int .i64 0) rfl) ?_
 refine V 4 3 (AA (x := .const (.int .i64 0)) (v := .int .i64 0) rfl) ?_
 refine RY ?_
 refine Ac ?_
 refine Sq ?_
 refine Rg [0] ?_
 refine Sf (dst := some 5) (ty := 0) (g := none) (by kernel_rfl) rfl (t := 26) (z := .agg #[.slice none 0 0, .slice none 0 0, .slice none 0 0, .slice none 0 0]) (by kernel_rfl) (C := #[.slice none 0 0, .slice none 0 0, .slice none 0 0, .slice none 0 0]) rfl hs1 (fun b5 w2 hs2 => ?_)
 refine RY ?_
 refine Ac ?_
 refine Sq ?_
 refine Rg [0, 1, 2, 3, 4, 5, 6, 7] ?_
 refine V 9 9 (AJ (x := .tmp 0) (v := .string ⟨x0.toArray⟩) rfl) ?_
 refine V 10 103 (CX (fn := .func 79) (first := #[]) (cap := #[.tmp 5]) (fl := []) (cl := [.pointer (some ⟨b5, 0, none⟩)]) rfl rfl) ?_
 obtain ⟨X, hX⟩ : ∃ X : Own, X = [(some b2, .cells #[.slice none 0 0, .slice none 0 0, .slice none 0 0, .slice none 0 0] 26 (0, 0))] := ⟨_, rfl⟩
 refine R2 (dst := some 11) (ty := 88) (g := none) (by kernel_rfl) rfl (C8 (f := .func 78) (aos := #[.tmp 9, .tmp 10]) (ats := #[9, 103]) (g := 78) (first := #[]) (cap := #[]) (args := [.string ⟨x0.toArray⟩, .func (.func 79) #[] #[.pointer (some ⟨b5, 0, none⟩)]]) rfl Hs rfl)
  (Im N hs2 x0 (g := 79) (cap := [.pointer (some ⟨b5, 0, none⟩)]) Jc (fun o F' L' => match o with
   | none => ∃ (e : Du) (a0 : Sy) (n0 : Nat) (a1 : Sy) (n1 : Nat) (a2 : Sy) (n2 : Nat) (a3 : Sy) (n3 : Nat), L' = (some b5, .cells #[.slice a0 e.Points.length n0, .slice a1 e.Multipliers.length n1, .slice a2 e.Penalties.length n2, .slice a3 e.Repeats.length n3] 26 (0, 0)) :: X /\ LC e.Points.length n0 /\ SlA AB F' a0 e.Points /\ LC e.Multipliers.length n1 /\ SlA AB F' a1 e.Multipliers /\ LC e.Penalties.length n2 /\ SlA AB F' a2 e.Penalties /\ LC e.Repeats.length n3 /\ SlA Ao F' a3 e.Repeats /\ some (e, (0 : Int), (0 : Int)) = some r
   | some x => (bif x.e_ != 0 then some (NX, x.e_, x.at_) else none) = some r /\ (L' = X \/ ∃ o, L' = (some b5, o) :: X)) ?_ ?_) ?_
 ·intro hc F'
  unfold D4 IF at h
  rw [M5 hc] at h
  exact ⟨h, .inr ⟨_, by rw [hX]⟩⟩
 ·intro hc
  unfold D4 IF at h
  rw [LF hc] at h
  obtain ⟨l, hl, h⟩ := bind_some h
  obtain ⟨q, hq, h⟩ := bind_some h
  refine ⟨l, hl, fun w3 F3 be_ ba_ bp a n le3 hb hsl hs3 => ?_⟩
  have hs4 : HS w0 F0 w3 F3 ((some bp, .cells #[.slice a l.length n, .int .i64 0] 100 (0, 0)) :: (some b5, .cells #[.slice none 0 0, .slice none 0 0, .slice none 0 0, .slice none 0 0] 26 (0, 0)) :: (none, .cells #[] 0 (0, 0)) :: (none, .cells #[] 0 (0, 0)) :: (none, .cells #[] 0 (0, 0)) :: (none, .cells #[] 0 (0, 0)) :: (some ba_, ba 0) :: (some be_, be 0) :: X) := by
   have h0 : HS w0 F0 w3 F3 ((some bp, .cells #[.slice a l.length n, .int .i64 0] 100 (0, 0)) :: (some b5, .cells #[.slice none 0 0, .slice none 0 0, .slice none 0 0, .slice none 0 0] 26 (0, 0)) :: (some ba_, ba 0) :: (some be_, be 0) :: X) := by
    rw [hX]; exact (hs3.pick (k := 3) rfl).pick (k := 1) rfl
   exact (((((h0.dummy (.cells #[] 0 (0, 0))).dummy (.cells #[] 0 (0, 0))).dummy (.cells #[] 0 (0, 0))).dummy (.cells #[] 0 (0, 0))).pick (k := 5) rfl).pick (k := 5) rfl
  refine (JY N (hG.mono (hs3.le)) bp { l_ := l, open_ := 0 } a n hb hsl b5 NX none 0 (none, .cells #[] 0 (0, 0)) none 0 (none, .cells #[] 0 (0, 0)) none 0 (none, .cells #[] 0 (0, 0)) none 0 (none, .cells #[] 0 (0, 0)) (So _ _ _ _) (So _ _ _ _) (So _ _ _ _) (So _ _ _ _) hs4 q hq).mono ?_
  rintro e w4 (⟨q1, F4, v, L', rfl, rfl, hs5, le5, aq, nq, a0, n0, e0, a1, n1, e1, a2, n2, e2, a3, n3, e3, rfl, rfl, h1, h2, r0, r1, r2, r3⟩ | ⟨x, F4, rfl, rfl, hs5, le5⟩)
  ·have hs6 := hs5.drop 0
   obtain ⟨G0, hg0, lg0, s0⟩ : ∃ Fq, HS w0 F0 w4 Fq ((some b5, .cells #[.slice a0 q1.2.Points.length n0, .slice a1 q1.2.Multipliers.length n1, .slice a2 q1.2.Penalties.length n2, .slice a3 q1.2.Repeats.length n3] 26 (0, 0)) :: e1 :: e2 :: e3 :: (some ba_, ba 0) :: (some be_, be 0) :: X) /\ R5 F4 Fq /\ SlA AB Fq a0 q1.2.Points := HS.freezeRow hs6 (k := 1) rfl r0
   obtain ⟨G1, hg1, lg1, s1⟩ : ∃ Fq, HS w0 F0 w4 Fq ((some b5, .cells #[.slice a0 q1.2.Points.length n0, .slice a1 q1.2.Multipliers.length n1, .slice a2 q1.2.Penalties.length n2, .slice a3 q1.2.Repeats.length n3] 26 (0, 0)) :: e2 :: e3 :: (some ba_, ba 0) :: (some be_, be 0) :: X) /\ R5 G0 Fq /\ SlA AB Fq a1 q1.2.Multipliers := HS.freezeRow hg0 (k := 1) rfl (r1.mono lg0)
   obtain ⟨G2, hg2, lg2, s2⟩ : ∃ Fq, HS w0 F0 w4 Fq ((some b5, .cells #[.slice a0 q1.2.Points.length n0, .slice a1 q1.2.Multipliers.length n1, .slice a2 q1.2.Penalties.length n2, .slice a3 q1.2.Repeats.length n3] 26 (0, 0)) :: e3 :: (some ba_, ba 0) :: (some be_, be 0) :: X) /\ R5 G1 Fq /\ SlA AB Fq a2 q1.2.Penalties := HS.freezeRow hg1 (k := 1) rfl (r2.mono (lg0.trans lg1))
   obtain ⟨G3, hg3, lg3, s3⟩ : ∃ Fq, HS w0 F0 w4 Fq ((some b5, .cells #[.slice a0 q1.2.Points.length n0, .slice a1 q1.2.Multipliers.length n1, .slice a2 q1.2.Penalties.length n2, .slice a3 q1.2.Repeats.length n3] 26 (0, 0)) :: (some ba_, ba 0) :: (some be_, be 0) :: X) /\ R5 G2 Fq /\ SlA Ao Fq a3 q1.2.Repeats := HS.freezeRow hg2 (k := 1) rfl (r3.mono ((lg0.trans lg1).trans lg2))
   exact .inl ⟨_, G3, _, rfl, (hg3.pick (k := 2) rfl).pick (k := 2) rfl, (((le5.trans lg0).trans lg1).trans lg2).trans lg3, q1.2, a0, n0, a1, n1, a2, n2, a3, n3, rfl, r0.bound, s0.mono ((lg1.trans lg2).trans lg3), r1.bound, s1.mono (lg2.trans lg3), r2.bound, s2.mono lg3, r3.bound, s3, h⟩
  ·exact .inr ⟨x, F4, _, rfl, hs5, le5, h, .inl rfl⟩
 ·rintro e w5 ⟨o, F5, L5, rfl, hs5, le5, hK⟩
  cases o with
  | none =>
   obtain ⟨e, a0, n0, a1, n1, a2, n2, a3, n3, rfl, hb0, hl0, hb1, hl1, hb2, hl2, hb3, hl3, hr⟩ := hK
   simp only
   refine V 8 88 (AJ (x := .tmp 11) (v := .tuple #[.int .i64 0, .int .i64 0]) rfl) ?_
   refine V 12 27 (BD (x := .tmp 8) (vs := #[.int .i64 0, .int .i64 0]) (i := 0) (v := .int .i64 0) rfl rfl) ?_
   refine V 13 3 (BD (x := .tmp 8) (vs := #[.int .i64 0, .int .i64 0]) (i := 1) (v := .int .i64 0) rfl rfl) ?_
   refine V 6 27 (AA (x := .tmp 12) (v := .int .i64 0) rfl) ?_
   refine V 7 3 (AA (x := .tmp 13) (v := .int .i64 0) rfl) ?_
   refine RY ?_
   refine Ac ?_
   refine Sq ?_
   refine Sq ?_
   refine Rg [0, 1] ?_
   refine V 14 27 (AJ (x := .tmp 6) (v := .int .i64 0) rfl) ?_
   refine V 15 4 (GX (t := 27) (t' := 27) (x := .tmp 14) (y := .const (.int .i64 0)) (k := .i64) (a := 0) (b := 0) rfl rfl) ?_
   refine RY ?_
   refine Ac ?_
   refine CWP.cond0 (t := false) (by kernel_rfl) rfl rfl ?_
   refine R3 (by kernel_rfl) ?_
   refine Ac ?_
   refine Sq ?_
   refine Rg [0, 1, 2, 3] ?_
   refine V 19 26 (Cb (t := 26) (x := .tmp 5) (b := b5) (o := 0) (g := true) (s := 4) (C := #[.slice a0 e.Points.length n0, .slice a1 e.Multipliers.length n1, .slice a2 e.Penalties.length n2, .slice a3 e.Repeats.length n3]) (v := .agg #[.slice a0 e.Points.length n0, .slice a1 e.Multipliers.length n1, .slice a2 e.Penalties.length n2, .slice a3 e.Repeats.length n3]) rfl (by kernel_rfl) (hs5.ownAt (k := 0) rfl) rfl rfl rfl) ?_
   subst hX
   refine Sg (ty := 0) (g := none) (by kernel_rfl) rfl (x := .tmp 2) (y := .tmp 19) (t := 26) (gg := true) (s := 4) (v := .agg #[.slice a0 e.Points.length n0, .slice a1 e.Multipliers.length n1, .slice a2 e.Penalties.length n2, .slice a3 e.Repeats.length n3]) (b := b2) (o := 0) (C := #[.slice none 0 0, .slice none 0 0, .slice none 0 0, .slice none 0 0]) rfl rfl (by kernel_rfl) hs5 (k := 1) rfl rfl rfl rfl (C' := #[.slice a0 e.Points.length n0, .slice a1 e.Multipliers.length n1, .slice a2 e.Penalties.length n2, .slice a3 e.Repeats.length n3]) rfl (fun w6 hs6 => ?_)
   refine V 3 27 (AA (x := .const (.int .i64 0)) (v := .int .i64 0) rfl) ?_
   refine V 4 3 (AA (x := .const (.int .i64 0)) (v := .int .i64 0) rfl) ?_
   refine RY ?_
   refine Ac ?_
   refine CWP.ret (by kernel_rfl) ?_
   obtain rfl := Aa hr
   exact ⟨rfl, _, Av (l := [.cell 2 26, .tmp 3, .tmp 4]) (by kernel_rfl) (vs := [.agg #[.slice a0 e.Points.length n0, .slice a1 e.Multipliers.length n1, .slice a2 e.Penalties.length n2, .slice a3 e.Repeats.length n3], .int .i64 0, .int .i64 0]) ⟨b2, 0, rfl, Ai (t := 26) (g := true) (s := 4) (by kernel_rfl) (hs6.ownAt (k := 1) rfl) rfl (by decide), rfl, rfl, trivial⟩, _, F5, rfl, hs6.clear, a0, n0, a1, n1, a2, n2, a3, n3, rfl, hb0, hl0, hb1, hl1, hb2, hl2, hb3, hl3⟩
  | some x =>
   obtain ⟨hr, hL⟩ := hK
   have hs6 : HS w0 F0 w5 F5 X := by
    rcases hL with rfl | ⟨o, rfl⟩
    ·exact hs5
    ·exact hs5.drop 0
   clear hs5 hL
   cases hne : x.e_ != 0 with
   | false => rw [hne] at hr; cases hr
   | true =>
    rw [hne] at hr
    obtain rfl := Aa hr
    simp only
    refine V 8 88 (AJ (x := .tmp 11) (v := .tuple #[.int .i64 x.e_, .int .i64 x.at_]) rfl) ?_
    refine V 12 27 (BD (x := .tmp 8) (vs := #[.int .i64 x.e_, .int .i64 x.at_]) (i := 0) (v := .int .i64 x.e_) rfl rfl) ?_
    refine V 13 3 (BD (x := .tmp 8) (vs := #[.int .i64 x.e_, .int .i64 x.at_]) (i := 1) (v := .int .i64 x.at_) rfl rfl) ?_
    refine V 6 27 (AA (x := .tmp 12) (v := .int .i64 x.e_) rfl) ?_
    refine V 7 3 (AA (x := .tmp 13) (v := .int .i64 x.at_) rfl) ?_
    refine RY ?_
    refine Ac ?_
    refine Sq ?_
    refine Sq ?_
    refine Rg [0, 1] ?_
    refine V 14 27 (AJ (x := .tmp 6) (v := .int .i64 x.e_) rfl) ?_
    refine V 15 4 (GX (t := 27) (t' := 27) (x := .tmp 14) (y := .const (.int .i64 0)) (k := .i64) (a := x.e_) (b := 0) rfl rfl) ?_
    refine RY ?_
    refine Ac ?_
    refine CWP.cond1 (t := x.e_ != 0) (by kernel_rfl) rfl hne ?_
    refine Sq ?_
    refine Rg [0, 1, 2, 3, 4, 5] ?_
    refine V 16 26 (FG (t := 26) (parts := #[]) (vs := []) rfl (cs := [.slice none 0 0, .slice none 0 0, .slice none 0 0, .slice none 0 0]) (by kernel_rfl)) ?_
    refine V 17 27 (AJ (x := .tmp 6) (v := .int .i64 x.e_) rfl) ?_
    refine V 18 3 (AJ (x := .tmp 7) (v := .int .i64 x.at_) rfl) ?_
    subst hX
    refine Sg (ty := 0) (g := none) (by kernel_rfl) rfl (x := .tmp 2) (y := .tmp 16) (t := 26) (gg := true) (s := 4) (v := .agg #[.slice none 0 0, .slice none 0 0, .slice none 0 0, .slice none 0 0]) (b := b2) (o := 0) (C := #[.slice none 0 0, .slice none 0 0, .slice none 0 0, .slice none 0 0]) rfl rfl (by kernel_rfl) hs6 (k := 0) rfl rfl rfl rfl (C' := #[.slice none 0 0, .slice none 0 0, .slice none 0 0, .slice none 0 0]) rfl (fun w7 hs7 => ?_)
    refine V 3 27 (AA (x := .tmp 17) (v := .int .i64 x.e_) rfl) ?_
    refine V 4 3 (AA (x := .tmp 18) (v := .int .i64 x.at_) rfl) ?_
    refine RY ?_
    refine Ac ?_
    refine CWP.ret (by kernel_rfl) ?_
    refine Af ?_
    exact ⟨rfl, _, Av (l := [.cell 2 26, .tmp 3, .tmp 4]) (by kernel_rfl) (vs := [.agg #[.slice none 0 0, .slice none 0 0, .slice none 0 0, .slice none 0 0], .int .i64 x.e_, .int .i64 x.at_]) ⟨b2, 0, rfl, Ai (t := 26) (g := true) (s := 4) (by kernel_rfl) (hs7.ownAt (k := 0) rfl) rfl (by decide), rfl, rfl, trivial⟩, _, F5, rfl, hs7.clear, none, 0, none, 0, none, 0, none, 0, rfl, R9, .inl rfl, R9, .inl rfl, R9, .inl rfl, R9, .inl rfl⟩
def H2 (N : Nat)  : Option Bool :=
 ((CD N ([49, 32, 43, 32, 50, 32, 42, 32, 51, 32, 61, 32, 55, 32, 97, 110, 100, 32, 110, 111, 116, 32, 98, 97, 110, 100, 32, 60, 32, 50] : Sx)).bind fun r21 => ((FT N r21.1).bind fun r34 => ((D4 N ([112, 111, 105, 110, 116, 115, 58, 32, 98, 97, 110, 100, 32, 61, 32, 49, 32, 61, 62, 32, 50] : Sx)).bind fun r42 => ((D4 N ([112, 111, 105, 110, 116, 115, 58, 32, 98, 97, 110, 100, 32, 61, 62, 32, 50] : Sx)).bind fun r55 => ((mk0 0 14).bind fun r68 => ((idx r68 0).bind fun x78 => ((HT N r42.1 (r68.set (0 : Int).toNat 1)).bind fun r97 => ((CD N ([105, 102, 40, 98, 97, 110, 100, 32, 61, 32, 98, 97, 110, 100, 44, 32, 48, 32, 43, 32, 122, 111, 110, 101, 44, 32, 55, 41] : Sx)).bind fun r105 => ((BE N r105.1).bind fun r118 => (bif ((r21.2.1 != 0) || ((r34.2 != 0) || ((r42.2.1 != 0) || ((r55.2.1 != 61) || ((r97.2 != 0) || ((r105.2.1 != 0) || ((r118.2 != 0) || (r55.2.2 != 8)))))))) then some false else some ((r21.1.Op == 4) && ((r34.1 == ([49, 32, 43, 32, 50, 32, 42, 32, 51, 32, 61, 32, 55, 32, 97, 110, 100, 32, 110, 111, 116, 32, 98, 97, 110, 100, 32, 60, 32, 50] : Sx)) && ((r97.1 == 2) && ((r118.1.Op == 2) && (r118.1.Value == 7)))))))))))))))
theorem JS : An Tryz.prog 21 := fun _ _ => by kernel_rfl
theorem KJ (N : Nat) (w0 : World) (F0 : Mem) (hF : Sz w0 F0) (hG : CI F0)  (r : Bool) (h : H2 N  = some r) :
  Calls Tryz.prog 21 ([] : List Value).toArray w0 (AU w0 F0 fun F' v => v = (.bool r)) := by
 have hs0 := R7 hF
 refine Go 110 Tryz.func21 ?_
 refine Sq (Rg [0] ?_)
 refine Vs 1 ?_
 refine Nss (Rg [0, 1, 2, 3, 4, 5, 6, 7, 8] ?_)
 obtain ⟨r21, hr22, h23⟩ := bind_some h
 refine Cl' EL hs0 (E7 N w0 F0 hs0.pers hG (([49, 32, 43, 32, 50, 32, 42, 32, 51, 32, 61, 32, 55, 32, 97, 110, 100, 32, 110, 111, 116, 32, 98, 97, 110, 100, 32, 60, 32, 50] : Sx)) _ hr22) ?_
 rintro _ F1 w25 hs26 le27 ⟨ar21_0_2, nr21_0_2, rfl, hbr21_0_2, hsr21_0_2⟩
 refine Vs 4 ?_
 refine Al' 33 #[(vi 0), (vi 0), (.slice none ([] : List Expr).length 0)] hs26 (fun b29 w30 hs31 => ?_)
 refine St0 (Ae r21.1 ar21_0_2 nr21_0_2) hs31 (fun w32 hs33 => ?_)
 refine Vs 2 ?_
 refine Nss (Rg [0, 1, 2, 3, 4, 5, 6] ?_)
 refine Ld hs33.at0 ?_
 obtain ⟨r34, hr35, h36⟩ := bind_some h23
 refine Cl' HE hs33 (Ip N w32 F1 hs33.pers (hG.mono le27) r21.1 ar21_0_2 nr21_0_2 hbr21_0_2 hsr21_0_2 _ hr35) ?_
 rintro _ F2 w38 hs39 le40 rfl
 refine Vs 5 ?_
 refine Nss (Rg [0, 1, 2, 3, 4, 5, 6, 7, 8] ?_)
 obtain ⟨r42, hr43, h44⟩ := bind_some h36
 refine Cl' GJ hs39 (Hx N w38 F2 hs39.pers (hG.mono (le27.trans le40)) (([112, 111, 105, 110, 116, 115, 58, 32, 98, 97, 110, 100, 32, 61, 32, 49, 32, 61, 62, 32, 50] : Sx)) _ hr43) ?_
 rintro _ F3 w46 hs47 le48 ⟨ar42_0_0, nr42_0_0, ar42_0_1, nr42_0_1, ar42_0_2, nr42_0_2, ar42_0_3, nr42_0_3, rfl, hbr42_0_0, hsr42_0_0, hbr42_0_1, hsr42_0_1, hbr42_0_2, hsr42_0_2, hbr42_0_3, hsr42_0_3⟩
 refine Vs 4 ?_
 refine Al' 26 #[(.slice none ([] : List Clause).length 0), (.slice none ([] : List Clause).length 0), (.slice none ([] : List Clause).length 0), (.slice none ([] : List Expr).length 0)] hs47 (fun b50 w51 hs52 => ?_)
 refine St0 (Bx r42.1 ar42_0_0 nr42_0_0 ar42_0_1 nr42_0_1 ar42_0_2 nr42_0_2 ar42_0_3 nr42_0_3) hs52 (fun w53 hs54 => ?_)
 refine Vs 2 ?_
 refine Nss (Rg [0, 1, 2, 3, 4, 5, 6, 7, 8] ?_)
 obtain ⟨r55, hr56, h57⟩ := bind_some h44
 refine Cl' GJ hs54 (Hx N w53 F3 hs54.pers (hG.mono ((le27.trans le40).trans le48)) (([112, 111, 105, 110, 116, 115, 58, 32, 98, 97, 110, 100, 32, 61, 62, 32, 50] : Sx)) _ hr56) ?_
 rintro _ F4 w59 hs60 le61 ⟨ar55_0_0, nr55_0_0, ar55_0_1, nr55_0_1, ar55_0_2, nr55_0_2, ar55_0_3, nr55_0_3, rfl, hbr55_0_0, hsr55_0_0, hbr55_0_1, hsr55_0_1, hbr55_0_2, hsr55_0_2, hbr55_0_3, hsr55_0_3⟩
 refine Vs 4 ?_
 refine Al' 26 #[(.slice none ([] : List Clause).length 0), (.slice none ([] : List Clause).length 0), (.slice none ([] : List Clause).length 0), (.slice none ([] : List Expr).length 0)] hs60 (fun b63 w64 hs65 => ?_)
 refine St0 (Bx r55.1 ar55_0_0 nr55_0_0 ar55_0_1 nr55_0_1 ar55_0_2 nr55_0_2 ar55_0_3 nr55_0_3) hs65 (fun w66 hs67 => ?_)
 refine Vs 2 ?_
 refine Nss (Rg [0, 1] ?_)
 obtain ⟨r68, hm69, h70⟩ := bind_some h57
 refine RWP.makeSlice (dst := (some 40)) (ty := 47) (g := none) (by kernel_rfl) rfl (x := (.const (vi 14))) (y := (.const (vi 14))) (t := 47) (by_ := 8) (z := (vi 0)) (T := Bu) (E := 3) rfl rfl (by kernel_rfl) (by decide) (by kernel_rfl) (z0 := 0) (fun _ => rfl) (by decide) hs67 hm69 (fun b71 n72 C73 w74 (hs75 : HS w0 F0 w74 F4 [(some b71, .cells C73 3 (0, 0)), (sb b63 (Bx r55.1 ar55_0_0 nr55_0_0 ar55_0_1 nr55_0_1 ar55_0_2 nr55_0_2 ar55_0_3 nr55_0_3) 26), (sb b50 (Bx r42.1 ar42_0_0 nr42_0_0 ar42_0_1 nr42_0_1 ar42_0_2 nr42_0_2 ar42_0_3 nr42_0_3) 26), (sb b29 (Ae r21.1 ar21_0_2 nr21_0_2) 33)]) hr76 => ?_)
 refine Vs 1 ?_
 refine Nss (Rg [0, 1, 2] ?_)
 refine Vs 1 ?_
 obtain ⟨x78, hx79, h81⟩ := bind_some h70
 obtain ⟨hi80, hx79'⟩ := Ay hx79
 obtain ⟨b82, C83, ha84, he85, hE86⟩ := Au.open hr76 hx79'
 cases ha84
 cases he85
 have hc88 := hE86 _ _ hx79'
 refine Ix0 hi80 ?_
 refine RWP.storeRow (ty := 0) (g := none) (by kernel_rfl) rfl (x := (.tmp 42)) (y := (.const (vi 1))) (t := 3) (v := (vi 1)) (gg := false) (b := b71) (j := (0 : Int).toNat) (C := C73) (T := Bu) (E := 3) (u := 1) rfl rfl (by kernel_rfl) hs75 (k := 0) rfl hr76 hx79' rfl rfl (fun C89 w90 (hs91 : HS w0 F0 w90 F4 [(some b71, .cells C89 3 (0, 0)), (sb b63 (Bx r55.1 ar55_0_0 nr55_0_0 ar55_0_1 nr55_0_1 ar55_0_2 nr55_0_2 ar55_0_3 nr55_0_3) 26), (sb b50 (Bx r42.1 ar42_0_0 nr42_0_0 ar42_0_1 nr42_0_1 ar42_0_2 nr42_0_2 ar42_0_3 nr42_0_3) 26), (sb b29 (Ae r21.1 ar21_0_2 nr21_0_2) 33)]) hr92 => ?_)
 refine Nss (Rg [0, 1, 2, 3, 4, 5, 6, 7] ?_)
 refine Ld hs91.at2 ?_
 refine V 45 47 (mv 12 (.slice (some ⟨b71, 0, none⟩) (r68.set (0 : Int).toNat 1).length n72) (L3 rfl)) ?_
 have hb96 := Sn hr92
 obtain ⟨F5, hs93, le94, hs95⟩ := hs91.fr0 hr92
 obtain ⟨r97, hr98, h99⟩ := bind_some h81
 refine Cl' JR hs93 (KI N w90 F5 hs93.pers r42.1 ar42_0_0 nr42_0_0 hbr42_0_0 (R8 hsr42_0_0 (le61.trans le94)) ar42_0_1 nr42_0_1 hbr42_0_1 (R8 hsr42_0_1 (le61.trans le94)) ar42_0_2 nr42_0_2 hbr42_0_2 (R8 hsr42_0_2 (le61.trans le94)) ar42_0_3 nr42_0_3 hbr42_0_3 (R8 hsr42_0_3 (le61.trans le94)) ((r68.set (0 : Int).toNat 1)) (some ⟨b71, 0, none⟩) n72 hb96 hs95 _ hr98) ?_
 rintro _ F6 w101 hs102 le103 rfl
 refine Vs 5 ?_
 refine Nss (Rg [0, 1, 2, 3, 4, 5, 6, 7, 8] ?_)
 obtain ⟨r105, hr106, h107⟩ := bind_some h99
 refine Cl' EL hs102 (E7 N w101 F6 hs102.pers (hG.mono (((((le27.trans le40).trans le48).trans le61).trans le94).trans le103)) (([105, 102, 40, 98, 97, 110, 100, 32, 61, 32, 98, 97, 110, 100, 44, 32, 48, 32, 43, 32, 122, 111, 110, 101, 44, 32, 55, 41] : Sx)) _ hr106) ?_
 rintro _ F7 w109 hs110 le111 ⟨ar105_0_2, nr105_0_2, rfl, hbr105_0_2, hsr105_0_2⟩
 refine Vs 4 ?_
 refine Al' 33 #[(vi 0), (vi 0), (.slice none ([] : List Expr).length 0)] hs110 (fun b113 w114 hs115 => ?_)
 refine St0 (Ae r105.1 ar105_0_2 nr105_0_2) hs115 (fun w116 hs117 => ?_)
 refine Vs 2 ?_
 refine Nss (Rg [0, 1, 2, 3, 4, 5, 6, 7] ?_)
 refine Ld hs117.at0 ?_
 obtain ⟨r118, hr119, h120⟩ := bind_some h107
 refine Cl' DC hs117 (DQ N w116 F7 hs117.pers r105.1 ar105_0_2 nr105_0_2 hbr105_0_2 hsr105_0_2 _ hr119) ?_
 rintro _ F8 w122 hs123 le124 ⟨ar118_0_2, nr118_0_2, rfl, hbr118_0_2, hsr118_0_2⟩
 refine Vs 3 ?_
 refine Al' 33 #[(vi 0), (vi 0), (.slice none ([] : List Expr).length 0)] hs123 (fun b126 w127 hs128 => ?_)
 refine St0 (Ae r118.1 ar118_0_2 nr118_0_2) hs128 (fun w129 hs130 => ?_)
 refine Vs 1 ?_
 refine Nss ?_
 refine Sq (Rg [0, 1, 2, 3, 4, 5, 6, 7, 8, 9, 10, 11, 12, 13, 14, 15, 16, 17, 18, 19, 20, 21, 22, 23, 24, 25, 26, 27, 28, 29] ?_)
 refine Sb (fun f w => ∃ (F9 : Mem), HS w0 F0 w F9 [(sb b126 (Ae r118.1 ar118_0_2 nr118_0_2) 33), (sb b29 (Ae r21.1 ar21_0_2 nr21_0_2) 33)] /\ R5 F8 F9 /\ FI f [] [(1, (pt b29 0)), (4, (.string ⟨(r34.1).toArray⟩)), (13, (vi r97.1)), (18, (pt b126 0)), (88, (.bool ((r21.2.1 != 0) || ((r34.2 != 0) || ((r42.2.1 != 0) || ((r55.2.1 != 61) || ((r97.2 != 0) || ((r105.2.1 != 0) || ((r118.2 != 0) || (r55.2.2 != 8))))))))))]) ?_ ?_
 ·refine Vs 3 ?_
  refine Sa (r21.2.1 != 0) (fun hb140 => ?_) (fun hb140 => ?_)
  ·refine Ss hb140 2 ?_
   refine Pk1 hb140 ?_
   refine Vs 1 ?_
   refine Ss (rfl : true = true) 2 ?_
   refine Pk1 (rfl : true = true) ?_
   refine Vs 1 ?_
   refine Ss (rfl : true = true) 2 ?_
   refine Pk1 (rfl : true = true) ?_
   refine Vs 1 ?_
   refine Ss (rfl : true = true) 2 ?_
   refine Pk1 (rfl : true = true) ?_
   refine Vs 1 ?_
   refine Ss (rfl : true = true) 2 ?_
   refine Pk1 (rfl : true = true) ?_
   refine Vs 1 ?_
   refine Ss (rfl : true = true) 2 ?_
   refine Pk1 (rfl : true = true) ?_
   refine Vs 1 ?_
   refine Ss (rfl : true = true) 2 ?_
   refine Pk1 (rfl : true = true) ?_
   exact RY ⟨rfl, F8, hs130.dr1.dr1.dr1, (R6 _), (fJ ⟨rfl, rfl, rfl, rfl, (congrArg Value.bool (Gs hb140 rfl)), trivial⟩)⟩
  ·refine Vgs hb140 2 ?_
   refine Pk0 hb140 ?_
   refine Vs 1 ?_
   refine Sa (r34.2 != 0) (fun hb141 => ?_) (fun hb141 => ?_)
   ·refine Ss hb141 2 ?_
    refine Pk1 hb141 ?_
    refine Vs 1 ?_
    refine Ss (rfl : true = true) 2 ?_
    refine Pk1 (rfl : true = true) ?_
    refine Vs 1 ?_
    refine Ss (rfl : true = true) 2 ?_
    refine Pk1 (rfl : true = true) ?_
    refine Vs 1 ?_
    refine Ss (rfl : true = true) 2 ?_
    refine Pk1 (rfl : true = true) ?_
    refine Vs 1 ?_
    refine Ss (rfl : true = true) 2 ?_
    refine Pk1 (rfl : true = true) ?_
    refine Vs 1 ?_
    refine Ss (rfl : true = true) 2 ?_
    refine Pk1 (rfl : true = true) ?_
    exact RY ⟨rfl, F8, hs130.dr1.dr1.dr1, (R6 _), (fJ ⟨rfl, rfl, rfl, rfl, (congrArg Value.bool (Cc hb140 (Gs hb141 rfl))), trivial⟩)⟩
   ·refine Vgs hb141 2 ?_
    refine Pk0 hb141 ?_
    refine Vs 1 ?_
    refine Sa (r42.2.1 != 0) (fun hb142 => ?_) (fun hb142 => ?_)
    ·refine Ss hb142 2 ?_
     refine Pk1 hb142 ?_
     refine Vs 1 ?_
     refine Ss (rfl : true = true) 2 ?_
     refine Pk1 (rfl : true = true) ?_
     refine Vs 1 ?_
     refine Ss (rfl : true = true) 2 ?_
     refine Pk1 (rfl : true = true) ?_
     refine Vs 1 ?_
     refine Ss (rfl : true = true) 2 ?_
     refine Pk1 (rfl : true = true) ?_
     refine Vs 1 ?_
     refine Ss (rfl : true = true) 2 ?_
     refine Pk1 (rfl : true = true) ?_
     exact RY ⟨rfl, F8, hs130.dr1.dr1.dr1, (R6 _), (fJ ⟨rfl, rfl, rfl, rfl, (congrArg Value.bool (Cc hb140 (Cc hb141 (Gs hb142 rfl)))), trivial⟩)⟩
    ·refine Vgs hb142 2 ?_
     refine Pk0 hb142 ?_
     refine Vs 1 ?_
     refine Sa (r55.2.1 != 61) (fun hb143 => ?_) (fun hb143 => ?_)
     ·refine Ss hb143 2 ?_
      refine Pk1 hb143 ?_
      refine Vs 1 ?_
      refine Ss (rfl : true = true) 2 ?_
      refine Pk1 (rfl : true = true) ?_
      refine Vs 1 ?_
      refine Ss (rfl : true = true) 2 ?_
      refine Pk1 (rfl : true = true) ?_
      refine Vs 1 ?_
      refine Ss (rfl : true = true) 2 ?_
      refine Pk1 (rfl : true = true) ?_
      exact RY ⟨rfl, F8, hs130.dr1.dr1.dr1, (R6 _), (fJ ⟨rfl, rfl, rfl, rfl, (congrArg Value.bool (Cc hb140 (Cc hb141 (Cc hb142 (Gs hb143 rfl))))), trivial⟩)⟩
     ·refine Vgs hb143 2 ?_
      refine Pk0 hb143 ?_
      refine Vs 1 ?_
      refine Sa (r97.2 != 0) (fun hb144 => ?_) (fun hb144 => ?_)
      ·refine Ss hb144 2 ?_
       refine Pk1 hb144 ?_
       refine Vs 1 ?_
       refine Ss (rfl : true = true) 2 ?_
       refine Pk1 (rfl : true = true) ?_
       refine Vs 1 ?_
       refine Ss (rfl : true = true) 2 ?_
       refine Pk1 (rfl : true = true) ?_
       exact RY ⟨rfl, F8, hs130.dr1.dr1.dr1, (R6 _), (fJ ⟨rfl, rfl, rfl, rfl, (congrArg Value.bool (Cc hb140 (Cc hb141 (Cc hb142 (Cc hb143 (Gs hb144 rfl)))))), trivial⟩)⟩
      ·refine Vgs hb144 2 ?_
       refine Pk0 hb144 ?_
       refine Vs 1 ?_
       refine Sa (r105.2.1 != 0) (fun hb145 => ?_) (fun hb145 => ?_)
       ·refine Ss hb145 2 ?_
        refine Pk1 hb145 ?_
        refine Vs 1 ?_
        refine Ss (rfl : true = true) 2 ?_
        refine Pk1 (rfl : true = true) ?_
        exact RY ⟨rfl, F8, hs130.dr1.dr1.dr1, (R6 _), (fJ ⟨rfl, rfl, rfl, rfl, (congrArg Value.bool (Cc hb140 (Cc hb141 (Cc hb142 (Cc hb143 (Cc hb144 (Gs hb145 rfl))))))), trivial⟩)⟩
       ·refine Vgs hb145 2 ?_
        refine Pk0 hb145 ?_
        refine Vs 1 ?_
        refine Sa (r118.2 != 0) (fun hb146 => ?_) (fun hb146 => ?_)
        ·refine Ss hb146 2 ?_
         refine Pk1 hb146 ?_
         exact RY ⟨rfl, F8, hs130.dr1.dr1.dr1, (R6 _), (fJ ⟨rfl, rfl, rfl, rfl, (congrArg Value.bool (Cc hb140 (Cc hb141 (Cc hb142 (Cc hb143 (Cc hb144 (Cc hb145 (Gs hb146 rfl)))))))), trivial⟩)⟩
        ·refine Vgs hb146 2 ?_
         refine Pk0 hb146 ?_
         exact RY ⟨rfl, F8, hs130.dr1.dr1.dr1, (R6 _), (fJ ⟨rfl, rfl, rfl, rfl, (congrArg Value.bool (Cc hb140 (Cc hb141 (Cc hb142 (Cc hb143 (Cc hb144 (Cc hb145 (Cc hb146 rfl)))))))), trivial⟩)⟩
 ·rintro f w131 ⟨F9, hs132, le133, ⟨_, rfl⟩⟩
  refine Ac ?_
  refine Cd h120 (fun hb147 h148 => ?_) (fun hb147 h149 => ?_)
  ·refine Sq (Rg [0] ?_)
   refine Vs 1 ?_
   refine Nt ?_
   refine Rt ?_
   refine Af ?_
   obtain rfl := Aa h148
   exact Re [(.bool false)] hs132 rfl
  ·refine Sc ?_
   refine Ac ?_
   refine Sq (Rg [0, 1, 2, 3, 4, 5, 6, 7, 8, 9, 10, 11, 12, 13, 14, 15, 16, 17, 18, 19, 20, 21] ?_)
   refine Sb (fun f w => ∃ (F10 : Mem), HS w0 F0 w F10 [] /\ R5 F9 F10 /\ FI f [] [(0, (.bool ((r21.1.Op == 4) && ((r34.1 == ([49, 32, 43, 32, 50, 32, 42, 32, 51, 32, 61, 32, 55, 32, 97, 110, 100, 32, 110, 111, 116, 32, 98, 97, 110, 100, 32, 60, 32, 50] : Sx)) && ((r97.1 == 2) && ((r118.1.Op == 2) && (r118.1.Value == 7)))))))]) ?_ ?_
   ·refine Vs 1 ?_
    refine Ld hs132.at1 ?_
    refine Vs 2 ?_
    refine Sa (r21.1.Op == 4) (fun hb155 => ?_) (fun hb155 => ?_)
    ·refine Vgs hb155 2 ?_
     refine Pk1 hb155 ?_
     refine Vs 1 ?_
     refine Sa (r34.1 == ([49, 32, 43, 32, 50, 32, 42, 32, 51, 32, 61, 32, 55, 32, 97, 110, 100, 32, 110, 111, 116, 32, 98, 97, 110, 100, 32, 60, 32, 50] : Sx)) (fun hb156 => ?_) (fun hb156 => ?_)
     ·refine Vgs hb156 2 ?_
      refine Pk1 hb156 ?_
      refine Vs 1 ?_
      refine Sa (r97.1 == 2) (fun hb157 => ?_) (fun hb157 => ?_)
      ·refine Vgs hb157 1 ?_
       refine Lg hb157 hs132.at0 ?_
       refine Vgs hb157 1 ?_
       refine Pk1 hb157 ?_
       refine Vs 1 ?_
       refine Sa (r118.1.Op == 2) (fun hb158 => ?_) (fun hb158 => ?_)
       ·refine Vgs hb158 1 ?_
        refine Lg hb158 hs132.at0 ?_
        refine Vgs hb158 1 ?_
        refine Pk1 hb158 ?_
        refine Vs 1 ?_
        exact RY ⟨rfl, F9, hs132.dr0.dr0, (R6 _), (fJ ⟨(congrArg Value.bool (Dc hb155 (Dc hb156 (Dc hb157 (Dc hb158 rfl))))), trivial⟩)⟩
       ·refine Ss hb158 3 ?_
        refine Pk0 hb158 ?_
        refine Vs 1 ?_
        exact RY ⟨rfl, F9, hs132.dr0.dr0, (R6 _), (fJ ⟨(congrArg Value.bool (Dc hb155 (Dc hb156 (Dc hb157 (E8 hb158 rfl))))), trivial⟩)⟩
      ·refine Ss hb157 3 ?_
       refine Pk0 hb157 ?_
       refine Vs 1 ?_
       refine Ss (rfl : false = false) 3 ?_
       refine Pk0 (rfl : false = false) ?_
       refine Vs 1 ?_
       exact RY ⟨rfl, F9, hs132.dr0.dr0, (R6 _), (fJ ⟨(congrArg Value.bool (Dc hb155 (Dc hb156 (E8 hb157 rfl)))), trivial⟩)⟩
     ·refine Ss hb156 2 ?_
      refine Pk0 hb156 ?_
      refine Vs 1 ?_
      refine Ss (rfl : false = false) 3 ?_
      refine Pk0 (rfl : false = false) ?_
      refine Vs 1 ?_
      refine Ss (rfl : false = false) 3 ?_
      refine Pk0 (rfl : false = false) ?_
      refine Vs 1 ?_
      exact RY ⟨rfl, F9, hs132.dr0.dr0, (R6 _), (fJ ⟨(congrArg Value.bool (Dc hb155 (E8 hb156 rfl))), trivial⟩)⟩
    ·refine Ss hb155 2 ?_
     refine Pk0 hb155 ?_
     refine Vs 1 ?_
     refine Ss (rfl : false = false) 2 ?_
     refine Pk0 (rfl : false = false) ?_
     refine Vs 1 ?_
     refine Ss (rfl : false = false) 3 ?_
     refine Pk0 (rfl : false = false) ?_
     refine Vs 1 ?_
     refine Ss (rfl : false = false) 3 ?_
     refine Pk0 (rfl : false = false) ?_
     refine Vs 1 ?_
     exact RY ⟨rfl, F9, hs132.dr0.dr0, (R6 _), (fJ ⟨(congrArg Value.bool (E8 hb155 rfl)), trivial⟩)⟩
   ·rintro f w150 ⟨F10, hs151, le152, ⟨_, rfl⟩⟩
    refine Ac ?_
    refine Rt ?_
    obtain rfl := Aa h149
    exact Re [(.bool ((r21.1.Op == 4) && ((r34.1 == ([49, 32, 43, 32, 50, 32, 42, 32, 51, 32, 61, 32, 55, 32, 97, 110, 100, 32, 110, 111, 116, 32, 98, 97, 110, 100, 32, 60, 32, 50] : Sx)) && ((r97.1 == 2) && ((r118.1.Op == 2) && (r118.1.Value == 7))))))] hs151 rfl
set_option maxRecDepth 100000 in
theorem OR : H2 9223372036854775808 = some true := by kernel_rfl
def Gt (_N : Nat) : Option Bool := some true
theorem KB : An Tryz.prog 21 := JS
theorem Lh (N : Nat) (w0 : World) (F0 : Mem) (hF : Sz w0 F0) (hG : CI F0) (r : Bool) (h : Gt N = some r) :
  Calls Tryz.prog 21 ([] : List Value).toArray w0 (AU w0 F0 fun F' v => v = (.bool r)) := by
 cases h
 exact KJ 9223372036854775808 w0 F0 hF hG true OR


theorem Rl {e : Expr} (h : kd e ≠ 0) : kd e = 1 \/ kd e = 2 := by
 have := Hp h
 generalize kd e = t at this
 cases this <;> simp
section
variable {N : Nat} {σ : Type}
def hit (l : List Clause) (d : List Qt) (k : Int) : Bool := (QY d).any fun f => fi (isT f) l == k
noncomputable def mx (e : Expr) (d : List Qt) : Int := (QY d).foldl (fun a f => max a (val f e)) (-1000000)
end
def DO (N : Nat) (x0 : Expr) : Option (Int × Int) :=
 ((CZ N x0).bind fun r24 => (bif (r24 == 1) then some (1, 0) else (bif (r24 == 2) then some (2, 0) else some (0, 61))))
theorem Hu : An Tryz.prog 72 := fun _ _ => by kernel_rfl
theorem Io (N : Nat) (w0 : World) (F0 : Mem) (hF : Sz w0 F0) (x0 : Expr) (a0_2 : Sy) (n0_2 : Nat) (hb0_2 : LC x0.Kids.length n0_2) (hs0_2 : SlA Ao F0 a0_2 x0.Kids) (r : (Int × Int)) (h : DO N x0 = some r) :
  Calls Tryz.prog 72 ([(.agg (Ae x0 a0_2 n0_2))] : List Value).toArray w0 (AU w0 F0 fun F' v => v = (.tuple #[(vi r.1), (vi r.2)])) := by
 have hs0 := R7 hF
 refine Go 10 Tryz.func72 ?_
 refine Sq (Rg [0, 1, 2] ?_)
 refine Bx' 33 (Ae x0 a0_2 n0_2) hs0 (fun b21 w22 hs23 => ?_)
 refine Vs 2 ?_
 refine Nss ?_
 refine Sq (Rg [0, 1] ?_)
 refine Ld hs23.at0 ?_
 obtain ⟨r24, hr25, h26⟩ := bind_some h
 refine Cl' CF hs23 (DD N w22 F0 hs23.pers x0 a0_2 n0_2 hb0_2 hs0_2 _ hr25) ?_
 rintro _ F1 w28 hs29 le30 rfl
 refine Nt ?_
 refine Bk ?_
 refine Sq (Rg [0, 1] ?_)
 refine Vs 2 ?_
 refine Nt ?_
 refine Cd h26 (fun hb32 h33 => ?_) (fun hb32 h34 => ?_)
 ·refine Sq (Rg [0, 1] ?_)
  refine Vs 2 ?_
  refine Nt ?_
  refine Rt ?_
  refine Ah ?_
  refine Af ?_
  obtain rfl := Aa h33
  exact Re [(vi 1), (vi 0)] hs29 rfl
 ·refine Sq (Rg [0, 1] ?_)
  refine Vs 2 ?_
  refine Nt ?_
  refine Cd h34 (fun hb35 h36 => ?_) (fun hb35 h37 => ?_)
  ·refine Sq (Rg [0, 1] ?_)
   refine Vs 2 ?_
   refine Nt ?_
   refine Rt ?_
   refine Ah ?_
   refine Af ?_
   obtain rfl := Aa h36
   exact Re [(vi 2), (vi 0)] hs29 rfl
  ·refine Sc ?_
   refine Ap ?_
   refine Ac ?_
   refine Sq (Rg [0, 1] ?_)
   refine Vs 2 ?_
   refine Nt ?_
   refine Rt ?_
   obtain rfl := Aa h37
   exact Re [(vi 0), (vi 61)] hs29 rfl

theorem QR {e x : Expr} (h : kd e ≠ 0) (hx : x ∈ e.Kids) : kd x ≠ 0 := by
 have hm := Hp h
 generalize kd e = t at hm
 cases hm with
 | num _ _ _ hk => rw [hk] at hx; cases hx
 | field _ _ _ hk => rw [hk] at hx; cases hx
 | deny _ _ y hk h1 => rw [hk] at hx; rw [List.mem_singleton.1 hx, h1]; decide
 | logic _ _ y z hk h1 h2 => rw [hk] at hx; simp at hx; rcases hx with rfl | rfl <;> simp [h1, h2]
 | test _ _ y z hk h1 h2 => rw [hk] at hx; simp at hx; rcases hx with rfl | rfl <;> simp [h1, h2]
 | sum _ _ y z hk h1 h2 => rw [hk] at hx; simp at hx; rcases hx with rfl | rfl <;> simp [h1, h2]
 | cond _ _ y z u hk h0 h1 h2 => rw [hk] at hx; simp at hx; rcases hx with rfl | rfl | rfl <;> simp [h0, h1, h2]
theorem Ks {e x : Expr} (hx : x ∈ e.Kids) {v : Int} (hv : v ∈ EA x) : v ∈ EA e := by
 rw [E4 e]
 exact List.mem_append_right _ (List.mem_flatten.2 ⟨_, List.mem_map_of_mem hx, hv⟩)
def dN (e : Expr) : Nat := match e with
 | ⟨_, _, ks⟩ => 1 + (ks.map fun x => dN x).foldl max 0
theorem Jw (e : Expr) : dN e = 1 + (e.Kids.map dN).foldl max 0 := by cases e; rw [dN]
theorem Qo (l : List Nat) : ∀ a, a <= l.foldl max a /\ ∀ x, x ∈ l -> x <= l.foldl max a := by
 induction l with
 | nil => intro a; exact ⟨Nat.le_refl _, fun x h => by cases h⟩
 | cons y l ih =>
  intro a
  obtain ⟨h1, h2⟩ := ih (max a y)
  refine ⟨by rw [List.foldl_cons]; omega, fun x hx => ?_⟩
  rw [List.foldl_cons]
  rcases List.mem_cons.1 hx with rfl | hx
  ·omega
  ·exact h2 x hx
theorem L4 {e x : Expr} (h : x ∈ e.Kids) : dN x < dN e := by
 rw [Jw e]
 have := (Qo (e.Kids.map dN) 0).2 _ (List.mem_map_of_mem h); omega
theorem LB : ∀ (l m : List Nat) (a b : Nat), a <= b -> l.length = m.length -> (∀ i (h : i < l.length) (h' : i < m.length), l[i] <= m[i]) -> l.foldl max a <= m.foldl max b
 | [], [], a, b, h, _, _ => h
 | x :: l, y :: m, a, b, h, hl, hi => by
  rw [List.foldl_cons, List.foldl_cons]
  refine LB l m _ _ ?_ (by simpa using hl) (fun i h h' => hi (i + 1) (by simpa using h) (by simpa using h'))
  have := hi 0 (by simp) (by simp)
  simp at this; omega
 | [], _ :: _, _, _, _, hl, _ => by simp at hl
 | _ :: _, [], _, _, _, hl, _ => by simp at hl
structure CW (e r : Expr) : Prop where
 v : ∀ f, fac f = true -> val f r = val f e
 s : sz r <= sz e
 d : dN r <= dN e
 f : ∀ v, v ∈ EA r -> v ∈ EA e
 k : r = e \/ r ∈ e.Kids \/ (∃ x, x ∈ e.Kids /\ r ∈ x.Kids) \/ (∃ c, r = ⟨1, c, []⟩) \/ r = ⟨6, 0, [⟨1, 0, []⟩, ⟨1, 0, []⟩]⟩ \/ r = ⟨7, 0, [⟨1, 0, []⟩, ⟨1, 0, []⟩]⟩
theorem CW.self (e : Expr) : CW e e := ⟨fun _ _ => rfl, Nat.le_refl _, Nat.le_refl _, fun _ h => h, .inl rfl⟩
theorem CW.kid {e x : Expr} (h : x ∈ e.Kids) (hv : ∀ f, fac f = true -> val f x = val f e) : CW e x :=
 ⟨hv, Nat.le_of_lt (FL h), Nat.le_of_lt (L4 h), fun _ hv => Ks h hv, .inr (.inl h)⟩
theorem Nb (c : Int) : sz ⟨1, c, []⟩ = 1 := by rw [ER]; rfl
theorem PH (c : Int) : dN ⟨1, c, []⟩ = 1 := by rw [Jw]; rfl
theorem MW (c : Int) : EA ⟨1, c, []⟩ = [] := by rw [E4]; rfl
theorem Iw (e : Expr) : 0 < sz e := by rw [ER]; omega
theorem PG (e : Expr) : 0 < dN e := by rw [Jw]; omega
theorem CW.cst {e : Expr} (c : Int) (hv : ∀ f, fac f = true -> c = val f e) : CW e ⟨1, c, []⟩ :=
 ⟨fun f hf => by rw [<- hv f hf, BL]; rfl, by rw [Nb]; exact Iw e, by rw [PH]; exact PG e, fun v h => (by rw [MW] at h; cases h), .inr (.inr (.inr (.inl ⟨c, rfl⟩)))⟩
theorem CW.tt {e : Expr} {op : Int} (ho : op = 6 \/ op = 7) (h3 : 3 <= sz e) (h2 : 2 <= dN e) (hv : ∀ f, fac f = true -> Eg (decide (op = 6)) = val f e) : CW e ⟨op, 0, [⟨1, 0, []⟩, ⟨1, 0, []⟩]⟩ := by
 have s1 : sz ⟨op, 0, [⟨1, 0, []⟩, ⟨1, 0, []⟩]⟩ = 3 := by rw [ER]; simp [Nb]
 have d1 : dN ⟨op, 0, [⟨1, 0, []⟩, ⟨1, 0, []⟩]⟩ = 2 := by rw [Jw]; simp [PH]
 have f1 : EA ⟨op, 0, [⟨1, 0, []⟩, ⟨1, 0, []⟩]⟩ = [] := by
  rw [E4]; simp [MW, fl1]; intro h; omega
 refine ⟨fun f hf => ?_, by omega, by omega, fun v h => (by rw [f1] at h; cases h), ?_⟩
 ·rw [<- hv f hf, BL]
  rcases ho with rfl | rfl
  ·simp [vop, BL, Eg]
  ·simp [vop, BL, Eg]
 ·rcases ho with rfl | rfl
  ·exact .inr (.inr (.inr (.inr (.inl rfl))))
  ·exact .inr (.inr (.inr (.inr (.inr rfl))))
theorem OY (f : List Int) (x : Expr) : val f ⟨3, 0, [x]⟩ = 1 - val f x := by rw [BL]; simp [vop]
theorem Q8 (f : List Int) (x y : Expr) : val f ⟨4, 0, [x, y]⟩ = min (val f x) (val f y) := by rw [BL]; simp [vop]
theorem Q9 (f : List Int) (x y : Expr) : val f ⟨5, 0, [x, y]⟩ = max (val f x) (val f y) := by rw [BL]; simp [vop]
theorem OW (f : List Int) (x y : Expr) : val f ⟨6, 0, [x, y]⟩ = Eg (val f x == val f y) := by rw [BL]; simp [vop]
theorem OX (f : List Int) (x y : Expr) : val f ⟨7, 0, [x, y]⟩ = Eg (decide (val f x < val f y)) := by rw [BL]; simp [vop]
theorem OZ (f : List Int) (x y : Expr) : val f ⟨8, 0, [x, y]⟩ = hold (val f x + val f y) := by rw [BL]; simp [vop]
theorem OV (f : List Int) (x y : Expr) : val f ⟨9, 0, [x, y]⟩ = hold (val f x - val f y) := by rw [BL]; simp [vop]
theorem NZ (f : List Int) (x y : Expr) : val f ⟨10, 0, [x, y]⟩ = hold (val f x * val f y) := by rw [BL]; simp [vop]
theorem M8 (f : List Int) (c x y : Expr) : val f ⟨11, 0, [c, x, y]⟩ = if val f c = 1 then val f x else val f y := by rw [BL]; simp [vop]
theorem Qw (f : List Int) (a : Int) : val f ⟨1, a, []⟩ = a := by rw [BL]; rfl
theorem RG (f : List Int) (op : Int) (ho : op = 6 \/ op = 7) : val f ⟨op, 0, [⟨1, 0, []⟩, ⟨1, 0, []⟩]⟩ = Eg (decide (op = 6)) := by
 rcases ho with rfl | rfl
 ·rw [OW, Qw]; rfl
 ·rw [OX, Qw]; rfl
theorem M9 {e x : Expr} (h : x ∈ e.Kids) : 2 <= dN e := by have := L4 h; have := PG x; omega
theorem Mu {op v : Int} {x y : Expr} : 3 <= sz ⟨op, v, [x, y]⟩ := by
 rw [ER]; have := Iw x; have := Iw y; simp; omega
def cst (n : Int) : Expr := ⟨1, n, []⟩
def TT (b : Bool) : Expr := ⟨bif b then 6 else 7, 0, [cst 0, cst 0]⟩
theorem NB {n : Int} (h1 : 0 <= n) (h2 : n <= 1000000) : kd (cst n) = 1 := by
 rw [Ly]; show (if 0 <= n /\ n <= 1000000 /\ ([] : List Expr).map kd = [] then (1 : Int) else 0) = 1
 rw [if_pos ⟨h1, h2, rfl⟩]
theorem Pr (b : Bool) : kd (TT b) = 2 := by
 rw [Ly]
 have h := NB (n := 0) (by decide) (by decide)
 have : (TT b).Kids.map kd = [1, 1] := by show [kd (cst 0), kd (cst 0)] = [1, 1]; rw [h]
 cases b <;> (rw [this]; decide)
theorem L6 {M n : Nat} (a : Int) (hM : 2 < M) : Ht M (n + 1) (cst a) := ⟨by show 0 < M; omega, by show 0 < 9223372036854775808; omega, fun x hx => by cases hx⟩
theorem QD {M n : Nat} (b : Bool) (hM : 2 < M) : Ht M (n + 2) (TT b) := ⟨hM, by show 2 < 9223372036854775808; omega, fun x hx => by
 have : x ∈ [cst 0, cst 0] := hx
 simp at this
 rw [this]; exact L6 0 hM⟩
theorem Rv {M n : Nat} {b : Bool} (h : Ht M n (TT b)) : 2 <= n := by
 match n, h with
 | 0, h => exact h.elim
 | 1, h => exact (h.2.2 (cst 0) (List.mem_cons_self ..)).elim
 | n + 2, _ => omega
section
variable {N : Nat}
theorem Fw (b : Bool) : A8 N b = some (TT b) := rfl
theorem H0 (b : Bool) : AY N b = some (TT b) := rfl
theorem Fx {x : Expr} (h : Fit N x) (b : Bool) : A9 N x b = some (eqv x (TT b)) := by
 unfold A9; rw [Fw, Option.bind_some, Iy h]; rfl
def Mf (N n : Nat) (e : Expr) : Prop := ∃ r, AD N e = some r /\ AO N e = some r /\ kd r = kd e /\ Ht N n r /\ CW e r
theorem Rb (b : Bool) : sz (TT b) = 3 := by unfold TT; rw [ER]; simp [cst, Nb]
theorem Gb (f : List Int) (b : Bool) : val f (TT b) = Eg b := by cases b <;> exact RG f _ (by simp)
theorem L7 {e : Expr} (b : Bool) (h3 : 3 <= sz e) (h2 : 2 <= dN e) (hv : ∀ f, fac f = true -> Eg b = val f e) : CW e (TT b) := by
 cases b
 ·exact CW.tt (op := 7) (.inr rfl) h3 h2 hv
 ·exact CW.tt (op := 6) (.inl rfl) h3 h2 hv
theorem Ot {n : Nat} {x : Expr} (hN : 2 * n + 10 <= N) (h : Ht N n ⟨3, 0, [x]⟩) (hk : kd ⟨3, 0, [x]⟩ = 2) (hx : kd x = 2) : Mf N n ⟨3, 0, [x]⟩ := by
 obtain ⟨m, rfl⟩ : ∃ m, n = m + 1 := by cases n with | zero => exact h.elim | succ m => exact ⟨m, rfl⟩
 have hxh : Ht N m x := h.2.2 x (List.mem_cons_self ..)
 have fx : Fit N x := ⟨m, hxh, by omega⟩
 have i0 : idx (⟨3, 0, [x]⟩ : Expr).Kids 0 = some x := rfl
 have h1 : AD N ⟨3, 0, [x]⟩ = bif eqv x (TT true) || eqv x (TT false) then some (TT (eqv x (TT false))) else if x.Op = 3 then (idx x.Kids 0) else some ⟨3, 0, [x]⟩ := by
  unfold AD
  show (bif (1 : Int) == 0 then _ else _) = _
  rw [show ((1 : Int) == 0) = false from rfl, cond_false, i0, Option.bind_some, show ((⟨3, 0, [x]⟩ : Expr).Op == 3) = true from rfl, cond_true, Fx fx, Fx fx]
  simp only [Option.bind_some]
  cases eqv x (TT true) <;> cases eqv x (TT false) <;> simp only [cond_true, cond_false, Option.bind_some, Bool.or_true, Bool.or_false, Fw]
  by_cases ho : x.Op = 3
  ·rw [if_pos ho, show (x.Op == 3) = true by simpa using ho, cond_true]; cases idx x.Kids 0 <;> rfl
  ·rw [if_neg ho, show (x.Op == 3) = false by simpa using ho, cond_false]
 have h2 : AO N ⟨3, 0, [x]⟩ = bif eqv x (TT true) || eqv x (TT false) then some (TT (eqv x (TT false))) else if x.Op = 3 then (idx x.Kids 0) else some ⟨3, 0, [x]⟩ := by
  unfold AO
  rw [show ((⟨3, 0, [x]⟩ : Expr).Op == 3) = true from rfl, cond_true, i0, Option.bind_some]
  simp only [H0, Option.bind_some, ES fx]
  cases eqv x (TT true) <;> cases eqv x (TT false) <;> simp only [cond_true, cond_false, Option.bind_some, Bool.or_true, Bool.or_false]
  ·by_cases ho : x.Op = 3
   ·rw [if_pos ho, show (x.Op == 3) = true by simpa using ho, cond_true]; cases idx x.Kids 0 <;> rfl
   ·rw [if_neg ho, show (x.Op == 3) = false by simpa using ho, cond_false]
  ·rfl
  ·rfl
  ·rfl
 unfold Mf
 rw [h1, h2, hk]
 by_cases ht : (eqv x (TT true) || eqv x (TT false)) = true
 ·rw [ht]
  have hm : 2 <= m := by
   rw [Bool.or_eq_true, A2, A2] at ht
   rcases ht with rfl | rfl <;> exact Rv hxh
  obtain ⟨q, rfl⟩ : ∃ q, m = q + 2 := ⟨m - 2, by omega⟩
  refine ⟨_, rfl, rfl, Pr _, (QD _ (by omega)).le (Nat.le_succ _), L7 _ ?_ (M9 (x := x) (by simp)) fun f _ => ?_⟩
  ·have := FL (e := ⟨3, 0, [x]⟩) (x := x) (by simp)
   rw [Bool.or_eq_true, A2, A2] at ht
   rcases ht with rfl | rfl <;> rw [Rb] at this <;> omega
  ·rw [OY]
   rw [Bool.or_eq_true, A2, A2] at ht
   rcases ht with rfl | rfl
   ·rw [Gb, show eqv (TT true) (TT false) = false by exact Dq.2 (by intro h; cases h)]; rfl
   ·rw [Gb, Gw]; rfl
 ·rw [Bool.not_eq_true] at ht
  rw [ht, cond_false]
  by_cases ho : x.Op = 3
  ·rw [if_pos ho]
   have hm := Hp (e := x) (by rw [hx]; decide)
   rw [hx] at hm
   cases hm with
   | deny h' _ z hkz hz =>
    rw [hkz]
    have hze : z ∈ x.Kids := by rw [hkz]; simp
    have hxe : x ∈ (⟨3, 0, [x]⟩ : Expr).Kids := by simp
    refine ⟨z, rfl, rfl, hz, ?_, fun f hf => ?_, by have := FL hze; have := FL hxe; omega, by have := L4 hze; have := L4 hxe; omega, fun _ hv => Ks hxe (Ks hze hv), .inr (.inr (.inl ⟨x, hxe, hze⟩))⟩
    ·obtain ⟨q, rfl⟩ : ∃ q, m = q + 1 := by cases m with | zero => exact hxh.elim | succ m => exact ⟨m, rfl⟩
     exact (hxh.2.2 z (by rw [hkz]; simp)).le (by omega)
    ·rw [OY, BL f x, hkz, h']; simp [vop]; omega
   | logic h' => omega
   | test h' => omega
  ·rw [if_neg ho]
   exact ⟨_, rfl, rfl, hk, h, CW.self _⟩
theorem eta (r : Expr) : (⟨r.Op, r.Value, r.Kids⟩ : Expr) = r := by cases r; rfl
theorem I7 {n : Nat} {e : Expr} (h : Ht N n e) : ∃ m, n = m + 1 := by cases n with | zero => exact h.elim | succ m => exact ⟨m, rfl⟩
theorem Gc {n : Nat} {e r : Expr} (h1 : AD N e = some r) (h2 : AO N e = some r) (h3 : kd r = kd e) (h4 : Ht N n r) (h5 : CW e r) : Mf N n e := ⟨r, h1, h2, h3, h4, h5⟩
noncomputable def H4 (op : Int) (x y : Expr) : Expr :=
 let s := decide (op = 5)
 if eqv x (TT s) || eqv y (TT s) then TT s else if eqv x (TT !s) then y else if eqv y (TT !s) || eqv x y then x else ⟨op, 0, [x, y]⟩
theorem Nd {n : Nat} {op : Int} {x y : Expr} (hop : op = 4 \/ op = 5) (hN : 2 * n + 10 <= N) (h : Ht N n ⟨op, 0, [x, y]⟩) (hk : kd ⟨op, 0, [x, y]⟩ = 2) (hx : kd x = 2) (hy : kd y = 2) : Mf N n ⟨op, 0, [x, y]⟩ := by
 obtain ⟨m, rfl⟩ := I7 h
 have hxh : Ht N m x := h.2.2 x (List.mem_cons_self ..)
 have hyh : Ht N m y := h.2.2 y (by show y ∈ [x, y]; simp)
 have fx : Fit N x := ⟨m, hxh, by omega⟩
 have fy : Fit N y := ⟨m, hyh, by omega⟩
 have i0 : idx (⟨op, 0, [x, y]⟩ : Expr).Kids 0 = some x := rfl
 have i1 : idx (⟨op, 0, [x, y]⟩ : Expr).Kids 1 = some y := rfl
 have h1 : AD N ⟨op, 0, [x, y]⟩ = some (H4 op x y) := by
  unfold AD
  show (bif (2 : Int) == 0 then _ else _) = _
  have j : Ev N ⟨op, 0, [x, y]⟩ x y = some (H4 op x y) := by
   unfold Ev H4
   have e5 : ((⟨op, 0, [x, y]⟩ : Expr).Op == 5) = decide (op = 5) := by rcases hop with rfl | rfl <;> rfl
   simp only [e5]
   generalize decide (op = 5) = s
   simp only [Fx fx, Fx fy, Fw, Iy fx, Option.bind_some]
   cases eqv x (TT s) <;> cases eqv y (TT s) <;> cases eqv x (TT !s) <;> cases eqv y (TT !s) <;> cases eqv x y <;> rfl
  rw [show ((2 : Int) == 0) = false from rfl, cond_false, i0, Option.bind_some, i1, Option.bind_some, j]
  rcases hop with rfl | rfl <;> rfl
 have h2 : AO N ⟨op, 0, [x, y]⟩ = some (H4 op x y) := by
  unfold AO
  have j : FH N ⟨op, 0, [x, y]⟩ x y = some (H4 op x y) := by
   unfold FH H4
   have e5 : ((⟨op, 0, [x, y]⟩ : Expr).Op == 5) = decide (op = 5) := by rcases hop with rfl | rfl <;> rfl
   have e4 : ((⟨op, 0, [x, y]⟩ : Expr).Op == 4) = !decide (op = 5) := by rcases hop with rfl | rfl <;> rfl
   simp only [e5, e4]
   generalize decide (op = 5) = s
   simp only [ES fx, ES fy, H0, Option.bind_some]
   cases eqv x (TT s) <;> cases eqv y (TT s) <;> cases eqv x (TT !s) <;> cases eqv y (TT !s) <;> cases eqv x y <;> rfl
  simp only [i0, i1, j, Option.bind_some, eta]
  rcases hop with rfl | rfl <;> rfl
 have hT : ∀ z, Ht N m z -> ∀ b, z = TT b -> Ht N (m + 1) (TT b) := fun z hz b e => by rw [<- e]; exact hz.succ
 refine Gc h1 h2 ?_ ?_ ?_
 ·rw [hk]; unfold H4; simp only
  split
  ·exact Pr _
  ·split
   ·exact hy
   ·split
    ·exact hx
    ·exact hk
 ·unfold H4; simp only
  split
  ·rename_i hc
   rw [Bool.or_eq_true, A2, A2] at hc
   rcases hc with hc | hc
   ·exact hT x hxh _ hc
   ·exact hT y hyh _ hc
  ·split
   ·exact hyh.succ
   ·split
    ·exact hxh.succ
    ·exact h
 ·have kx : x ∈ (⟨op, 0, [x, y]⟩ : Expr).Kids := by simp
  have ky : y ∈ (⟨op, 0, [x, y]⟩ : Expr).Kids := by simp
  have vx := fun f (hf : fac f = true) => (Iv hf hxh (by rw [hx]; decide)).1 hx
  have vy := fun f (hf : fac f = true) => (Iv hf hyh (by rw [hy]; decide)).1 hy
  have hv : ∀ f, val f ⟨op, 0, [x, y]⟩ = if op = 5 then max (val f x) (val f y) else min (val f x) (val f y) := fun f => by
   rcases hop with rfl | rfl
   ·rw [Q8]; rfl
   ·rw [Q9]; rfl
  have hb : Eg (decide (op = 5)) = if op = 5 then 1 else 0 := by by_cases h : op = 5 <;> simp [h, Eg]
  have hb' : Eg (!decide (op = 5)) = if op = 5 then 0 else 1 := by by_cases h : op = 5 <;> simp [h, Eg]
  unfold H4; simp only
  split
  ·rename_i hc
   rw [Bool.or_eq_true, A2, A2] at hc
   refine L7 _ Mu (M9 kx) fun f hf => ?_
   have a1 := vx f hf
   have a2 := vy f hf
   rw [hv f]
   rcases hc with hc | hc
   ·have : val f x = Eg (decide (op = 5)) := by rw [hc, Gb]
    rw [hb] at this ⊢
    split at this <;> split <;> omega
   ·have : val f y = Eg (decide (op = 5)) := by rw [hc, Gb]
    rw [hb] at this ⊢
    split at this <;> split <;> omega
  ·split
   ·rename_i hc
    rw [A2] at hc
    refine CW.kid ky fun f hf => ?_
    have a1 := vx f hf
    have a2 := vy f hf
    have : val f x = Eg (!decide (op = 5)) := by rw [hc, Gb]
    rw [hb'] at this
    rw [hv f]
    split at this <;> split <;> omega
   ·split
    ·rename_i hc
     rw [Bool.or_eq_true, A2, A2] at hc
     refine CW.kid kx fun f hf => ?_
     have a1 := vx f hf
     have a2 := vy f hf
     rw [hv f]
     rcases hc with hc | hc
     ·have : val f y = Eg (!decide (op = 5)) := by rw [hc, Gb]
      rw [hb'] at this
      split at this <;> split <;> omega
     ·rw [<- hc]; split <;> omega
    ·exact CW.self _
noncomputable def Hj (op : Int) (x y : Expr) : Expr :=
 let nn := decide (x.Op = 1) && decide (y.Op = 1)
 if nn || eqv x y then TT (decide (op = 6) && eqv x y || decide (op = 7) && nn && decide (x.Value < y.Value)) else ⟨op, 0, [x, y]⟩
theorem E3 (a b : Int) : (a == b) = decide (a = b) := by
 by_cases h : a = b
 ·subst h; simp
 ·simp [h]
theorem Oq {n : Nat} {op : Int} {x y : Expr} (hop : op = 6 \/ op = 7) (hN : 2 * n + 10 <= N) (h : Ht N n ⟨op, 0, [x, y]⟩) (hk : kd ⟨op, 0, [x, y]⟩ = 2) (hx : kd x = 1) (hy : kd y = 1) : Mf N n ⟨op, 0, [x, y]⟩ := by
 obtain ⟨m, rfl⟩ := I7 h
 have hxh : Ht N m x := h.2.2 x (List.mem_cons_self ..)
 obtain ⟨q, rfl⟩ := I7 hxh
 have fx : Fit N x := ⟨_, hxh, by omega⟩
 have i0 : idx (⟨op, 0, [x, y]⟩ : Expr).Kids 0 = some x := rfl
 have i1 : idx (⟨op, 0, [x, y]⟩ : Expr).Kids 1 = some y := rfl
 have h1 : AD N ⟨op, 0, [x, y]⟩ = some (Hj op x y) := by
  unfold AD Hj
  show (bif (2 : Int) == 0 then _ else _) = _
  rw [show ((2 : Int) == 0) = false from rfl, cond_false, i0, Option.bind_some, i1, Option.bind_some]
  simp only [Iy fx, Fw, Option.bind_some, eta]
  simp only [E3 x.Op 1, E3 y.Op 1]
  rcases hop with rfl | rfl <;> cases decide (x.Op = 1) <;> cases decide (y.Op = 1) <;> cases eqv x y <;> cases decide (x.Value < y.Value) <;> rfl
 have h2 : AO N ⟨op, 0, [x, y]⟩ = some (Hj op x y) := by
  unfold AO Hj
  simp only [i0, i1, ES fx, H0, Option.bind_some, eta]
  simp only [E3 x.Op 1, E3 y.Op 1]
  rcases hop with rfl | rfl <;> cases decide (x.Op = 1) <;> cases decide (y.Op = 1) <;> cases eqv x y <;> cases decide (x.Value < y.Value) <;> rfl
 refine Gc h1 h2 ?_ ?_ ?_
 ·rw [hk]; unfold Hj; simp only
  split
  ·exact Pr _
  ·exact hk
 ·unfold Hj; simp only
  split
  ·exact QD _ (by omega)
  ·exact h
 ·unfold Hj; simp only
  split
  ·rename_i hc
   refine L7 _ Mu (M9 (x := x) (by simp)) fun f hf => ?_
   rw [Bool.or_eq_true, Bool.and_eq_true, decide_eq_true_eq, decide_eq_true_eq] at hc
   have hnum : ∀ z : Expr, kd z = 1 -> z.Op = 1 -> val f z = z.Value := fun z _ ho => by rw [BL, ho]; rfl
   rcases hop with rfl | rfl
   ·rw [OW]
    simp only [decide_true, Bool.true_and, show decide ((6 : Int) = 7) = false from rfl, Bool.false_and, Bool.or_false]
    by_cases he : eqv x y = true
    ·rw [he, A2.1 he]; simp
    ·rcases hc with ⟨c1, c2⟩ | hc
     ·rw [hnum x hx c1, hnum y hy c2]
      have hne : x.Value ≠ y.Value := fun hh => by
       have m1 := Hp (e := x) (by rw [hx]; decide)
       have m2 := Hp (e := y) (by rw [hy]; decide)
       rw [hx] at m1; rw [hy] at m2
       have k1 : x.Kids = [] := by cases m1 <;> first | assumption | omega
       have k2 : y.Kids = [] := by cases m2 <;> first | assumption | omega
       exact he (A2.2 (by cases x; cases y; simp only at c1 c2 hh k1 k2; subst c1 c2 hh k1 k2; rfl))
      rw [Bool.not_eq_true] at he
      rw [he, show (x.Value == y.Value) = false by simpa using hne]
     ·exact absurd hc he
   ·rw [OX]
    simp only [show decide ((7 : Int) = 6) = false from rfl, Bool.false_and, Bool.false_or, decide_true, Bool.true_and]
    by_cases hn : x.Op = 1 /\ y.Op = 1
    ·rw [decide_eq_true hn.1, decide_eq_true hn.2, hnum x hx hn.1, hnum y hy hn.2]; rfl
    ·have he : x = y := by
      rcases hc with hc | hc
      ·exact absurd hc hn
      ·exact A2.1 hc
     subst he
     have : ¬ x.Op = 1 := fun h => hn ⟨h, h⟩
     rw [decide_eq_false this]; simp
  ·exact CW.self _
noncomputable def Ku (c x y : Expr) : Expr := if eqv c (TT true) then x else if eqv c (TT false) then y else if eqv x y then x else ⟨11, 0, [c, x, y]⟩
theorem Ou {n : Nat} {c x y : Expr} (hN : 2 * n + 10 <= N) (h : Ht N n ⟨11, 0, [c, x, y]⟩) (hk : kd ⟨11, 0, [c, x, y]⟩ = 1) (hx : kd x = 1) (hy : kd y = 1) : Mf N n ⟨11, 0, [c, x, y]⟩ := by
 obtain ⟨m, rfl⟩ := I7 h
 have hch : Ht N m c := h.2.2 c (List.mem_cons_self ..)
 have hxh : Ht N m x := h.2.2 x (by show x ∈ [c, x, y]; simp)
 have hyh : Ht N m y := h.2.2 y (by show y ∈ [c, x, y]; simp)
 have fc : Fit N c := ⟨_, hch, by omega⟩
 have fx : Fit N x := ⟨_, hxh, by omega⟩
 have i0 : idx (⟨11, 0, [c, x, y]⟩ : Expr).Kids 0 = some c := rfl
 have i1 : idx (⟨11, 0, [c, x, y]⟩ : Expr).Kids 1 = some x := rfl
 have i2 : idx (⟨11, 0, [c, x, y]⟩ : Expr).Kids 2 = some y := rfl
 have h1 : AD N ⟨11, 0, [c, x, y]⟩ = some (Ku c x y) := by
  unfold AD Ku
  show (bif (3 : Int) == 0 then _ else _) = _
  rw [show ((3 : Int) == 0) = false from rfl, cond_false, i0, Option.bind_some, i1, Option.bind_some, i2]
  simp only [Fx fc, Iy fx, Option.bind_some]
  cases eqv c (TT true) <;> cases eqv c (TT false) <;> cases eqv x y <;> rfl
 have h2 : AO N ⟨11, 0, [c, x, y]⟩ = some (Ku c x y) := by
  unfold AO Ku
  simp only [i0, i1, i2, ES fc, ES fx, H0, Option.bind_some]
  cases h1 : eqv c (TT true) <;> cases h2 : eqv c (TT false) <;> cases h3 : eqv x y
  ·rfl
  ·rfl
  ·rfl
  ·rw [A2] at h3; subst h3; rfl
  ·rfl
  ·rfl
  ·rfl
  ·rfl
 refine Gc h1 h2 ?_ ?_ ?_
 ·rw [hk]; unfold Ku
  repeat' split
  ·exact hx
  ·exact hy
  ·exact hx
  ·exact hk
 ·unfold Ku
  repeat' split
  ·exact hxh.succ
  ·exact hyh.succ
  ·exact hxh.succ
  ·exact h
 ·unfold Ku
  split
  ·rename_i hc
   refine CW.kid (by simp) fun f _ => ?_
   rw [M8, A2.1 hc, Gb, if_pos (by decide)]
  ·split
   ·rename_i hc
    refine CW.kid (by simp) fun f _ => ?_
    rw [M8, A2.1 hc, Gb, if_neg (by decide)]
   ·split
    ·rename_i hc
     refine CW.kid (by simp) fun f _ => ?_
     rw [M8, <- A2.1 hc, ite_self]
    ·exact CW.self _
end




def GV (op a b : Int) : Int := if op = 8 then hold (a + b) else if op = 9 then hold (a - b) else hold (a * b)
theorem Ny {x : Expr} (hx : kd x = 1) (ho : x.Op = 1) : 0 <= x.Value /\ x.Value <= 1000000 /\ x.Kids = [] := by
 have hm := Hp (e := x) (by rw [hx]; decide)
 rw [hx] at hm
 cases hm with
 | num _ h1 h2 h3 => exact ⟨h1, h2, h3⟩
 | field h => omega
 | sum h => omega
 | cond h => omega
theorem L0 {x : Expr} (hx : kd x = 1) (ho : x.Op = 1) : x = cst x.Value := by
 obtain ⟨_, _, hk⟩ := Ny hx ho
 exact D6 ho rfl hk
def Hf : List Int := List.replicate 14 0
theorem OP : fac Hf = true := by decide
theorem NY (f : List Int) (a : Int) : val f (cst a) = a := by rw [BL]; rfl
section
variable {N : Nat}
theorem Qz {f : List Int} (k : Nat) (hN : 0 < N) (a : Int) : (Gr N (k + 1)).q101 (cst a) f = some a := by
 show Da N (Gr N k).q101 (cst a) f = _
 unfold Da
 obtain ⟨m, rfl⟩ : ∃ m, N = m + 1 := ⟨N - 1, by omega⟩
 rfl
theorem Ri {f : List Int} {op a b : Int} (hop : op = 8 \/ op = 9 \/ op = 10) (k : Nat) (hN : 5 < N) (ha : 0 <= a /\ a <= 1000000) (hb : 0 <= b /\ b <= 1000000) : (Gr N (k + 2)).q101 ⟨op, 0, [cst a, cst b]⟩ f = some (GV op a b) := by
 show Da N (Gr N (k + 1)).q101 ⟨op, 0, [cst a, cst b]⟩ f = _
 unfold Da
 have hit : Br (CQ N (Gr N (k + 1)).q101 ⟨op, 0, [cst a, cst b]⟩ f) N ([], 0) = some (.done ([a, b], 2)) := by
  have := OL (n := 2) (N := N) (body := CQ N (Gr N (k + 1)).q101 ⟨op, 0, [cst a, cst b]⟩ f) 1 (fun i => if i = 0 then [a] else [b]) (fun i hi => by split <;> simp) (s0 := []) (fun i s hi hs => by
   unfold CQ
   simp only
   rw [show ([cst a, cst b].length : Int) = ((2 : Nat) : Int) from rfl, KW hi, cond_true]
   rcases (show i = 0 \/ i = 1 by omega) with rfl | rfl
   ·rw [show idx [cst a, cst b] ((0 : Nat) : Int) = some (cst a) from rfl, Option.bind_some, Qz k (by omega), Option.bind_some, J2 (by simp at hs ⊢; omega), Option.bind_some]; rfl
   ·rw [show idx [cst a, cst b] ((1 : Nat) : Int) = some (cst b) from rfl, Option.bind_some, Qz k (by omega), Option.bind_some, J2 (by simp at hs ⊢; omega), Option.bind_some]; rfl) (fun s => by
   unfold CQ
   simp only
   rw [show ([cst a, cst b].length : Int) = ((2 : Nat) : Int) from rfl, L2, cond_false]) (by omega)
  rw [this]; rfl
 rw [hit]
 have c' := Lw (a := a) (b := b) (by omega) (by omega) (by omega) (by omega)
 rcases hop with rfl | rfl | rfl
 ·show some (hold (W64 (a + b))) = some (hold (a + b)); rw [C6 (by omega) (by omega)]
 ·show some (hold (W64 (a - b))) = some (hold (a - b)); rw [C6 (by omega) (by omega)]
 ·show some (hold (W64 (a * b))) = some (hold (a * b)); rw [C6 (by omega) (by omega)]
def cb (x : Expr) (n : Int) : Bool := (x.Op == 1) && (x.Value == n)
noncomputable def Gp (op : Int) (x y : Expr) : Expr :=
 if op = 8 then (if cb x 0 then y else if cb y 0 then x else ⟨op, 0, [x, y]⟩)
 else if op = 9 then (if cb y 0 then x else if eqv x y then cst 0 else ⟨op, 0, [x, y]⟩)
 else (if cb x 1 then y else if cb y 1 then x else if cb x 0 || cb y 0 then cst 0 else ⟨op, 0, [x, y]⟩)
theorem Rk (x : Expr) (n : Int) : Bb N x n = some (cb x n) := rfl
theorem Rj (x : Expr) (n : Int) : B5 N x n = some (cb x n) := rfl
theorem QP {op : Int} {x y : Expr} (hop : op = 8 \/ op = 9 \/ op = 10) (fx : Fit N x) : CO N ⟨op, 0, [x, y]⟩ x y = some (Gp op x y) := by
 unfold CO Gp
 simp only [Rk, Iy fx, Option.bind_some]
 rcases hop with rfl | rfl | rfl
 ·cases cb x 0 <;> cases cb y 0 <;> rfl
 ·cases cb y 0 <;> cases eqv x y <;> rfl
 ·cases cb x 1 <;> cases cb y 1 <;> cases cb x 0 <;> cases cb y 0 <;> rfl
theorem Qc {n : Nat} {op : Int} {x y : Expr} (hN : 2 * n + 10 <= N) (h : Ht N n ⟨op, 0, [x, y]⟩) (hk : kd ⟨op, 0, [x, y]⟩ = 1) (hx : kd x = 1) (hy : kd y = 1) : kd (Gp op x y) = 1 /\ Ht N n (Gp op x y) := by
 obtain ⟨m, rfl⟩ := I7 h
 have hxh : Ht N m x := h.2.2 x (List.mem_cons_self ..)
 have hyh : Ht N m y := h.2.2 y (by show y ∈ [x, y]; simp)
 have h0 : kd (cst 0) = 1 /\ Ht N (m + 1) (cst 0) := ⟨NB (by decide) (by decide), L6 0 (by omega)⟩
 unfold Gp
 repeat' split
 all_goals first | exact ⟨hx, hxh.succ⟩ | exact ⟨hy, hyh.succ⟩ | exact h0 | exact ⟨hk, h⟩
theorem OB {op a b : Int} (hop : op = 8 \/ op = 9 \/ op = 10) (ha : 0 <= a) (hb : 0 <= b) (hn : GV op a b < 0) : Gp op (cst a) (cst b) = ⟨op, 0, [cst a, cst b]⟩ := by
 unfold GV at hn
 rcases hop with rfl | rfl | rfl
 ·exfalso; simp only [if_true] at hn; unfold hold at hn; omega
 ·simp only [show ¬ (9 : Int) = 8 from by decide, if_false, if_true] at hn
  have hlt : a < b := by unfold hold at hn; omega
  unfold Gp
  simp only [show ¬ (9 : Int) = 8 from by decide, if_false, if_true]
  have c0 : cb (cst b) 0 = false := by show ((1 : Int) == 1 && b == 0) = false; simp; omega
  have e0 : eqv (cst a) (cst b) = false := Dq.2 (fun h => by injection h; omega)
  rw [c0, e0]; rfl
 ·exfalso
  simp only [show ¬ (10 : Int) = 8 from by decide, show ¬ (10 : Int) = 9 from by decide, if_false] at hn
  have : 0 <= a * b := Int.mul_nonneg ha hb
  unfold hold at hn; omega
noncomputable def LM (op : Int) (x y : Expr) : Expr :=
 if (decide (x.Op = 1) && decide (y.Op = 1)) && decide (0 <= GV op x.Value y.Value) then cst (GV op x.Value y.Value) else Gp op x y
theorem O3 {n : Nat} {op : Int} {x y : Expr} (hop : op = 8 \/ op = 9 \/ op = 10) (hN : 2 * n + 10 <= N) (h : Ht N n ⟨op, 0, [x, y]⟩) (hk : kd ⟨op, 0, [x, y]⟩ = 1) (hx : kd x = 1) (hy : kd y = 1) : Mf N n ⟨op, 0, [x, y]⟩ := by
 have hfull := h
 obtain ⟨m, rfl⟩ := I7 h
 have hxh : Ht N m x := h.2.2 x (List.mem_cons_self ..)
 have fx : Fit N x := ⟨_, hxh, by omega⟩
 have fe : Fit N ⟨op, 0, [x, y]⟩ := ⟨_, hfull, by omega⟩
 have i0 : idx (⟨op, 0, [x, y]⟩ : Expr).Kids 0 = some x := rfl
 have i1 : idx (⟨op, 0, [x, y]⟩ : Expr).Kids 1 = some y := rfl
 have hv : val Hf ⟨op, 0, [x, y]⟩ = if op = 8 then hold (val Hf x + val Hf y) else if op = 9 then hold (val Hf x - val Hf y) else hold (val Hf x * val Hf y) := by
  rw [BL]
  rcases hop with rfl | rfl | rfl <;> rfl
 have hz : mk0 (0 : Int) 14 = some Hf := by unfold mk0; rw [if_pos ⟨by decide, by decide⟩]; rfl
 have h1 : AD N ⟨op, 0, [x, y]⟩ = some (LM op x y) := by
  have core : (((mk0 0 14).bind fun r382 => ((CL N ⟨op, 0, [x, y]⟩ r382).bind fun r396 => some r396)).bind fun j372 => (bif (((x.Op == 1) && (y.Op == 1)) && (decide (j372 >= 0))) then ((B4 N j372).bind fun r417 => some r417) else ((CO N ⟨op, 0, [x, y]⟩ x y).bind fun r428 => some r428))) = some (LM op x y) := by
   rw [hz, Option.bind_some, N2 OP fe (by rw [hk]; decide), Option.bind_some, Option.bind_some, QP hop fx, Option.bind_some]
   unfold LM
   rw [E3 x.Op, E3 y.Op]
   by_cases hx1 : x.Op = 1
   ·by_cases hy1 : y.Op = 1
    ·have e1 := L0 hx hx1
     have e2 := L0 hy hy1
     have : val Hf ⟨op, 0, [x, y]⟩ = GV op x.Value y.Value := by
      rw [hv, e1, e2, NY, NY]; rfl
     rw [this, decide_eq_true hx1, decide_eq_true hy1]
     by_cases h0 : 0 <= GV op x.Value y.Value
     ·rw [decide_eq_true h0]; rfl
     ·rw [decide_eq_false h0]; rfl
    ·rw [decide_eq_false hy1]; simp
   ·rw [decide_eq_false hx1]; simp
  unfold AD
  show (bif (2 : Int) == 0 then _ else _) = _
  rw [show ((2 : Int) == 0) = false from rfl, cond_false, i0, Option.bind_some, i1, Option.bind_some, core]
  rcases hop with rfl | rfl | rfl <;> rfl
 have h2 : AO N ⟨op, 0, [x, y]⟩ = some (LM op x y) := by
  have core : EJ N ⟨op, 0, [x, y]⟩ x y = some (LM op x y) := by
   unfold EJ LM
   rw [E3 x.Op, E3 y.Op]
   have ref : ∀ b : Bool, (x.Op = 1 /\ y.Op = 1 -> b = true) -> b = (decide (x.Op = 1) && decide (y.Op = 1)) -> b = false -> (bif op == 8 then ((B5 N x 0).bind fun r71 => (bif r71 then some y else ((B5 N y 0).bind fun r84 => (bif r84 then some x else some (⟨op, 0, [x, y]⟩ : Expr))))) else (bif (op == 9) then ((B5 N y 0).bind fun r102 => (bif r102 then some x else ((AW N x y).bind fun r115 => (bif r115 then ((Cz N 0).bind fun r125 => some r125) else some ⟨op, 0, [x, y]⟩)))) else (bif (op == 10) then ((B5 N x 1).bind fun r141 => (bif r141 then some y else ((B5 N y 1).bind fun r154 => (bif r154 then some x else (((B5 N x 0).bind fun r177 => (bif r177 then some true else ((B5 N y 0).bind fun r190 => some r190))).bind fun j170 => (bif j170 then ((Cz N 0).bind fun r202 => some r202) else some ⟨op, 0, [x, y]⟩)))))) else some ⟨op, 0, [x, y]⟩))) = some (Gp op x y) := by
    intro _ _ _ _
    unfold Gp
    simp only [Rj, ES fx, Option.bind_some]
    rcases hop with rfl | rfl | rfl
    ·cases cb x 0 <;> cases cb y 0 <;> rfl
    ·cases cb y 0 <;> cases eqv x y <;> rfl
    ·cases cb x 1 <;> cases cb y 1 <;> cases cb x 0 <;> cases cb y 0 <;> rfl
   by_cases hb : (decide (x.Op = 1) && decide (y.Op = 1)) = true
   ·have hb' := hb
    simp only [Bool.and_eq_true, decide_eq_true_eq] at hb'
    obtain ⟨hx1, hy1⟩ := hb'
    have e1 := L0 hx hx1
    have e2 := L0 hy hy1
    obtain ⟨a1, a2, _⟩ := Ny hx hx1
    obtain ⟨b1, b2, _⟩ := Ny hy hy1
    rw [hb, cond_true]
    have hq : Js N ⟨op, 0, [x, y]⟩ [] = some (GV op x.Value y.Value) := by
     obtain ⟨k, hk⟩ : ∃ k, N = k + 2 := ⟨N - 2, by omega⟩
     have := Ri (N := N) (f := []) hop k (by omega) ⟨a1, a2⟩ ⟨b1, b2⟩
     rw [<- e1, <- e2, <- hk] at this
     exact this
    rw [hq, Option.bind_some]
    by_cases h0 : 0 <= GV op x.Value y.Value
    ·rw [decide_eq_true h0]; rfl
    ·rw [decide_eq_false h0]
     have := OB hop a1 b1 (by omega)
     rw [<- e1, <- e2] at this
     rw [this]; rfl
   ·rw [Bool.not_eq_true] at hb
    rw [hb, cond_false, ref false (fun ⟨p, q⟩ => by rw [decide_eq_true p, decide_eq_true q] at hb; cases hb) hb.symm rfl]; rfl
  unfold AO
  simp only [i0, i1, core, Option.bind_some, eta]
  rcases hop with rfl | rfl | rfl <;> rfl
 obtain ⟨r1, r2⟩ := Qc hN hfull hk hx hy
 refine Gc h1 h2 ?_ ?_ ?_
 ·rw [hk]; unfold LM
  split
  ·rename_i hc
   simp only [Bool.and_eq_true, decide_eq_true_eq] at hc
   refine NB hc.2 ?_
   unfold GV
   have := Px
   split
   ·exact (this _).2
   ·split <;> exact (this _).2
  ·exact r1
 ·unfold LM
  split
  ·exact L6 _ (by omega)
  ·exact r2
 ·have hyh : Ht N m y := h.2.2 y (by show y ∈ [x, y]; simp)
  have kx : x ∈ (⟨op, 0, [x, y]⟩ : Expr).Kids := by simp
  have ky : y ∈ (⟨op, 0, [x, y]⟩ : Expr).Kids := by simp
  have vx := fun f (hf : fac f = true) => (Iv hf hxh (by rw [hx]; decide)).2 hx
  have vy := fun f (hf : fac f = true) => (Iv hf hyh (by rw [hy]; decide)).2 hy
  have hnum : ∀ (f : List Int) (z : Expr) (n : Int), cb z n = true -> val f z = n := fun f z n hz => by
   unfold cb at hz
   simp only [Bool.and_eq_true, beq_iff_eq] at hz
   rw [BL, hz.1, <- hz.2]; rfl
  have hvf : ∀ f, val f ⟨op, 0, [x, y]⟩ = GV op (val f x) (val f y) := fun f => by
   rcases hop with rfl | rfl | rfl
   ·rw [OZ]; rfl
   ·rw [OV]; rfl
   ·rw [NZ]; rfl
  unfold LM
  split
  ·rename_i hc
   simp only [Bool.and_eq_true, decide_eq_true_eq] at hc
   refine CW.cst _ fun f _ => ?_
   rw [hvf, BL f x, BL f y, hc.1.1, hc.1.2]; rfl
  ·unfold Gp
   rcases hop with rfl | rfl | rfl
   ·simp only [if_true]
    split
    ·rename_i hc
     refine CW.kid ky fun f hf => ?_
     rw [OZ, hnum f x 0 hc, H6 (by have := vy f hf; omega) (by have := vy f hf; omega)]; omega
    ·split
     ·rename_i hc
      refine CW.kid kx fun f hf => ?_
      rw [OZ, hnum f y 0 hc, H6 (by have := vx f hf; omega) (by have := vx f hf; omega)]; omega
     ·exact CW.self _
   ·simp only [show ¬ (9 : Int) = 8 from by decide, if_false, if_true]
    split
    ·rename_i hc
     refine CW.kid kx fun f hf => ?_
     rw [OV, hnum f y 0 hc, H6 (by have := vx f hf; omega) (by have := vx f hf; omega)]; omega
    ·split
     ·rename_i hc
      refine CW.cst _ fun f _ => ?_
      rw [OV, A2.1 hc, Int.sub_self]; rfl
     ·exact CW.self _
   ·simp only [show ¬ (10 : Int) = 8 from by decide, show ¬ (10 : Int) = 9 from by decide, if_false]
    split
    ·rename_i hc
     refine CW.kid ky fun f hf => ?_
     rw [NZ, hnum f x 1 hc, Int.one_mul, H6 (vy f hf).1 (vy f hf).2]
    ·split
     ·rename_i hc
      refine CW.kid kx fun f hf => ?_
      rw [NZ, hnum f y 1 hc, Int.mul_one, H6 (vx f hf).1 (vx f hf).2]
     ·split
      ·rename_i hc
       rw [Bool.or_eq_true] at hc
       refine CW.cst _ fun f _ => ?_
       rw [NZ]
       rcases hc with hc | hc
       ·rw [hnum f x 0 hc, Int.zero_mul]; rfl
       ·rw [hnum f y 0 hc, Int.mul_zero]; rfl
      ·exact CW.self _
theorem O4 {n : Nat} {e : Expr} (hN : 2 * n + 10 <= N) (h : Ht N n e) (hk : kd e ≠ 0) : Mf N n e := by
 have hm := Hp hk
 have leaf : ∀ t : Int, kd e = t -> e.Kids = [] -> e.Op = 1 \/ e.Op = 2 -> Mf N n e := by
  intro t ht hk' ho
  refine Gc (r := e) ?_ ?_ rfl h (CW.self e)
  ·unfold AD; rw [hk']; rfl
  ·unfold AO; rcases ho with ho | ho <;> rw [ho] <;> rfl
 generalize ht : kd e = t at hm
 cases hm with
 | num ho _ _ hk' => exact leaf _ ht hk' (.inl ho)
 | field ho _ _ hk' => exact leaf _ ht hk' (.inr ho)
 | deny ho hv x hk' hx =>
  obtain rfl : e = ⟨3, 0, [x]⟩ := D6 ho hv hk'
  exact Ot hN h ht hx
 | logic ho hv x y hk' hx hy =>
  obtain ⟨op, he⟩ : ∃ op, e.Op = op := ⟨_, rfl⟩
  rw [he] at ho
  obtain rfl : e = ⟨op, 0, [x, y]⟩ := D6 he hv hk'
  exact Nd ho hN h ht hx hy
 | test ho hv x y hk' hx hy =>
  obtain ⟨op, he⟩ : ∃ op, e.Op = op := ⟨_, rfl⟩
  rw [he] at ho
  obtain rfl : e = ⟨op, 0, [x, y]⟩ := D6 he hv hk'
  exact Oq ho hN h ht hx hy
 | sum ho hv x y hk' hx hy =>
  obtain ⟨op, he⟩ : ∃ op, e.Op = op := ⟨_, rfl⟩
  rw [he] at ho
  obtain rfl : e = ⟨op, 0, [x, y]⟩ := D6 he hv hk'
  exact O3 ho hN h ht hx hy
 | cond ho hv c x y hk' hc hx hy =>
  obtain rfl : e = ⟨11, 0, [c, x, y]⟩ := D6 ho hv hk'
  exact Ou hN h ht hx hy
theorem Pq {e : Expr} (hk : kd e ≠ 0) : e.Kids.length <= 3 /\ ∀ x, x ∈ e.Kids -> kd x ≠ 0 := by
 have hm := Hp hk
 generalize kd e = t at hm
 cases hm with
 | num _ _ _ hk => rw [hk]; exact ⟨by simp, fun x hx => by cases hx⟩
 | field _ _ _ hk => rw [hk]; exact ⟨by simp, fun x hx => by cases hx⟩
 | deny _ _ a hk h1 => rw [hk]; exact ⟨by simp, fun x hx => by simp at hx; subst hx; rw [h1]; decide⟩
 | logic _ _ a b hk h1 h2 => rw [hk]; exact ⟨by simp, fun x hx => by simp at hx; rcases hx with rfl | rfl <;> first | (rw [h1]; decide) | (rw [h2]; decide)⟩
 | test _ _ a b hk h1 h2 => rw [hk]; exact ⟨by simp, fun x hx => by simp at hx; rcases hx with rfl | rfl <;> first | (rw [h1]; decide) | (rw [h2]; decide)⟩
 | sum _ _ a b hk h1 h2 => rw [hk]; exact ⟨by simp, fun x hx => by simp at hx; rcases hx with rfl | rfl <;> first | (rw [h1]; decide) | (rw [h2]; decide)⟩
 | cond _ _ c a b hk h0 h1 h2 => rw [hk]; exact ⟨by simp, fun x hx => by simp at hx; rcases hx with rfl | rfl | rfl <;> first | (rw [h1]; decide) | (rw [h2]; decide) | (rw [h0]; decide)⟩
theorem Ii {R : Nat -> Expr -> Prop} : ∀ {n : Nat}, (∀ i, i < n -> ∃ x, R i x) -> ∃ l : List Expr, l.length = n /\ ∀ i x, l[i]? = some x -> R i x
 | 0, _ => ⟨[], rfl, fun i x h => by simp at h⟩
 | n + 1, h => by
  obtain ⟨l, h1, h2⟩ := Ii (n := n) (fun i hi => h i (by omega))
  obtain ⟨x, hx⟩ := h n (by omega)
  refine ⟨l ++ [x], by simp [h1], fun i y hy => ?_⟩
  rcases Nat.lt_or_ge i l.length with hlt | hge
  ·rw [List.getElem?_append_left hlt] at hy; exact h2 i y hy
  ·rw [List.getElem?_append_right hge] at hy
   have : i - l.length = 0 := by
    rcases Nat.eq_zero_or_pos (i - l.length) with h | h
    ·exact h
    ·rw [List.getElem?_eq_none (by simp; omega)] at hy; cases hy
   rw [this] at hy
   simp at hy
   subst hy
   have : i = n := by omega
   rw [this]; exact hx
theorem N1 {e : Expr} (h : HN e = true) : kd e ≠ 0 := by unfold HN at h; simp at h; exact h.2
end
inductive NF (N : Nat) : Expr -> Prop
 | mk (e : Expr) (h : AD N e = some e) (hk : ∀ x, x ∈ e.Kids -> NF N x) : NF N e
theorem NF.kid {N : Nat} {e x : Expr} (h : NF N e) (hx : x ∈ e.Kids) : NF N x := by cases h with | mk _ _ hk => exact hk x hx
theorem NF.fix {N : Nat} {e : Expr} (h : NF N e) : AD N e = some e := by cases h with | mk _ h _ => exact h
theorem Pl {N : Nat} (c : Int) : NF N ⟨1, c, []⟩ := .mk _ (by unfold AD; rfl) (fun x hx => by cases hx)
section
variable {N : Nat}
theorem QA (hN : 100 < N) {op : Int} (ho : op = 6 \/ op = 7) : NF N ⟨op, 0, [⟨1, 0, []⟩, ⟨1, 0, []⟩]⟩ := by
 refine .mk _ ?_ (fun x hx => by simp at hx; subst hx; exact Pl 0)
 have : AD N ⟨op, 0, [⟨1, 0, []⟩, ⟨1, 0, []⟩]⟩ = some (Hj op ⟨1, 0, []⟩ ⟨1, 0, []⟩) := by
  have fx : Fit N ⟨1, 0, []⟩ := ⟨1, L6 0 (by omega), by omega⟩
  unfold AD Hj
  show (bif (2 : Int) == 0 then _ else _) = _
  rw [show ((2 : Int) == 0) = false from rfl, cond_false]
  rw [show idx (⟨op, 0, [⟨1, 0, []⟩, ⟨1, 0, []⟩]⟩ : Expr).Kids 0 = some ⟨1, 0, []⟩ from rfl, Option.bind_some, show idx (⟨op, 0, [⟨1, 0, []⟩, ⟨1, 0, []⟩]⟩ : Expr).Kids 1 = some ⟨1, 0, []⟩ from rfl, Option.bind_some]
  simp only [Iy fx, Fw, Option.bind_some, Gw]
  rcases ho with rfl | rfl <;> rfl
 rw [this]
 unfold Hj
 rw [Gw]
 rcases ho with rfl | rfl <;> rfl
theorem Qj (hN : 100 < N) {e r : Expr} (hk : ∀ x, x ∈ e.Kids -> NF N x) (hs : AD N e = some r) (hg : CW e r) : NF N r := by
 rcases hg.k with h | h | ⟨x, hx, h⟩ | ⟨c, h⟩ | h | h
 ·subst h; exact .mk _ hs hk
 ·exact hk _ h
 ·exact (hk x hx).kid h
 ·subst h; exact Pl c
 ·subst h; exact QA hN (.inl rfl)
 ·subst h; exact QA hN (.inr rfl)
theorem Ll {k : Nat} {e : Expr} {l : List Expr} (hl : e.Kids.length <= 3) (h1 : e.Kids.length < N) (hll : l.length = e.Kids.length) (g : ∀ i (hi : i < e.Kids.length), (Fu N k).q94 e.Kids[i] = some (l[i]'(by omega))) : (Fu N (k + 1)).q94 e = AD N ⟨e.Op, e.Value, l⟩ := by
 have hcat : cat e.Kids.length (fun i => [l[i]?.getD zE]) = l := by
  rw [<- hll]
  have : ∀ m, m <= l.length -> cat m (fun i => [l[i]?.getD zE]) = l.take m := by
   intro m
   induction m with
   | zero => intro _; simp [cat]
   | succ m ih => intro hm; rw [Il, ih (by omega), List.take_succ_eq_append_getElem (by omega), List.getElem?_eq_getElem (by omega)]; rfl
  rw [this _ (Nat.le_refl _), List.take_length]
 show Cy N (Fu N k).q94 e = _
 unfold Cy
 have hit : Br (BO N (Fu N k).q94 e) N (0, []) = some (.done ((e.Kids.length : Int), ([] : List Expr) ++ cat e.Kids.length (fun i => [l[i]?.getD zE]))) := by
  refine Pt 1 _ (fun i hi => by simp) (fun i s hi hs => ?_) (fun s => ?_) h1
  ·unfold BO
   simp only
   rw [KW hi, cond_true, CA hi, Option.bind_some, g i hi, Option.bind_some, J2 (by simp at hs ⊢; omega), Option.bind_some, Option.bind_some, FB (by omega), List.getElem?_eq_getElem (by omega)]
   rfl
  ·unfold BO; simp only; rw [L2, cond_false]
 rw [hit, hcat]
 simp only [Option.bind_some, BX.k, List.nil_append]
 cases AD N ⟨e.Op, e.Value, l⟩ <;> rfl
theorem Pk : ∀ {n k : Nat} {e : Expr}, NF N e -> Ht N n e -> n <= k -> kd e ≠ 0 -> (Fu N k).q94 e = some e
 | 0, _, _, _, h, _, _ => h.elim
 | n + 1, 0, _, _, _, h, _ => absurd h (by omega)
 | n + 1, k + 1, e, hn, ⟨h1, h2, h3⟩, hk, h0 => by
  rw [Ll (k := k) (l := e.Kids) (Pq h0).1 h1 rfl (fun i hi => Pk (hn.kid (List.getElem_mem hi)) (h3 _ (List.getElem_mem hi)) (by omega) (QR h0 (List.getElem_mem hi)))]
  rw [eta]; exact hn.fix
theorem Kr : ∀ (l m : List Nat), l.length = m.length -> (∀ i (h : i < l.length) (h' : i < m.length), l[i] <= m[i]) -> l.sum <= m.sum
 | [], [], _, _ => Nat.le_refl _
 | x :: l, y :: m, hl, hi => by
  rw [List.sum_cons, List.sum_cons]
  have := Kr l m (by simpa using hl) (fun i h h' => hi (i + 1) (by simpa using h) (by simpa using h'))
  have h0 := hi 0 (by simp) (by simp)
  simp at h0; omega
 | [], _ :: _, hl, _ => by simp at hl
 | _ :: _, [], hl, _ => by simp at hl
structure LI (N : Nat) (e r : Expr) : Prop where
 k : kd r = kd e
 n : NF N r
 v : ∀ f, fac f = true -> val f r = val f e
 s : sz r <= sz e
 d : dN r <= dN e
 f : ∀ v, v ∈ EA r -> v ∈ EA e
theorem Lm (hN' : 100 < N) : ∀ {n k : Nat} {e : Expr}, 2 * n + 10 <= N -> Ht N n e -> n <= k -> kd e ≠ 0 -> ∃ r, (Fu N k).q94 e = some r /\ Ht N n r /\ LI N e r
 | 0, _, _, _, h, _, _ => h.elim
 | n + 1, 0, _, _, _, h, _ => absurd h (by omega)
 | n + 1, k + 1, e, hN, h, hk, h0 => by
  obtain ⟨h1, h2, h3⟩ := h
  obtain ⟨hl, hkz⟩ := Pq h0
  have ih : ∀ i, i < e.Kids.length -> ∃ r, ∀ x, e.Kids[i]? = some x -> (Fu N k).q94 x = some r /\ Ht N n r /\ LI N x r := fun i hi => by
   obtain ⟨r, hr⟩ := Lm hN' (n := n) (k := k) (e := e.Kids[i]) (by omega) (h3 _ (List.getElem_mem hi)) (by omega) (hkz _ (List.getElem_mem hi))
   exact ⟨r, fun x hx => by rw [List.getElem?_eq_getElem hi] at hx; cases hx; exact hr⟩
  obtain ⟨l, hll, hlr⟩ : ∃ l : List Expr, l.length = e.Kids.length /\ ∀ i r, l[i]? = some r -> ∀ x, e.Kids[i]? = some x -> (Fu N k).q94 x = some r /\ Ht N n r /\ LI N x r := Ii ih
  have g : ∀ i (hi : i < e.Kids.length), (Fu N k).q94 e.Kids[i] = some (l[i]'(by omega)) /\ Ht N n (l[i]'(by omega)) /\ LI N e.Kids[i] (l[i]'(by omega)) := fun i hi => hlr i _ (List.getElem?_eq_getElem (by omega)) _ (List.getElem?_eq_getElem hi)
  have gm : ∀ x, x ∈ l -> ∃ y, y ∈ e.Kids /\ Ht N n x /\ LI N y x := fun x hx => by
   obtain ⟨i, hi, rfl⟩ := List.getElem_of_mem hx
   exact ⟨_, List.getElem_mem (show i < e.Kids.length by omega), (g i (by omega)).2⟩
  have hmap : ∀ {β : Type} (F : Expr -> β), (∀ i (hi : i < e.Kids.length), F (l[i]'(by omega)) = F e.Kids[i]) -> l.map F = e.Kids.map F := fun F hF => by
   apply List.ext_getElem (by simp [hll])
   intro i a b
   simp only [List.getElem_map]
   exact hF i (by simpa using b)
  have hk' : kd ⟨e.Op, e.Value, l⟩ = kd e := by
   rw [Ly, Ly (e := e)]; simp only [hmap kd fun i hi => (g i hi).2.2.k]
  have hh : Ht N (n + 1) ⟨e.Op, e.Value, l⟩ := ⟨by show l.length < N; omega, by show l.length < _; omega, fun x hx => by
   obtain ⟨_, _, h, _⟩ := gm x hx; exact h⟩
  obtain ⟨r, r1, r2, r3, r4, r5⟩ := O4 hN hh (by rw [hk']; exact h0)
  have hs : sz ⟨e.Op, e.Value, l⟩ <= sz e := by
   rw [ER, ER e]
   have := Kr (l.map sz) (e.Kids.map sz) (by simp [hll]) (fun i a b => by simp only [List.getElem_map]; exact (g i (by simpa using b)).2.2.s)
   simp only; omega
  have hd : dN ⟨e.Op, e.Value, l⟩ <= dN e := by
   rw [Jw, Jw e]
   have := LB (l.map dN) (e.Kids.map dN) 0 0 (Nat.le_refl _) (by simp [hll]) (fun i a b => by simp only [List.getElem_map]; exact (g i (by simpa using b)).2.2.d)
   simp only; omega
  refine ⟨r, ?_, r4, by rw [r3, hk'], Qj hN' (fun x hx => ?_) r1 r5, fun f hf => ?_, Nat.le_trans r5.s hs, Nat.le_trans r5.d hd, fun v hv => ?_⟩
  ·rw [Ll (k := k) hl h1 hll (fun i hi => (g i hi).1)]; exact r1
  ·obtain ⟨_, _, _, h⟩ := gm x hx; exact h.n
  ·rw [r5.v f hf, BL, BL f e]; simp only [hmap (val f) fun i hi => (g i hi).2.2.v f hf]
  ·have := r5.f v hv
   rw [E4] at this
   rw [E4 e]
   rcases List.mem_append.1 this with h | h
   ·exact List.mem_append_left _ h
   ·refine List.mem_append_right _ ?_
    obtain ⟨m, hm, h⟩ := List.mem_flatten.1 h
    obtain ⟨x, hx, rfl⟩ := List.mem_map.1 hm
    obtain ⟨y, hy, _, hk⟩ := gm x hx
    exact List.mem_flatten.2 ⟨_, List.mem_map_of_mem hy, hk.f v h⟩
end
theorem MZ : ∀ (n : Nat) (e : Expr), sz e <= n -> dN e <= sz e
 | 0, e, h => by have := Iw e; omega
 | n + 1, e, h => by
  rw [Jw, ER e]
  have : ∀ (l : List Expr) (a b : Nat), a <= b -> (∀ x, x ∈ l -> x ∈ e.Kids) -> (l.map dN).foldl max a <= b + (l.map sz).sum := by
   intro l
   induction l with
   | nil => intro a b hab _; simpa using hab
   | cons x l ih =>
    intro a b hab hl
    have hx := hl x (by simp)
    have h2 := MZ n x (by have := FL hx; omega)
    have := ih (max a (dN x)) (b + sz x) (by omega) (fun y hy => hl y (by simp [hy]))
    rw [List.map_cons, List.foldl_cons, List.map_cons, List.sum_cons]
    omega
  have := this e.Kids 0 0 (Nat.le_refl _) (fun _ h => h)
  omega
theorem MY : ∀ (n : Nat) (e : Expr), sz e <= n -> sz e < 4294967296 -> dp e = (dN e : Int)
 | 0, e, h, _ => by have := Iw e; omega
 | n + 1, e, h, h2 => by
  have hd := MZ _ e (Nat.le_refl _)
  rw [QF]
  have : ∀ (l : List Expr) (a : Nat), (∀ x, x ∈ l -> x ∈ e.Kids) -> l.foldl (fun s x => max s (dp x)) (a : Int) = (((l.map dN).foldl max a : Nat) : Int) := by
   intro l
   induction l with
   | nil => intro a _; rfl
   | cons x l ih =>
    intro a hl
    have hx := FL (hl x (by simp))
    rw [List.foldl_cons, List.map_cons, List.foldl_cons, MY n x (by omega) (by omega), <- ih _ (fun y hy => hl y (by simp [hy]))]
    congr 1; omega
  have := this e.Kids 0 (fun _ h => h)
  rw [show ((0 : Nat) : Int) = 0 from rfl] at this
  rw [this]
  rw [Jw] at hd ⊢
  rw [C6 (by omega) (by omega)]; omega
theorem Pm : ∀ (n : Nat) (e : Expr), sz e <= n -> sz e < 4294967296 -> nd e = (sz e : Int)
 | 0, e, h, _ => by have := Iw e; omega
 | n + 1, e, h, h2 => by
  rw [QB]
  have hse := ER e
  have : ∀ (l : List Expr) (a : Nat), (∀ x, x ∈ l -> x ∈ e.Kids) -> a + (l.map sz).sum < 4294967296 -> l.foldl (fun s x => W64 (s + nd x)) (a : Int) = ((a + (l.map sz).sum : Nat) : Int) := by
   intro l
   induction l with
   | nil => intro a _ _; simp
   | cons x l ih =>
    intro a hl hb
    have hx := FL (hl x (by simp))
    rw [List.map_cons, List.sum_cons] at hb ⊢
    rw [List.foldl_cons, Pm n x (by omega) (by omega), C6 (by omega) (by omega)]
    have := ih (a + sz x) (fun y hy => hl y (by simp [hy])) (by omega)
    rw [show ((a : Int) + (sz x : Int)) = ((a + sz x : Nat) : Int) by omega, this]; omega
  have := this e.Kids 1 (fun _ h => h) (by omega)
  rw [show ((1 : Nat) : Int) = 1 from rfl] at this
  rw [this]; omega
def Cn (N : Nat) (x0 : Expr) (x1 : (List Int)) (r24 : Bool) (j35 : Bool) (r57 : (Expr × Int)) (r79 : (Expr × Int)) (r92 : (Int × Int)) (r100 : (Int × Int)) (r108 : (Int × Int)) (r116 : (Int × Int)) (j127 : Bool) (j169 : Bool) (r215 : (List Int)) (r223 : (List Int)) (s234 : (Int × Int)) : Int -> Option (BX Bool Int) := fun s262 =>
 ((bif (decide (s262 < (r215.length : Int))) then ((idx r215 s262).bind fun x306 => ((idx r223 s234.2).bind fun x320 => some (decide (x306 < x320)))) else some false).bind fun j293 => (bif j293 then some (.next (W64 (s262 + 1))) else some (.done s262)))
def BQ (N : Nat) (x0 : Expr) (x1 : (List Int)) (r24 : Bool) (j35 : Bool) (r57 : (Expr × Int)) (r79 : (Expr × Int)) (r92 : (Int × Int)) (r100 : (Int × Int)) (r108 : (Int × Int)) (r116 : (Int × Int)) (j127 : Bool) (j169 : Bool) (r215 : (List Int)) (r223 : (List Int)) : (Int × Int) -> Option (BX Bool (Int × Int)) := fun s234 =>
 (bif (decide (s234.2 < (r223.length : Int))) then ((Br (Cn N x0 x1 r24 j35 r57 r79 r92 r100 r108 r116 j127 j169 r215 r223 s234) N s234.1).bind fun o => o.k (fun r => some (.ret r)) (fun s272 => ((bif (s272 == (r215.length : Int)) then some true else ((idx r215 s272).bind fun x358 => ((idx r223 s234.2).bind fun x372 => some (x358 != x372)))).bind fun j345 => (bif j345 then some (.ret false) else some (.next (s272, (W64 (s234.2 + 1)))))))) else some (.done (s234.1, s234.2)))
def C2 (N : Nat) (x0 : Expr) (x1 : (List Int)) : Option Bool :=
 ((Gt N ).bind fun r24 => (((Dp N x0).bind fun r43 => (bif (decide (r43 > 400)) then some true else some (decide ((x1.length : Int) > 40)))).bind fun j35 => (bif j35 then some r24 else ((BE N x0).bind fun r57 => (bif (r57.2 != 0) then some (r24 && ((r57.1.Kids.length : Int) == 0)) else ((BE N r57.1).bind fun r79 => ((DO N x0).bind fun r92 => ((DO N r57.1).bind fun r100 => ((EI N x0 x1).bind fun r108 => ((EI N r57.1 x1).bind fun r116 => ((bif (r79.2 != 0) then some true else (bif (r92.2 != 0) then some true else (bif (r100.2 != 0) then some true else (bif (r92.1 != r100.1) then some true else (bif (r108.2 != r116.2) then some true else (bif (r108.1 != r116.1) then some true else ((AW N r57.1 r79.1).bind fun r153 => some (!r153)))))))).bind fun j127 => (bif j127 then some false else (((Dp N r57.1).bind fun r177 => ((Dp N x0).bind fun r185 => (bif (decide (r177 > r185)) then some true else ((Do N r57.1).bind fun r196 => ((Do N x0).bind fun r204 => some (decide (r196 > r204))))))).bind fun j169 => (bif j169 then some false else ((DA N x0).bind fun r215 => ((DA N r57.1).bind fun r223 => ((Br (BQ N x0 x1 r24 j35 r57 r79 r92 r100 r108 r116 j127 j169 r215 r223) N (0, 0)).bind fun o => o.k (fun r => some r) (fun s244 => some r24))))))))))))))))))
theorem HI (N : Nat) (w0 : World) (F0 : Mem) (hF : Sz w0 F0) (hG : CI F0) (x0 : Expr) (a0_2 : Sy) (n0_2 : Nat) (hb0_2 : LC x0.Kids.length n0_2) (hs0_2 : SlA Ao F0 a0_2 x0.Kids) (x1 : (List Int)) (a1_0 : Sy) (n1_0 : Nat) (hb1_0 : LC x1.length n1_0) (hs1_0 : SlA Bu F0 a1_0 x1) (r : Bool) (h : C2 N x0 x1 = some r) :
  Calls Tryz.prog 20 ([(.agg (Ae x0 a0_2 n0_2)), (.slice a1_0 x1.length n1_0)] : List Value).toArray w0 (AU w0 F0 fun F' v => v = (.bool r)) := by
 have hs0 := R7 hF
 refine Go 159 Tryz.func20 ?_
 refine Sq (Rg [0, 1] ?_)
 refine Bx' 33 (Ae x0 a0_2 n0_2) hs0 (fun b21 w22 hs23 => ?_)
 refine Vs 1 ?_
 refine Nss (Rg [0, 1] ?_)
 obtain ⟨r24, hr25, h26⟩ := bind_some h
 refine Cl' KB hs23 (Lh N w22 F0 hs23.pers hG  _ hr25) ?_
 rintro _ F1 w28 hs29 le30 rfl
 refine Vs 1 ?_
 refine Nss ?_
 refine Sq (Rg [0, 1, 2, 3, 4, 5, 6, 7] ?_)
 obtain ⟨j35, hj41, h42⟩ := bind_some h26
 refine Sb (fun f w => ∃ (F2 : Mem), HS w0 F0 w F2 [(sb b21 (Ae x0 a0_2 n0_2) 33)] /\ R5 F1 F2 /\ FI f [] [(1, (.slice a1_0 x1.length n1_0)), (2, (pt b21 0)), (5, (.bool r24)), (30, (.bool j35))]) ?_ ?_
 ·refine Ld hs29.at0 ?_
  obtain ⟨r43, hr44, h45⟩ := bind_some hj41
  refine Cl' EM hs29 (Fh N w28 F1 hs29.pers x0 a0_2 n0_2 hb0_2 (R8 hs0_2 le30) _ hr44) ?_
  rintro _ F3 w47 hs48 le49 rfl
  refine Vs 2 ?_
  refine Sp h45 (fun hb51 h52 => ?_) (fun hb51 h53 => ?_)
  ·refine Ss hb51 3 ?_
   refine Pk1 hb51 ?_
   obtain rfl := Aa h52
   exact RY ⟨rfl, F3, hs48, le49, fI⟩
  ·refine Vgs hb51 3 ?_
   refine Pk0 hb51 ?_
   obtain rfl := Aa h53
   exact RY ⟨rfl, F3, hs48, le49, fI⟩
 ·rintro f w32 ⟨F2, hs33, le34, ⟨_, rfl⟩⟩
  refine Ac ?_
  refine Cd h42 (fun hb54 h55 => ?_) (fun hb54 h56 => ?_)
  ·refine Sq (Rg [0, 1] ?_)
   refine Vs 2 ?_
   refine Nt ?_
   refine Rt ?_
   refine Af ?_
   obtain rfl := Aa h55
   exact Re [(.bool r24)] hs33 rfl
  ·refine Sc ?_
   refine Ac ?_
   refine Sq (Rg [0, 1, 2, 3, 4, 5, 6, 7] ?_)
   refine Ld hs33.at0 ?_
   obtain ⟨r57, hr58, h59⟩ := bind_some h56
   refine Cl' DC hs33 (DQ N w32 F2 hs33.pers x0 a0_2 n0_2 hb0_2 (R8 hs0_2 (le30.trans le34)) _ hr58) ?_
   rintro _ F4 w61 hs62 le63 ⟨ar57_0_2, nr57_0_2, rfl, hbr57_0_2, hsr57_0_2⟩
   refine Vs 3 ?_
   refine Al' 33 #[(vi 0), (vi 0), (.slice none ([] : List Expr).length 0)] hs62 (fun b65 w66 hs67 => ?_)
   refine St0 (Ae r57.1 ar57_0_2 nr57_0_2) hs67 (fun w68 hs69 => ?_)
   refine Vs 1 ?_
   refine Nss ?_
   refine Sq (Rg [0, 1] ?_)
   refine Vs 2 ?_
   refine Nt ?_
   refine Cd h59 (fun hb70 h71 => ?_) (fun hb70 h72 => ?_)
   ·refine Sq (Rg [0, 1, 2, 3, 4, 5, 6, 7] ?_)
    refine Sb (fun f w => ∃ (F5 : Mem), HS w0 F0 w F5 [] /\ R5 F4 F5 /\ FI f [] [(4, (.bool (r24 && ((r57.1.Kids.length : Int) == 0))))]) ?_ ?_
    ·refine Vs 2 ?_
     refine Sa r24 (fun hb78 => ?_) (fun hb78 => ?_)
     ·refine Vgs hb78 1 ?_
      refine Lg hb78 hs69.at0 ?_
      refine Vgs hb78 2 ?_
      refine Pk1 hb78 ?_
      refine Vs 1 ?_
      exact RY ⟨rfl, F4, hs69.dr0.dr0, (R6 _), (fJ ⟨(congrArg Value.bool (Dc hb78 rfl)), trivial⟩)⟩
     ·refine Ss hb78 4 ?_
      refine Pk0 hb78 ?_
      refine Vs 1 ?_
      exact RY ⟨rfl, F4, hs69.dr0.dr0, (R6 _), (fJ ⟨(congrArg Value.bool (E8 hb78 rfl)), trivial⟩)⟩
    ·rintro f w73 ⟨F5, hs74, le75, ⟨_, rfl⟩⟩
     refine Ac ?_
     refine Rt ?_
     refine Af ?_
     obtain rfl := Aa h71
     exact Re [(.bool (r24 && ((r57.1.Kids.length : Int) == 0)))] hs74 rfl
   ·refine Sc ?_
    refine Ac ?_
    refine Sq (Rg [0, 1, 2, 3, 4, 5, 6, 7] ?_)
    refine Ld hs69.at0 ?_
    obtain ⟨r79, hr80, h81⟩ := bind_some h72
    refine Cl' DC hs69 (DQ N w68 F4 hs69.pers r57.1 ar57_0_2 nr57_0_2 hbr57_0_2 hsr57_0_2 _ hr80) ?_
    rintro _ F6 w83 hs84 le85 ⟨ar79_0_2, nr79_0_2, rfl, hbr79_0_2, hsr79_0_2⟩
    refine Vs 3 ?_
    refine Al' 33 #[(vi 0), (vi 0), (.slice none ([] : List Expr).length 0)] hs84 (fun b87 w88 hs89 => ?_)
    refine St0 (Ae r79.1 ar79_0_2 nr79_0_2) hs89 (fun w90 hs91 => ?_)
    refine Vs 1 ?_
    refine Nss (Rg [0, 1, 2, 3, 4, 5, 6] ?_)
    refine Ld hs91.at2 ?_
    obtain ⟨r92, hr93, h94⟩ := bind_some h81
    refine Cl' Hu hs91 (Io N w90 F6 hs91.pers x0 a0_2 n0_2 hb0_2 (R8 hs0_2 (((le30.trans le34).trans le63).trans le85)) _ hr93) ?_
    rintro _ F7 w96 hs97 le98 rfl
    refine Vs 5 ?_
    refine Nss (Rg [0, 1, 2, 3, 4, 5, 6] ?_)
    refine Ld hs97.at1 ?_
    obtain ⟨r100, hr101, h102⟩ := bind_some h94
    refine Cl' Hu hs97 (Io N w96 F7 hs97.pers r57.1 ar57_0_2 nr57_0_2 hbr57_0_2 (R8 hsr57_0_2 (le85.trans le98)) _ hr101) ?_
    rintro _ F8 w104 hs105 le106 rfl
    refine Vs 5 ?_
    refine Nss (Rg [0, 1, 2, 3, 4, 5, 6, 7] ?_)
    refine Ld hs105.at2 ?_
    refine Vs 1 ?_
    obtain ⟨r108, hr109, h110⟩ := bind_some h102
    refine Cl' Hv hs105 (Iq N w104 F8 hs105.pers x0 a0_2 n0_2 hb0_2 (R8 hs0_2 (((((le30.trans le34).trans le63).trans le85).trans le98).trans le106)) x1 a1_0 n1_0 hb1_0 (R8 hs1_0 (((((le30.trans le34).trans le63).trans le85).trans le98).trans le106)) _ hr109) ?_
    rintro _ F9 w112 hs113 le114 rfl
    refine Vs 5 ?_
    refine Nss (Rg [0, 1, 2, 3, 4, 5, 6, 7] ?_)
    refine Ld hs113.at1 ?_
    refine Vs 1 ?_
    obtain ⟨r116, hr117, h118⟩ := bind_some h110
    refine Cl' Hv hs113 (Iq N w112 F9 hs113.pers r57.1 ar57_0_2 nr57_0_2 hbr57_0_2 (R8 hsr57_0_2 (((le85.trans le98).trans le106).trans le114)) x1 a1_0 n1_0 hb1_0 (R8 hs1_0 ((((((le30.trans le34).trans le63).trans le85).trans le98).trans le106).trans le114)) _ hr117) ?_
    rintro _ F10 w120 hs121 le122 rfl
    refine Vs 5 ?_
    refine Nss ?_
    refine Sq (Rg [0, 1, 2, 3, 4, 5, 6, 7, 8, 9, 10, 11, 12, 13, 14, 15, 16, 17, 18, 19, 20, 21, 22, 23, 24, 25, 26, 27, 28, 29, 30] ?_)
    obtain ⟨j127, hj133, h134⟩ := bind_some h118
    refine Sb (fun f w => ∃ (F11 : Mem), HS w0 F0 w F11 [(sb b65 (Ae r57.1 ar57_0_2 nr57_0_2) 33), (sb b21 (Ae x0 a0_2 n0_2) 33)] /\ R5 F10 F11 /\ FI f [] [(2, (pt b21 0)), (5, (.bool r24)), (6, (pt b65 0)), (103, (.bool j127))]) ?_ ?_
    ·refine Vs 3 ?_
     refine Sp hj133 (fun hb135 h136 => ?_) (fun hb135 h137 => ?_)
     ·refine Ss hb135 2 ?_
      refine Pk1 hb135 ?_
      refine Vs 1 ?_
      refine Ss (rfl : true = true) 2 ?_
      refine Pk1 (rfl : true = true) ?_
      refine Vs 1 ?_
      refine Ss (rfl : true = true) 3 ?_
      refine Pk1 (rfl : true = true) ?_
      refine Vs 1 ?_
      refine Ss (rfl : true = true) 3 ?_
      refine Pk1 (rfl : true = true) ?_
      refine Vs 1 ?_
      refine Ss (rfl : true = true) 3 ?_
      refine Pk1 (rfl : true = true) ?_
      refine Vs 1 ?_
      refine Ss (rfl : true = true) 4 ?_
      refine Pk1 (rfl : true = true) ?_
      obtain rfl := Aa h136
      exact RY ⟨rfl, F10, hs121.dr0, (R6 _), fI⟩
     ·refine Vgs hb135 2 ?_
      refine Pk0 hb135 ?_
      refine Vs 1 ?_
      refine Sp h137 (fun hb138 h139 => ?_) (fun hb138 h140 => ?_)
      ·refine Ss hb138 2 ?_
       refine Pk1 hb138 ?_
       refine Vs 1 ?_
       refine Ss (rfl : true = true) 3 ?_
       refine Pk1 (rfl : true = true) ?_
       refine Vs 1 ?_
       refine Ss (rfl : true = true) 3 ?_
       refine Pk1 (rfl : true = true) ?_
       refine Vs 1 ?_
       refine Ss (rfl : true = true) 3 ?_
       refine Pk1 (rfl : true = true) ?_
       refine Vs 1 ?_
       refine Ss (rfl : true = true) 4 ?_
       refine Pk1 (rfl : true = true) ?_
       obtain rfl := Aa h139
       exact RY ⟨rfl, F10, hs121.dr0, (R6 _), fI⟩
      ·refine Vgs hb138 2 ?_
       refine Pk0 hb138 ?_
       refine Vs 1 ?_
       refine Sp h140 (fun hb141 h142 => ?_) (fun hb141 h143 => ?_)
       ·refine Ss hb141 3 ?_
        refine Pk1 hb141 ?_
        refine Vs 1 ?_
        refine Ss (rfl : true = true) 3 ?_
        refine Pk1 (rfl : true = true) ?_
        refine Vs 1 ?_
        refine Ss (rfl : true = true) 3 ?_
        refine Pk1 (rfl : true = true) ?_
        refine Vs 1 ?_
        refine Ss (rfl : true = true) 4 ?_
        refine Pk1 (rfl : true = true) ?_
        obtain rfl := Aa h142
        exact RY ⟨rfl, F10, hs121.dr0, (R6 _), fI⟩
       ·refine Vgs hb141 3 ?_
        refine Pk0 hb141 ?_
        refine Vs 1 ?_
        refine Sp h143 (fun hb144 h145 => ?_) (fun hb144 h146 => ?_)
        ·refine Ss hb144 3 ?_
         refine Pk1 hb144 ?_
         refine Vs 1 ?_
         refine Ss (rfl : true = true) 3 ?_
         refine Pk1 (rfl : true = true) ?_
         refine Vs 1 ?_
         refine Ss (rfl : true = true) 4 ?_
         refine Pk1 (rfl : true = true) ?_
         obtain rfl := Aa h145
         exact RY ⟨rfl, F10, hs121.dr0, (R6 _), fI⟩
        ·refine Vgs hb144 3 ?_
         refine Pk0 hb144 ?_
         refine Vs 1 ?_
         refine Sp h146 (fun hb147 h148 => ?_) (fun hb147 h149 => ?_)
         ·refine Ss hb147 3 ?_
          refine Pk1 hb147 ?_
          refine Vs 1 ?_
          refine Ss (rfl : true = true) 4 ?_
          refine Pk1 (rfl : true = true) ?_
          obtain rfl := Aa h148
          exact RY ⟨rfl, F10, hs121.dr0, (R6 _), fI⟩
         ·refine Vgs hb147 3 ?_
          refine Pk0 hb147 ?_
          refine Vs 1 ?_
          refine Sp h149 (fun hb150 h151 => ?_) (fun hb150 h152 => ?_)
          ·refine Ss hb150 4 ?_
           refine Pk1 hb150 ?_
           obtain rfl := Aa h151
           exact RY ⟨rfl, F10, hs121.dr0, (R6 _), fI⟩
          ·refine Lg hb150 hs121.at1 ?_
           refine Lg hb150 hs121.at0 ?_
           obtain ⟨r153, hr154, h155⟩ := bind_some h152
           refine Cg hb150 GL hs121 (Le N w120 F10 hs121.pers r57.1 ar57_0_2 nr57_0_2 hbr57_0_2 (R8 hsr57_0_2 ((((le85.trans le98).trans le106).trans le114).trans le122)) r79.1 ar79_0_2 nr79_0_2 hbr79_0_2 (R8 hsr79_0_2 (((le98.trans le106).trans le114).trans le122)) _ hr154) ?_
           rintro _ F12 w157 hs158 le159 rfl
           refine Vgs hb150 1 ?_
           refine Pk0 hb150 ?_
           obtain rfl := Aa h155
           exact RY ⟨rfl, F12, hs158.dr0, le159, fI⟩
    ·rintro f w124 ⟨F11, hs125, le126, ⟨_, rfl⟩⟩
     refine Ac ?_
     refine Cd h134 (fun hb161 h162 => ?_) (fun hb161 h163 => ?_)
     ·refine Sq (Rg [0] ?_)
      refine Vs 1 ?_
      refine Nt ?_
      refine Rt ?_
      refine Af ?_
      obtain rfl := Aa h162
      exact Re [(.bool false)] hs125 rfl
     ·refine Sc ?_
      refine Ac ?_
      refine Sq ?_
      refine Sq ?_
      obtain ⟨j169, hj175, h176⟩ := bind_some h163
      refine RD 12 12 [(sb b65 (Ae r57.1 ar57_0_2 nr57_0_2) 33), (sb b21 (Ae x0 a0_2 n0_2) 33)] [] hs125 (fun f w => ∃ (F13 : Mem), HS w0 F0 w F13 [(sb b65 (Ae r57.1 ar57_0_2 nr57_0_2) 33), (sb b21 (Ae x0 a0_2 n0_2) 33)] /\ R5 F11 F13 /\ FI f [] [(2, (pt b21 0)), (5, (.bool r24)), (6, (pt b65 0)), (115, (.bool j169))]) (fun wd164 hw165 => ?_) ?_
      ·refine Dl 0 (fun _ hq => (hq.1.2 0 _ _ rfl)) ?_
       refine Dl 2 (fun _ hq => (hq.1.2 1 _ _ rfl)) ?_
       refine D1 1 ?_
       obtain ⟨r177, hr178, h179⟩ := bind_some hj175
       refine DCl EM hw165 (Fh N wd164 F11 hw165.pers r57.1 ar57_0_2 nr57_0_2 hbr57_0_2 (R8 hsr57_0_2 (((((le85.trans le98).trans le106).trans le114).trans le122).trans le126)) _ hr178) ?_
       rintro _ F14 w181 hs182 le183 rfl
       refine D1 3 ?_
       obtain ⟨r185, hr186, h187⟩ := bind_some h179
       refine DCl EM hs182 (Fh N w181 F14 hs182.pers x0 a0_2 n0_2 hb0_2 (R8 hs0_2 (((((((((le30.trans le34).trans le63).trans le85).trans le98).trans le106).trans le114).trans le122).trans le126).trans le183)) _ hr186) ?_
       rintro _ F15 w189 hs190 le191 rfl
       refine Dv [4, 5] ?_
       refine Sd h187 (fun hb193 h194 => ?_) (fun hb193 h195 => ?_)
       ·refine Dk [(6, 110), (7, 111), (8, 112), (9, 113), (10, 114)] 5 false 109 hb193 ?_
        refine Dt 11 115 4 _ (fun _ hq => p1 109 (.const (.bool true)) (.tmp 114) (.bool true) hb193) ?_
        obtain rfl := Aa h194
        exact Sm (by kernel_rfl) ⟨F15, hs190, (le183.trans le191), fI⟩
       ·refine Dg 6 110 33 _ 5 false 109 hb193 (fun _ hq => ld 33 6 b65 0 true 3 (.agg (Ae r57.1 ar57_0_2 nr57_0_2)) (hq.1.2 0 _ _ rfl)) ?_
        refine Dg 8 112 33 _ 5 false 109 hb193 (fun _ hq => ld 33 2 b21 0 true 3 (.agg (Ae x0 a0_2 n0_2)) (hq.1.2 1 _ _ rfl)) ?_
        refine D1 7 ?_
        obtain ⟨r196, hr197, h198⟩ := bind_some h195
        refine Az.call (l' := [true, true, true, true, true, true, true, true, true, false, false, false]) (zd := true) (by kernel_rfl) (by kernel_rfl) (by kernel_rfl) (dst := (some 111)) (ty := 3) (g := (some (5, false))) (by kernel_rfl) (K5 (d := 109) (by kernel_rfl) rfl hb193) (f0 := (.func 32)) (aos := #[(.tmp 110)]) (ats := #[33]) (fid := 32) (first := #[]) (cap := #[]) (args := [(.agg (Ae r57.1 ar57_0_2 nr57_0_2))]) rfl CV rfl hs190 (D2 N w189 F15 hs190.pers r57.1 ar57_0_2 nr57_0_2 hbr57_0_2 (R8 hsr57_0_2 (((((((le85.trans le98).trans le106).trans le114).trans le122).trans le126).trans le183).trans le191)) _ hr197) ?_
        rintro _ F16 w200 hs201 le202 rfl
        refine D1 9 ?_
        obtain ⟨r204, hr205, h206⟩ := bind_some h198
        refine Az.call (l' := [true, true, true, true, true, true, true, true, true, true, false, false]) (zd := true) (by kernel_rfl) (by kernel_rfl) (by kernel_rfl) (dst := (some 113)) (ty := 3) (g := (some (5, false))) (by kernel_rfl) (K5 (d := 109) (by kernel_rfl) rfl hb193) (f0 := (.func 32)) (aos := #[(.tmp 112)]) (ats := #[33]) (fid := 32) (first := #[]) (cap := #[]) (args := [(.agg (Ae x0 a0_2 n0_2))]) rfl CV rfl hs201 (D2 N w200 F16 hs201.pers x0 a0_2 n0_2 hb0_2 (R8 hs0_2 (((((((((((le30.trans le34).trans le63).trans le85).trans le98).trans le106).trans le114).trans le122).trans le126).trans le183).trans le191).trans le202)) _ hr205) ?_
        rintro _ F17 w208 hs209 le210 rfl
        refine Dg 10 114 4 (.bool (decide (r196 > r204))) 5 false 109 hb193 (fun _ hq => LW (t := 3) (t' := 3) (x := (.tmp 111)) (y := (.tmp 113)) (k := .i64) (a := r196) (b := r204) rfl rfl) ?_
        refine Dt 11 115 4 _ (fun _ hq => p0 109 (.const (.bool true)) (.tmp 114) (.bool (decide (r196 > r204))) hb193) ?_
        obtain rfl := Aa h206
        exact Sm (by kernel_rfl) ⟨F17, hs209, (((le183.trans le191).trans le202).trans le210), fI⟩
      ·rintro f w166 ⟨F13, hs167, le168, ⟨_, rfl⟩⟩
       refine Ac ?_
       refine Cd h176 (fun hb212 h213 => ?_) (fun hb212 h214 => ?_)
       ·refine Sq (Rg [0] ?_)
        refine Vs 1 ?_
        refine Nt ?_
        refine Rt ?_
        refine Af ?_
        obtain rfl := Aa h213
        exact Re [(.bool false)] hs167 rfl
       ·refine Sc ?_
        refine Ac ?_
        refine Sq (Rg [0, 1, 2] ?_)
        refine Ld hs167.at1 ?_
        obtain ⟨r215, hr216, h217⟩ := bind_some h214
        refine Cl' FV hs167 (GO N w166 F13 hs167.pers x0 a0_2 n0_2 hb0_2 (R8 hs0_2 (((((((((le30.trans le34).trans le63).trans le85).trans le98).trans le106).trans le114).trans le122).trans le126).trans le168)) _ hr216) ?_
        rintro _ F18 w219 hs220 le221 ⟨ar215_0_0, nr215_0_0, rfl, hbr215_0_0, hsr215_0_0⟩
        refine Vs 1 ?_
        refine Nss (Rg [0, 1, 2] ?_)
        refine Ld hs220.at0 ?_
        obtain ⟨r223, hr224, h225⟩ := bind_some h217
        refine Cl' FV hs220 (GO N w219 F18 hs220.pers r57.1 ar57_0_2 nr57_0_2 hbr57_0_2 (R8 hsr57_0_2 (((((((le85.trans le98).trans le106).trans le114).trans le122).trans le126).trans le168).trans le221)) _ hr224) ?_
        rintro _ F19 w227 hs228 le229 ⟨ar223_0_0, nr223_0_0, rfl, hbr223_0_0, hsr223_0_0⟩
        refine Vs 1 ?_
        refine Nss (Rg [0] ?_)
        refine Vs 1 ?_
        refine Nss ?_
        refine Sq (Rg [0] ?_)
        refine Vs 1 ?_
        refine Nt ?_
        obtain ⟨o231, ho232, h233⟩ := bind_some h225
        refine Se (fun f w => ∃ (s244 : (Int × Int)) (F21 : Mem), o231 = .done s244 /\ HS w0 F0 w F21 [] /\ R5 F19 F21 /\ FI f [] [(5, (.bool r24))]) ?_ ?_
        ·refine Bk ?_
         refine R4 (by kernel_rfl) (fun m f w => ∃ (s234 : (Int × Int)) (F20 : Mem), Br (BQ N x0 x1 r24 j35 r57 r79 r92 r100 r108 r116 j127 j169 r215 r223) m s234 = some o231 /\ HS w0 F0 w F20 [] /\ R5 F19 F20 /\ FI f [] [(5, (.bool r24)), (18, (.slice ar215_0_0 r215.length nr215_0_0)), (19, (.slice ar223_0_0 r223.length nr223_0_0)), (20, (vi s234.1)), (21, (vi s234.2))]) N ⟨(0, 0), F19, ho232, hs228.dr0.dr0, (R6 _), fI⟩ ?_
         rintro m250 f w235 ⟨s234, F20, hit251, hs236, le237, ⟨_, rfl⟩⟩
         obtain ⟨m252, fl253, rfl, hb254, hnx255⟩ := A7 hit251
         refine Sq ?_
         refine Sq (Rg [0, 1, 2, 3] ?_)
         refine Vs 4 ?_
         refine Nt ?_
         refine Cd hb254 (fun hb256 h257 => ?_) (fun hb256 h258 => ?_)
         ·refine Sc ?_
          refine Ac ?_
          refine Sq ?_
          refine Bk ?_
          refine Sq ?_
          obtain ⟨o259, ho260, h261⟩ := bind_some h257
          refine Se (fun f w => ∃ (s272 : Int) (F23 : Mem), o259 = .done s272 /\ HS w0 F0 w F23 [] /\ R5 F20 F23 /\ FI f [] [(5, (.bool r24)), (18, (.slice ar215_0_0 r215.length nr215_0_0)), (19, (.slice ar223_0_0 r223.length nr223_0_0)), (20, (vi s272)), (21, (vi s234.2))]) ?_ ?_
          ·refine Bk ?_
           refine R4 (by kernel_rfl) (fun m f w => ∃ (s262 : Int) (F22 : Mem), Br (Cn N x0 x1 r24 j35 r57 r79 r92 r100 r108 r116 j127 j169 r215 r223 s234) m s262 = some o259 /\ HS w0 F0 w F22 [] /\ R5 F20 F22 /\ FI f [] [(5, (.bool r24)), (18, (.slice ar215_0_0 r215.length nr215_0_0)), (19, (.slice ar223_0_0 r223.length nr223_0_0)), (20, (vi s262)), (21, (vi s234.2))]) N ⟨s234.1, F20, ho260, hs236, (R6 _), fI⟩ ?_
           rintro m282 f w263 ⟨s262, F22, hit283, hs264, le265, ⟨_, rfl⟩⟩
           obtain ⟨m284, fl285, rfl, hb286, hnx287⟩ := A7 hit283
           refine Sq ?_
           refine Sq ?_
           obtain ⟨j293, hj301, h302⟩ := bind_some hb286
           refine RD 15 15 [] [] hs264 (fun f w => ∃ (F24 : Mem), HS w0 F0 w F24 [] /\ R5 F22 F24 /\ FI f [] [(5, (.bool r24)), (18, (.slice ar215_0_0 r215.length nr215_0_0)), (19, (.slice ar223_0_0 r223.length nr223_0_0)), (20, (vi s262)), (21, (vi s234.2)), (140, (.bool j293))]) (fun wd288 hw289 => ?_) ?_
           ·refine Dv [0, 1, 2, 3, 4] ?_
            refine Sd hj301 (fun hb303 h304 => ?_) (fun hb303 h305 => ?_)
            ·refine Dg 5 131 47 _ 4 true 130 hb303 (fun _ hq => mv 18 (.slice ar215_0_0 r215.length nr215_0_0)) ?_
             refine Dg 6 132 3 _ 4 true 130 hb303 (fun _ hq => mv 20 (vi s262)) ?_
             obtain ⟨x306, hx307, h309⟩ := bind_some h304
             obtain ⟨hi308, hx307'⟩ := Ay hx307
             obtain ⟨b310, o311, C312, E313, fz314, rfl, hF316, hE317⟩ := Sh (R8 hsr215_0_0 ((le229.trans le237).trans le265)) hx307'
             have hc319 := hE317 _ _ hx307'
             refine Dg 7 133 0 (.pointer (some ⟨b310, (o311 + (s262 : Int).toNat * 1), none⟩)) 4 true 130 hb303 (fun _ hq => ix 47 131 132 b310 o311 3 1 8 hi308) ?_
             refine Dg 8 134 3 _ 4 true 130 hb303 (fun _ hq => lx 3 133 0 1 false 1 (vi x306) (hq.1.1 _ _ hF316) hc319) ?_
             refine Dg 9 135 47 _ 4 true 130 hb303 (fun _ hq => mv 19 (.slice ar223_0_0 r223.length nr223_0_0)) ?_
             refine Dg 10 136 3 _ 4 true 130 hb303 (fun _ hq => mv 21 (vi s234.2)) ?_
             obtain ⟨x320, hx321, h323⟩ := bind_some h309
             obtain ⟨hi322, hx321'⟩ := Ay hx321
             obtain ⟨b324, o325, C326, E327, fz328, rfl, hF330, hE331⟩ := Sh (R8 hsr223_0_0 (le237.trans le265)) hx321'
             have hc333 := hE331 _ _ hx321'
             refine Dg 11 137 0 (.pointer (some ⟨b324, (o325 + (s234.2 : Int).toNat * 1), none⟩)) 4 true 130 hb303 (fun _ hq => ix 47 135 136 b324 o325 3 1 8 hi322) ?_
             refine Dg 12 138 3 _ 4 true 130 hb303 (fun _ hq => lx 3 137 0 1 false 1 (vi x320) (hq.1.1 _ _ hF330) hc333) ?_
             refine Dg 13 139 4 (.bool (decide (x306 < x320))) 4 true 130 hb303 (fun _ hq => N4 (t := 3) (t' := 3) (x := (.tmp 134)) (y := (.tmp 138)) (k := .i64) (a := x306) (b := x320) rfl rfl) ?_
             refine Dt 14 140 4 _ (fun _ hq => p1 130 (.tmp 139) (.const (.bool false)) (.bool (decide (x306 < x320))) hb303) ?_
             obtain rfl := Aa h323
             exact Sm (by kernel_rfl) ⟨F22, hw289, (R6 _), fI⟩
            ·refine Dk [(5, 131), (6, 132), (7, 133), (8, 134), (9, 135), (10, 136), (11, 137), (12, 138), (13, 139)] 4 true 130 hb303 ?_
             refine Dt 14 140 4 _ (fun _ hq => p0 130 (.tmp 139) (.const (.bool false)) (.bool false) hb303) ?_
             obtain rfl := Aa h305
             exact Sm (by kernel_rfl) ⟨F22, hw289, (R6 _), fI⟩
           ·rintro f w290 ⟨F24, hs291, le292, ⟨_, rfl⟩⟩
            refine Ac ?_
            refine Cd h302 (fun hb334 h335 => ?_) (fun hb334 h336 => ?_)
            ·refine Sc ?_
             refine Ac ?_
             refine Bk ?_
             refine Rg [0, 1, 2] ?_
             refine Vs 3 ?_
             refine RY ?_
             refine Ap ?_
             have hn337 := A0 h335 hnx287
             exact ⟨m284, Nat.lt_succ_self _, (W64 (s262 + 1)), F24, hn337, hs291, (le265.trans le292), fI⟩
            ·refine Ex ?_
             refine AC ?_
             refine AC ?_
             refine AV rfl ?_
             have ho338 := Bd h336 hnx287
             exact .inl ⟨rfl, s262, F24, ho338, hs291, (le265.trans le292), fI⟩
          ·rintro f w273 ⟨s272, F23, rfl, hs274, le275, ⟨_, rfl⟩⟩
           have h339 := Cu h261
           refine Ac ?_
           refine Sq ?_
           obtain ⟨j345, hj353, h354⟩ := bind_some h339
           refine RD 15 15 [] [] hs274 (fun f w => ∃ (F25 : Mem), HS w0 F0 w F25 [] /\ R5 F23 F25 /\ FI f [] [(5, (.bool r24)), (18, (.slice ar215_0_0 r215.length nr215_0_0)), (19, (.slice ar223_0_0 r223.length nr223_0_0)), (20, (vi s272)), (21, (vi s234.2)), (157, (.bool j345))]) (fun wd340 hw341 => ?_) ?_
           ·refine Dv [0, 1, 2, 3, 4] ?_
            refine Sd hj353 (fun hb355 h356 => ?_) (fun hb355 h357 => ?_)
            ·refine Dk [(5, 148), (6, 149), (7, 150), (8, 151), (9, 152), (10, 153), (11, 154), (12, 155), (13, 156)] 4 false 147 hb355 ?_
             refine Dt 14 157 4 _ (fun _ hq => p1 147 (.const (.bool true)) (.tmp 156) (.bool true) hb355) ?_
             obtain rfl := Aa h356
             exact Sm (by kernel_rfl) ⟨F23, hw341, (R6 _), fI⟩
            ·refine Dg 5 148 47 _ 4 false 147 hb355 (fun _ hq => mv 18 (.slice ar215_0_0 r215.length nr215_0_0)) ?_
             refine Dg 6 149 3 _ 4 false 147 hb355 (fun _ hq => mv 20 (vi s272)) ?_
             obtain ⟨x358, hx359, h361⟩ := bind_some h357
             obtain ⟨hi360, hx359'⟩ := Ay hx359
             obtain ⟨b362, o363, C364, E365, fz366, rfl, hF368, hE369⟩ := Sh (R8 hsr215_0_0 ((le229.trans le237).trans le275)) hx359'
             have hc371 := hE369 _ _ hx359'
             refine Dg 7 150 0 (.pointer (some ⟨b362, (o363 + (s272 : Int).toNat * 1), none⟩)) 4 false 147 hb355 (fun _ hq => ix 47 148 149 b362 o363 3 1 8 hi360) ?_
             refine Dg 8 151 3 _ 4 false 147 hb355 (fun _ hq => lx 3 150 0 1 false 1 (vi x358) (hq.1.1 _ _ hF368) hc371) ?_
             refine Dg 9 152 47 _ 4 false 147 hb355 (fun _ hq => mv 19 (.slice ar223_0_0 r223.length nr223_0_0)) ?_
             refine Dg 10 153 3 _ 4 false 147 hb355 (fun _ hq => mv 21 (vi s234.2)) ?_
             obtain ⟨x372, hx373, h375⟩ := bind_some h361
             obtain ⟨hi374, hx373'⟩ := Ay hx373
             obtain ⟨b376, o377, C378, E379, fz380, rfl, hF382, hE383⟩ := Sh (R8 hsr223_0_0 (le237.trans le275)) hx373'
             have hc385 := hE383 _ _ hx373'
             refine Dg 11 154 0 (.pointer (some ⟨b376, (o377 + (s234.2 : Int).toNat * 1), none⟩)) 4 false 147 hb355 (fun _ hq => ix 47 152 153 b376 o377 3 1 8 hi374) ?_
             refine Dg 12 155 3 _ 4 false 147 hb355 (fun _ hq => lx 3 154 0 1 false 1 (vi x372) (hq.1.1 _ _ hF382) hc385) ?_
             refine Dg 13 156 4 (.bool (x358 != x372)) 4 false 147 hb355 (fun _ hq => GX (t := 3) (t' := 3) (x := (.tmp 151)) (y := (.tmp 155)) (k := .i64) (a := x358) (b := x372) rfl rfl) ?_
             refine Dt 14 157 4 _ (fun _ hq => p0 147 (.const (.bool true)) (.tmp 156) (.bool (x358 != x372)) hb355) ?_
             obtain rfl := Aa h375
             exact Sm (by kernel_rfl) ⟨F23, hw341, (R6 _), fI⟩
           ·rintro f w342 ⟨F25, hs343, le344, ⟨_, rfl⟩⟩
            refine Ac ?_
            refine Cd h354 (fun hb386 h387 => ?_) (fun hb386 h388 => ?_)
            ·refine Sq (Rg [0] ?_)
             refine Vs 1 ?_
             refine Nt ?_
             refine Rt ?_
             refine Ah ?_
             refine Af ?_
             refine Af ?_
             refine Ah ?_
             have hret := Cf h387 hnx255
             subst hret
             refine .inr ?_
             refine Af ?_
             obtain rfl := Aa h233
             exact Re [(.bool false)] hs343 rfl
            ·refine Sc ?_
             refine Ap ?_
             refine Ac ?_
             refine Rg [0, 1, 2] ?_
             refine Vs 3 ?_
             refine RY ?_
             have hn389 := A0 h388 hnx255
             exact ⟨m252, Nat.lt_succ_self _, (s272, (W64 (s234.2 + 1))), F25, hn389, hs343, ((le237.trans le275).trans le344), fI⟩
         ·refine Ex ?_
          refine AC ?_
          refine AC ?_
          refine AV rfl ?_
          have ho390 := Bd h258 hnx255
          exact .inl ⟨rfl, (s234.1, s234.2), F20, ho390, hs236, le237, fI⟩
        ·rintro f w245 ⟨s244, F21, rfl, hs246, le247, ⟨_, rfl⟩⟩
         have h391 := Cu h233
         refine Ac ?_
         refine Sq (Rg [0, 1] ?_)
         refine Vs 2 ?_
         refine Nt ?_
         refine Rt ?_
         obtain rfl := Aa h391
         exact Re [(.bool r24)] hs246 rfl
section
variable {N : Nat}
theorem PV (hN : 100 < N) {e : Expr} (h : Fit N e) (hs : sz e < 4294967296) : (HN e = false /\ BE N e = some (zE, 61)) \/
  (HN e = true /\ ∃ r, BE N e = some (r, 0) /\ Fit N r /\ LI N e r /\ HN r = true /\ BE N r = some (r, 0)) := by
 obtain ⟨n, h1, h2⟩ := h
 have hf : Fit N e := ⟨n, h1, h2⟩
 unfold BE
 rw [LT hf]
 cases hs0 : HN e with
 | false => exact .inl ⟨rfl, rfl⟩
 | true =>
  right
  have hk := N1 hs0
  obtain ⟨r, r1, r2, r3⟩ := Lm hN (k := N) h2 h1 (by omega) hk
  have hr : HN r = true := by
   unfold HN at hs0 ⊢
   simp only [Bool.and_eq_true, decide_eq_true_eq] at hs0 ⊢
   have e1 := MY _ e (Nat.le_refl _) hs
   have e2 := MY _ r (Nat.le_refl _) (by have := r3.s; omega)
   have := r3.d
   exact ⟨by omega, by rw [r3.k]; exact hs0.2⟩
  have fr : Fit N r := ⟨n, r2, h2⟩
  refine ⟨rfl, r, ?_, fr, r3, hr, ?_⟩
  ·have : CY N e = some r := r1
   rw [Option.bind_some, this]; rfl
  ·rw [LT fr, hr, Option.bind_some]
   have : CY N r = some r := Pk r3.n r2 (by omega) (by rw [r3.k]; exact hk)
   rw [this]; rfl
theorem Ng (hN : 100 < N) {x r : Expr} (hsub : ∀ v, v ∈ EA r -> v ∈ EA x) (x1 : List Int) (a b c d e f g h i j : _) :
  Br (BQ N x x1 a b c d e f g h i j (BI x) (BI r)) N (0, 0) = some (.done (((BI r).length : Int) |> fun n => (if (BI r).length = 0 then 0 else ((BI x).idxOf ((BI r)[(BI r).length - 1]!) : Int), n))) := by
 have lx := MT x
 have lr := MT r
 have sx := Gv x
 have sr := Gv r
 have inx : ∀ k (hk : k < (BI r).length), (BI r)[k] ∈ BI x := fun k hk => Kq.2 (hsub _ (Kq.1 (List.getElem_mem hk)))
 obtain ⟨o, ho, rfl⟩ := E1 (body := BQ N x x1 a b c d e f g h i j (BI x) (BI r)) (BI r).length
  (fun k s => s = (if k = 0 then 0 else ((BI x).idxOf ((BI r)[k - 1]!) : Int), (k : Int)))
  (fun o => o = .done (((BI r).length : Int) |> fun n => (if (BI r).length = 0 then 0 else ((BI x).idxOf ((BI r)[(BI r).length - 1]!) : Int), n))) (by
  rintro k s hi rfl
  unfold BQ
  simp only
  by_cases hk : k < (BI r).length
  ·left
   have hm := inx k hk
   obtain ⟨p, hp, hpe⟩ : ∃ p, p < (BI x).length /\ (BI x)[p]? = some (BI r)[k] := by
    obtain ⟨p, hp, e⟩ := List.getElem_of_mem hm
    exact ⟨p, hp, by rw [List.getElem?_eq_getElem hp, e]⟩
   have hpg : (BI x)[p] = (BI r)[k] := by rw [List.getElem?_eq_getElem hp] at hpe; exact Option.some.inj hpe
   have hidx : (BI x).idxOf (BI r)[k] = p := by
    have hnd : (BI x).Nodup := sx.imp (fun h => by omega)
    rw [<- hpg]; exact hnd.idxOf_getElem p hp
   obtain ⟨q, hq, hqe⟩ : ∃ q : Nat, q <= p /\ (if k = 0 then (0 : Int) else ((BI x).idxOf ((BI r)[k - 1]!) : Int)) = (q : Int) := by
    by_cases h0 : k = 0
    ·exact ⟨0, Nat.zero_le _, by rw [if_pos h0]; rfl⟩
    ·rw [if_neg h0]
     refine ⟨_, ?_, rfl⟩
     have hk1 : k - 1 < (BI r).length := by omega
     rw [getElem!_pos (BI r) (k - 1) hk1]
     have hm1 := inx (k - 1) hk1
     obtain ⟨p1, hp1, e1⟩ := List.getElem_of_mem hm1
     have hnd : (BI x).Nodup := sx.imp (fun h => by omega)
     rw [<- e1, hnd.idxOf_getElem p1 hp1]
     rcases Nat.lt_or_ge p p1 with h' | h'
     ·have b1 := List.pairwise_iff_getElem.1 sx p p1 hp hp1 h'
      have b2 := List.pairwise_iff_getElem.1 sr (k - 1) k hk1 hk (by omega)
      omega
     ·exact h'
   rw [hqe]
   obtain ⟨o1, ho1, rfl⟩ := E1 (body := Cn N x x1 a b c d e f g h i j (BI x) (BI r) ((q : Int), (k : Int))) (p - q) (fun t s => s = ((q + t : Nat) : Int)) (fun o => o = .done (p : Int)) (by
    rintro t s ht rfl
    unfold Cn
    simp only
    have hlt : q + t < (BI x).length := by omega
    rw [KW hlt, cond_true, CA hlt, Option.bind_some, CA hk, Option.bind_some, Option.bind_some]
    by_cases htt : t < p - q
    ·left
     have b1 := List.pairwise_iff_getElem.1 sx (q + t) p hlt hp (by omega)
     refine ⟨_, by rw [decide_eq_true (by omega), cond_true, FB (by omega)], by rw [Nat.add_assoc], htt⟩
    ·right
     have : q + t = p := by omega
     refine ⟨.done ((q + t : Nat) : Int), ?_, fun _ h => (by cases h), by rw [this]⟩
     have hge : ¬ (BI x)[q + t] < (BI r)[k] := by
      have : (BI x)[q + t]? = some (BI r)[k] := by rw [this]; exact hpe
      rw [List.getElem?_eq_getElem hlt] at this
      rw [Option.some.inj this]; omega
     rw [decide_eq_false hge, cond_false]) (p - q) N 0 (q : Int) (by omega) rfl (by omega)
   refine ⟨_, ?_, rfl, hk⟩
   rw [KW hk, cond_true, ho1]
   simp only [Option.bind_some, BX.k]
   have hne : ((p : Int) == ((BI x).length : Int)) = false := by simp; omega
   rw [hne, cond_false, CA hp, Option.bind_some, CA hk, Option.bind_some, hpg, bne_self_eq_false, Option.bind_some, cond_false, FB (by omega)]
   congr 3
   rw [if_neg (by omega), show k + 1 - 1 = k by omega, getElem!_pos (BI r) k hk, hidx]
  ·have : k = (BI r).length := by omega
   subst this
   right
   exact ⟨_, by rw [L2, cond_false], fun _ h => (by cases h), rfl⟩) (BI r).length N 0 (0, 0) (by omega) rfl (by omega)
 exact ho
theorem Mv (hN : 1000 < N) {x : Expr} {f : List Int} (hx : Fit N x) (hs : sz x < 4294967296) : C2 N x f = some true := by
 unfold C2 Gt
 simp only [Option.bind_some]
 rw [N3 hx, Option.bind_some]
 have hguard : ∃ b, ((bif (decide (nd x > 400)) then some true else some (decide ((f.length : Int) > 40))) : Option Bool) = some b := by
  cases decide (nd x > 400) <;> exact ⟨_, rfl⟩
 obtain ⟨b, hb⟩ := hguard
 rw [hb, Option.bind_some]
 cases b with
 | true => rfl
 | false =>
  simp only [cond_false]
  rcases PV (by omega) hx hs with ⟨_, h1⟩ | ⟨hx0, r, h1, fr, hk, hr0, h2⟩
  ·rw [h1]; rfl
  ·have hsr : sz r < 4294967296 := by have := hk.s; omega
   rw [h1, Option.bind_some]
   simp only [show ((0 : Int) != 0) = false from rfl, cond_false]
   rw [h2, Option.bind_some]
   have hty : ∃ p : Int × Int, DO N x = some p /\ DO N r = some p /\ p.2 = 0 := by
    unfold DO
    rw [J8 hx, J8 fr, hk.k]
    rcases Rl (N1 hx0) with e | e <;> rw [e] <;> exact ⟨_, rfl, rfl, rfl⟩
   obtain ⟨p, p1, p2, p3⟩ := hty
   rw [p1, p2, Option.bind_some, Option.bind_some, O8 (by omega) hx, O8 (by omega) fr, Option.bind_some, Option.bind_some]
   have hev : MX r f = MX x f := by
    unfold MX
    rw [hr0, hx0]
    simp only [Bool.true_eq_false, if_false]
    by_cases h3 : fac f = false
    ·rw [if_pos h3, if_pos h3]
    ·rw [if_neg h3, if_neg h3, hk.v f (by simpa using h3)]
   rw [hev, p3]
   simp only [show ((0 : Int) != 0) = false from rfl, cond_false, bne_self_eq_false]
   rw [ES fr, Gw]
   simp only [Option.bind_some, Bool.not_true, cond_false]
   rw [N3 fr, Option.bind_some, Pm _ x (Nat.le_refl _) hs, Pm _ r (Nat.le_refl _) hsr, decide_eq_false (by have := hk.s; omega), cond_false, LU fr, LU hx, Option.bind_some, Option.bind_some, MY _ x (Nat.le_refl _) hs, MY _ r (Nat.le_refl _) hsr, decide_eq_false (by have := hk.d; omega)]
   simp only [Option.bind_some, cond_false]
   rw [Mx hx hs, Mx fr hsr, Option.bind_some, Option.bind_some, Ng (by omega) hk.f]
   rfl
end
theorem Ow (x : Expr) (f : List Int) (h1 : MK x) (h2 : sz x <= 1048576) (_ : f.length < 9223372036854775808 /\ ∀ c, c ∈ f -> rI c) (_ : (f.map (fun _ => 1)).sum + 1 <= 1048576) : ∃ N, C2 N x f = some true := by
 obtain ⟨c, hc⟩ := QX h1
 exact ⟨c + 1001, Mv (by omega) (hc _ (by omega)) (by omega)⟩
end Go.Proofs.YtaihlcdkcampbaaGreatDoor
