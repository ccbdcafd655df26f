/- Lemmas of the claim LogsPrints, printed by a program of the claimant and by hand. No statement of the seat is proved here. -/
import Derived.Test.YthljkpeimofbbaaGreatDoorE4x4
set_option linter.unusedVariables false
set_option linter.unusedSimpArgs false
set_option linter.unusedSectionVars false
set_option maxHeartbeats 4000000
set_option maxRecDepth 100000
namespace Go.Proofs.YthljkpeimofbbaaGreatDoor
def EK (N : Nat) (x0 : Am) (x1 : Ao) (x2 : Int) : Option (Am × Ao × EC × Bool) :=
 (bif (x2 == 4) then (bif ((x1.stage_ == 0) || (x1.stage_ == 6)) then some (x0, x1, ({ Kind := x2, At := x1.at_, Text := ([] : Wn) } : EC), false) else ((Cn N x1.stage_).bind fun r65 => ((CK N x0 x1 r65).bind fun r76 => ((some (r76.2.1.at_, r76.2.1.stage_, r76.2.1.num_, r76.2.1.minute_, x2, x1.at_, r65)).bind fun j93 => some (r76.1, ({ at_ := j93.1, stage_ := j93.2.1, num_ := j93.2.2.1, minute_ := j93.2.2.2.1 } : Ao), ({ Kind := j93.2.2.2.2.1, At := j93.2.2.2.2.2.1, Text := j93.2.2.2.2.2.2 } : EC), r76.2.2))))) else (bif (x1.at_ == (x0.lines_.length : Int)) then some (x0, x1, ({ Kind := x2, At := x1.at_, Text := ([] : Wn) } : EC), false) else ((bif (x2 == 1) then (((idx x0.lines_ x1.at_).bind fun x169 => ((CK N x0 x1 x169).bind fun r184 => some (r184.2.2, r184.2.1.at_, r184.2.1.stage_, r184.2.1.num_, r184.2.1.minute_, r184.1.o_.Report, r184.1.o_.Serial, r184.1.o_.Zone, r184.1.lines_, r184.1.known_, r184.1.read_))).bind fun j159 => some (j159.1, j159.2.1, j159.2.2.1, j159.2.2.2.1, j159.2.2.2.2.1, j159.2.2.2.2.2.1, j159.2.2.2.2.2.2.1, j159.2.2.2.2.2.2.2.1, j159.2.2.2.2.2.2.2.2.1, j159.2.2.2.2.2.2.2.2.2.1, j159.2.2.2.2.2.2.2.2.2.2)) else ((bif (x2 == 2) then (((idx x0.lines_ x1.at_).bind fun x225 => ((Li N x225).bind fun r239 => ((CK N x0 x1 r239).bind fun r248 => some (r248.2.2, r248.2.1.at_, r248.2.1.stage_, r248.2.1.num_, r248.2.1.minute_, r248.1.o_.Report, r248.1.o_.Serial, r248.1.o_.Zone, r248.1.lines_, r248.1.known_, r248.1.read_)))).bind fun j215 => some (j215.1, j215.2.1, j215.2.2.1, j215.2.2.2.1, j215.2.2.2.2.1, j215.2.2.2.2.2.1, j215.2.2.2.2.2.2.1, j215.2.2.2.2.2.2.2.1, j215.2.2.2.2.2.2.2.2.1, j215.2.2.2.2.2.2.2.2.2.1, j215.2.2.2.2.2.2.2.2.2.2)) else some (true, x1.at_, x1.stage_, x1.num_, x1.minute_, x0.o_.Report, x0.o_.Serial, x0.o_.Zone, x0.lines_, x0.known_, x0.read_)).bind fun j197 => some (j197.1, j197.2.1, j197.2.2.1, j197.2.2.2.1, j197.2.2.2.2.1, j197.2.2.2.2.2.1, j197.2.2.2.2.2.2.1, j197.2.2.2.2.2.2.2.1, j197.2.2.2.2.2.2.2.2.1, j197.2.2.2.2.2.2.2.2.2.1, j197.2.2.2.2.2.2.2.2.2.2))).bind fun j141 => some (({ o_ := ({ Report := j141.2.2.2.2.2.1, Serial := j141.2.2.2.2.2.2.1, Zone := j141.2.2.2.2.2.2.2.1 } : Ac), lines_ := j141.2.2.2.2.2.2.2.2.1, known_ := j141.2.2.2.2.2.2.2.2.2.1, read_ := j141.2.2.2.2.2.2.2.2.2.2 } : Am), ({ at_ := (W64 (x1.at_ + 1)), stage_ := j141.2.2.1, num_ := j141.2.2.2.1, minute_ := j141.2.2.2.2.1 } : Ao), ({ Kind := x2, At := x1.at_, Text := ([] : Wn) } : EC), j141.1))))
theorem Ft : Af Tryz.prog 111 := fun _ _ => by kernel_rfl
theorem FY (N : Nat) {wb w0 : World} {Fb F0 : Mem} {Lf : Own} (hG : Br F0) (bp0 : Nat) (x0 : Am) (a0_3 : Wo) (n0_3 : Nat) (mb0_4 : Nat) (e0_4 : Option Nat × Obj) (mb0_5 : Nat) (e0_5 : Option Nat × Obj) (hb0_3 : LC x0.lines_.length n0_3) (hs0_3 : SlA AK F0 a0_3 x0.lines_) (hr0_4 : Bc AB AM F0 mb0_4 x0.known_ e0_4) (hr0_5 : Bc AK Aw F0 mb0_5 x0.read_ e0_5) (x1 : Ao) (x2 : Int) (hs0 : HS wb Fb w0 F0 ((sb bp0 #[(.bool x0.o_.Report), (.bool x0.o_.Serial), (.bool x0.o_.Zone), (.slice a0_3 x0.lines_.length n0_3), (.map (some mb0_4)), (.map (some mb0_5))] 148) :: e0_4 :: e0_5 :: Lf)) (r : (Am × Ao × EC × Bool)) (h : EK N x0 x1 x2 = some r) :
  Calls Tryz.prog 111 ([(pt bp0 0), (.agg (Ai x1)), (vi x2)] : List Value).toArray w0 (ER wb Fb F0 fun F' v L' => ∃ (aq0_3 : Wo) (nq0_3 : Nat) (eq0_4 : Option Nat × Obj) (eq0_5 : Option Nat × Obj), v = (.tuple #[(.agg (Ai r.2.1)), (.agg (Gz r.2.2.1)), (.bool r.2.2.2)]) /\ L' = (sb bp0 #[(.bool r.1.o_.Report), (.bool r.1.o_.Serial), (.bool r.1.o_.Zone), (.slice aq0_3 r.1.lines_.length nq0_3), (.map (some mb0_4)), (.map (some mb0_5))] 148) :: eq0_4 :: eq0_5 :: Lf /\ LC r.1.lines_.length nq0_3 /\ SlA AK F' aq0_3 r.1.lines_ /\ Bc AB AM F' mb0_4 r.1.known_ eq0_4 /\ Bc AK Aw F' mb0_5 r.1.read_ eq0_5) := by
 refine Go 97 Tryz.func111 <| Sq (Rg (rG 4) ?_)
 refine Bx' 143 (Ai x1) hs0 (fun b21 w22 hs23 => ?_)
 refine Al' 143 #[(vi 0), (vi 0), (vi 0), (vi 0)] hs23 (fun b24 w25 hs26 => ?_)
 refine Al' 150 #[(vi 0), (vi 0), (sv (([] : Wn)))] hs26 (fun b27 w28 hs29 => ?_)
 refine Vs 1 <| Nss (Rg (rG 6) ?_)
 refine Vs 2 <| Ld hs29.at2 <| Vs 1 <| Al' 150 #[(vi 0), (vi 0), (sv (([] : Wn)))] hs29 (fun b30 w31 hs32 => ?_)
 refine St0 #[(vi x2), (vi x1.at_), (sv (([] : Wn)))] hs32 (fun w33 hs34 => ?_)
 refine Nss <| Sq (Rg [0, 1] ?_)
 refine Vs 2 <| Nt <| Cd h (fun hb35 h36 => ?_) (fun hb35 h37 => ?_)
 ·refine Sq ?_
  refine Sq (Rg (rG 8) ?_)
  refine V8 (fun f w => ∃ (F1 : Mem), HS wb Fb w F1 ((sb b30 #[(vi x2), (vi x1.at_), (sv (([] : Wn)))] 150) :: (sb b27 #[(vi 0), (vi 0), (sv (([] : Wn)))] 150) :: (sb b24 #[(vi 0), (vi 0), (vi 0), (vi 0)] 143) :: (sb b21 (Ai x1) 143) :: (sb bp0 #[(.bool x0.o_.Report), (.bool x0.o_.Serial), (.bool x0.o_.Zone), (.slice a0_3 x0.lines_.length n0_3), (.map (some mb0_4)), (.map (some mb0_5))] 148) :: e0_4 :: e0_5 :: Lf) /\ V2 F0 F1 /\ FI f [] [(0, (pt bp0 0)), (4, (pt b21 0)), (6, (pt b24 0)), (7, (pt b27 0)), (9, (pt b30 0)), (27, (.bool ((x1.stage_ == 0) || (x1.stage_ == 6))))]) ?_ ?_
  ·refine Vs 1 ?_
   refine Ld hs34.at3 <| Vs 2 <| V7 (x1.stage_ == 0) (fun hb48 => ?_) (fun hb48 => ?_)
   ·refine Ss hb48 3 ?_
    refine Pk1 hb48 ?_
    exact VY ⟨rfl, F0, hs34, (V3 _), (fJ ⟨rfl, rfl, rfl, rfl, rfl, (congrArg Value.bool (Fw hb48 rfl)), trivial⟩)⟩
   ·refine Vgs hb48 1 ?_
    refine Lg hb48 hs34.at3 <| Vgs hb48 1 <| Pk0 hb48 ?_
    exact VY ⟨rfl, F0, hs34, (V3 _), (fJ ⟨rfl, rfl, rfl, rfl, rfl, (congrArg Value.bool (Cr hb48 rfl)), trivial⟩)⟩
  ·rintro f w38 ⟨F1, hs39, le40, ⟨_, rfl⟩⟩
   refine Ab <| Cd h36 (fun hb49 h50 => ?_) (fun hb49 h51 => ?_)
   ·refine Sq ?_
    refine RD 5 5 [(sb b30 #[(vi x2), (vi x1.at_), (sv (([] : Wn)))] 150), (sb b21 (Ai x1) 143), (sb bp0 #[(.bool x0.o_.Report), (.bool x0.o_.Serial), (.bool x0.o_.Zone), (.slice a0_3 x0.lines_.length n0_3), (.map (some mb0_4)), (.map (some mb0_5))] 148), e0_4, e0_5] [] hs39 (fun f w => ∃ (F2 : Mem), HS wb Fb w F2 ((sb b27 #[(vi x2), (vi x1.at_), (sv (([] : Wn)))] 150) :: (sb b24 (Ai x1) 143) :: (sb bp0 #[(.bool x0.o_.Report), (.bool x0.o_.Serial), (.bool x0.o_.Zone), (.slice a0_3 x0.lines_.length n0_3), (.map (some mb0_4)), (.map (some mb0_5))] 148) :: e0_4 :: e0_5 :: Lf) /\ V2 F1 F2 /\ FI f [] [(6, (pt b24 0)), (7, (pt b27 0)), (8, (.bool false))]) (fun wd52 hw53 => ?_) ?_
    ·refine Dl 0 (fun _ hq => (hq.1.2 1 _ _ rfl)) ?_
     refine Dl 1 (fun _ hq => (hq.1.2 0 _ _ rfl)) <| D1 2 <| OE (Ai x1) hw53 (V3 _) (fun w61 hs62 => ?_)
     refine D1 3 <| MK #[(vi x2), (vi x1.at_), (sv (([] : Wn)))] hs62 (V3 _) (fun w63 hs64 => ?_)
     refine Dv [4] ?_
     exact Wf (by kernel_rfl) ⟨F1, hs64.dr0.dr2, (V3 _), fI⟩
    ·rintro f w54 ⟨F2, hs55, le56, ⟨_, rfl⟩⟩
     refine Ab <| Rt <| Ae <| Ae ?_
     obtain rfl := Aa h50
     exact ⟨rfl, (.tuple #[(.agg (Ai x1)), (.agg #[(vi x2), (vi x1.at_), (sv (([] : Wn)))]), (.bool false)]), AW (l := [.cell 6 143, .cell 7 150, .tmp 8]) (by kernel_rfl) (vs := [(.agg (Ai x1)), (.agg #[(vi x2), (vi x1.at_), (sv (([] : Wn)))]), (.bool false)]) ⟨b24, 0, rfl, An (t := 143) (g := true) (s := 4) (by kernel_rfl) hs55.at1 rfl (by decide), ⟨b27, 0, rfl, An (t := 150) (g := true) (s := 3) (by kernel_rfl) hs55.at0 rfl (by decide), ⟨rfl, trivial⟩⟩⟩, F2, _, _, rfl, hs55.dr0.dr0, (le40.t le56), ⟨a0_3, n0_3, e0_4, e0_5, rfl, rfl, hb0_3, (V5 hs0_3 (le40.t le56)), (hr0_4.mono (le40.t le56)), (hr0_5.mono (le40.t le56))⟩⟩
   ·refine Sc ?_
    refine Ab <| Sq (Rg (rG 5) ?_)
    refine Vs 1 <| Ld hs39.at3 ?_
    obtain ⟨r65, hr66, h67⟩ := bind_some h51
    refine Cl' B2 hs39 (Cf N w38 F1 hs39.pers x1.stage_ _ hr66) ?_
    rintro _ F3 w69 hs70 le71 rfl
    refine Vs 1 <| St0 #[(vi x2), (vi x1.at_), (sv r65)] hs70 (fun w73 hs74 => ?_)
    refine Nss (Rg (rG 11) ?_)
    refine Vs 1 <| Ld hs74.at3 <| Vs 1 <| Ld hs74.at0 ?_
    have hs75 := hs74.pk3.pk3.pk3.pk3.pk6.pk6
    obtain ⟨r76, hr77, h78⟩ := bind_some h67
    refine CB CY (Df N (hG.mono (le40.t le71)) bp0 x0 a0_3 n0_3 mb0_4 e0_4 mb0_5 e0_5 hb0_3 (V5 hs0_3 (le40.t le71)) (hr0_4.mono (le40.t le71)) (hr0_5.mono (le40.t le71)) x1 r65 hs75.pk6 _ hr77) ?_
    rintro _ F4 w79 _ hs80 le81 ⟨ar76_0_3, nr76_0_3, er76_0_4, er76_0_5, rfl, rfl, hbr76_0_3, hsr76_0_3, hrr76_0_4, hrr76_0_5⟩
    refine Vs 3 <| Al' 143 #[(vi 0), (vi 0), (vi 0), (vi 0)] hs80 (fun b83 w84 hs85 => ?_)
    refine St0 (Ai r76.2.1) hs85 (fun w86 hs87 => ?_)
    refine Vs 1 <| Nss ?_
    obtain ⟨j93, hj98, h99⟩ := bind_some h78
    refine RD 6 6 [(sb b83 (Ai r76.2.1) 143), (sb bp0 #[(.bool r76.1.o_.Report), (.bool r76.1.o_.Serial), (.bool r76.1.o_.Zone), (.slice ar76_0_3 r76.1.lines_.length nr76_0_3), (.map (some mb0_4)), (.map (some mb0_5))] 148), er76_0_4, er76_0_5, (sb b30 #[(vi x2), (vi x1.at_), (sv r65)] 150), (sb b21 (Ai x1) 143)] [] hs87 (fun f w => ∃ (F5 : Mem), HS wb Fb w F5 ((sb bp0 #[(.bool r76.1.o_.Report), (.bool r76.1.o_.Serial), (.bool r76.1.o_.Zone), (.slice ar76_0_3 r76.1.lines_.length nr76_0_3), (.map (some mb0_4)), (.map (some mb0_5))] 148) :: er76_0_4 :: er76_0_5 :: (sb b27 #[(vi j93.2.2.2.2.1), (vi j93.2.2.2.2.2.1), (sv j93.2.2.2.2.2.2)] 150) :: (sb b24 #[(vi j93.1), (vi j93.2.1), (vi j93.2.2.1), (vi j93.2.2.2.1)] 143) :: Lf) /\ V2 F4 F5 /\ FI f [] [(6, (pt b24 0)), (7, (pt b27 0)), (8, (.bool r76.2.2))]) (fun wd88 hw89 => ?_) ?_
    ·refine Dl 0 (fun _ hq => (hq.1.2 0 _ _ rfl)) ?_
     refine Dl 1 (fun _ hq => (hq.1.2 4 _ _ rfl)) <| Dv [2] <| D1 3 <| Us (Ai r76.2.1) hw89 (V3 _) (fun w100 hs101 => ?_)
     refine D1 4 <| So #[(vi x2), (vi x1.at_), (sv r65)] hs101 (V3 _) (fun w102 hs103 => ?_)
     refine Dv [5] ?_
     obtain rfl := Aa hj98
     exact Wf (by kernel_rfl) ⟨F4, hs103.dr0.dr3.dr5, (V3 _), fI⟩
    ·rintro f w90 ⟨F5, hs91, le92, ⟨_, rfl⟩⟩
     refine Ab <| Rt <| Ae ?_
     obtain rfl := Aa h99
     exact ⟨rfl, (.tuple #[(.agg #[(vi j93.1), (vi j93.2.1), (vi j93.2.2.1), (vi j93.2.2.2.1)]), (.agg #[(vi j93.2.2.2.2.1), (vi j93.2.2.2.2.2.1), (sv j93.2.2.2.2.2.2)]), (.bool r76.2.2)]), AW (l := [.cell 6 143, .cell 7 150, .tmp 8]) (by kernel_rfl) (vs := [(.agg #[(vi j93.1), (vi j93.2.1), (vi j93.2.2.1), (vi j93.2.2.2.1)]), (.agg #[(vi j93.2.2.2.2.1), (vi j93.2.2.2.2.2.1), (sv j93.2.2.2.2.2.2)]), (.bool r76.2.2)]) ⟨b24, 0, rfl, An (t := 143) (g := true) (s := 4) (by kernel_rfl) hs91.at4 rfl (by decide), ⟨b27, 0, rfl, An (t := 150) (g := true) (s := 3) (by kernel_rfl) hs91.at3 rfl (by decide), ⟨rfl, trivial⟩⟩⟩, F5, _, _, rfl, hs91.dr3.dr3, (((le40.t le71).trans le81).trans le92), ⟨ar76_0_3, nr76_0_3, er76_0_4, er76_0_5, rfl, rfl, hbr76_0_3, (V5 hsr76_0_3 le92), (hrr76_0_4.mono le92), (hrr76_0_5.mono le92)⟩⟩
 ·refine Sc ?_
  refine Ab <| Sq <| Sq <| RD 8 8 [(sb b30 #[(vi x2), (vi x1.at_), (sv (([] : Wn)))] 150), (sb b27 #[(vi 0), (vi 0), (sv (([] : Wn)))] 150), (sb b24 #[(vi 0), (vi 0), (vi 0), (vi 0)] 143), (sb b21 (Ai x1) 143), (sb bp0 #[(.bool x0.o_.Report), (.bool x0.o_.Serial), (.bool x0.o_.Zone), (.slice a0_3 x0.lines_.length n0_3), (.map (some mb0_4)), (.map (some mb0_5))] 148), e0_4, e0_5] [] hs34 (fun f w => ∃ (F6 : Mem), HS wb Fb w F6 ((sb b30 #[(vi x2), (vi x1.at_), (sv (([] : Wn)))] 150) :: (sb b27 #[(vi 0), (vi 0), (sv (([] : Wn)))] 150) :: (sb b24 #[(vi 0), (vi 0), (vi 0), (vi 0)] 143) :: (sb b21 (Ai x1) 143) :: (sb bp0 #[(.bool x0.o_.Report), (.bool x0.o_.Serial), (.bool x0.o_.Zone), (.slice a0_3 x0.lines_.length n0_3), (.map (some mb0_4)), (.map (some mb0_5))] 148) :: e0_4 :: e0_5 :: Lf) /\ V2 F0 F6 /\ FI f [] [(0, (pt bp0 0)), (2, (vi x2)), (4, (pt b21 0)), (6, (pt b24 0)), (7, (pt b27 0)), (9, (pt b30 0)), (52, (.bool (x1.at_ == (x0.lines_.length : Int))))]) (fun wd104 hw105 => ?_) ?_
  ·refine Dv [0] ?_
   refine Dl 1 (fun _ hq => (hq.1.2 3 _ _ rfl)) <| Dv [2, 3, 4] <| Dl 5 (fun _ hq => (hq.1.2 4 _ _ rfl)) <| Dv [6, 7] ?_
   exact Wf (by kernel_rfl) ⟨F0, hw105, (V3 _), fI⟩
  ·rintro f w106 ⟨F6, hs107, le108, ⟨_, rfl⟩⟩
   refine Ab <| Cd h37 (fun hb117 h118 => ?_) (fun hb117 h119 => ?_)
   ·refine Sq ?_
    refine RD 5 5 [(sb b30 #[(vi x2), (vi x1.at_), (sv (([] : Wn)))] 150), (sb b21 (Ai x1) 143), (sb bp0 #[(.bool x0.o_.Report), (.bool x0.o_.Serial), (.bool x0.o_.Zone), (.slice a0_3 x0.lines_.length n0_3), (.map (some mb0_4)), (.map (some mb0_5))] 148), e0_4, e0_5] [] hs107 (fun f w => ∃ (F7 : Mem), HS wb Fb w F7 ((sb b27 #[(vi x2), (vi x1.at_), (sv (([] : Wn)))] 150) :: (sb b24 (Ai x1) 143) :: (sb bp0 #[(.bool x0.o_.Report), (.bool x0.o_.Serial), (.bool x0.o_.Zone), (.slice a0_3 x0.lines_.length n0_3), (.map (some mb0_4)), (.map (some mb0_5))] 148) :: e0_4 :: e0_5 :: Lf) /\ V2 F6 F7 /\ FI f [] [(6, (pt b24 0)), (7, (pt b27 0)), (8, (.bool false))]) (fun wd120 hw121 => ?_) ?_
    ·refine Dl 0 (fun _ hq => (hq.1.2 1 _ _ rfl)) ?_
     refine Dl 1 (fun _ hq => (hq.1.2 0 _ _ rfl)) <| D1 2 <| OE (Ai x1) hw121 (V3 _) (fun w129 hs130 => ?_)
     refine D1 3 <| MK #[(vi x2), (vi x1.at_), (sv (([] : Wn)))] hs130 (V3 _) (fun w131 hs132 => ?_)
     refine Dv [4] ?_
     exact Wf (by kernel_rfl) ⟨F6, hs132.dr0.dr2, (V3 _), fI⟩
    ·rintro f w122 ⟨F7, hs123, le124, ⟨_, rfl⟩⟩
     refine Ab <| Rt <| Ae ?_
     obtain rfl := Aa h118
     exact ⟨rfl, (.tuple #[(.agg (Ai x1)), (.agg #[(vi x2), (vi x1.at_), (sv (([] : Wn)))]), (.bool false)]), AW (l := [.cell 6 143, .cell 7 150, .tmp 8]) (by kernel_rfl) (vs := [(.agg (Ai x1)), (.agg #[(vi x2), (vi x1.at_), (sv (([] : Wn)))]), (.bool false)]) ⟨b24, 0, rfl, An (t := 143) (g := true) (s := 4) (by kernel_rfl) hs123.at1 rfl (by decide), ⟨b27, 0, rfl, An (t := 150) (g := true) (s := 3) (by kernel_rfl) hs123.at0 rfl (by decide), ⟨rfl, trivial⟩⟩⟩, F7, _, _, rfl, hs123.dr0.dr0, (le108.t le124), ⟨a0_3, n0_3, e0_4, e0_5, rfl, rfl, hb0_3, (V5 hs0_3 (le108.t le124)), (hr0_4.mono (le108.t le124)), (hr0_5.mono (le108.t le124))⟩⟩
   ·refine Sc ?_
    refine Ab <| Sq (Rg (rG 4) ?_)
    refine Ld hs107.at3 <| Al' 143 #[(vi 0), (vi 0), (vi 0), (vi 0)] hs107 (fun b133 w134 hs135 => ?_)
    refine St0 (Ai x1) hs135 (fun w136 hs137 => ?_)
    refine Vs 1 <| Nss <| Sq (Rg [0] ?_)
    refine Vs 1 <| Nt <| Bk <| Sq (Rg [0, 1] ?_)
    refine Vs 2 <| Nt ?_
    obtain ⟨j141, hj149, h150⟩ := bind_some h119
    refine V9 (fun f w => ∃ (F8 : Mem) (aj141_8 : Wo) (nj141_8 : Nat) (ej141_9 : Option Nat × Obj) (ej141_10 : Option Nat × Obj), HS wb Fb w F8 ((sb b133 #[(vi j141.2.1), (vi j141.2.2.1), (vi j141.2.2.2.1), (vi j141.2.2.2.2.1)] 143) :: (sb b30 #[(vi x2), (vi x1.at_), (sv (([] : Wn)))] 150) :: (sb b27 #[(vi 0), (vi 0), (sv (([] : Wn)))] 150) :: (sb b24 #[(vi 0), (vi 0), (vi 0), (vi 0)] 143) :: (sb b21 (Ai x1) 143) :: (sb bp0 #[(.bool j141.2.2.2.2.2.1), (.bool j141.2.2.2.2.2.2.1), (.bool j141.2.2.2.2.2.2.2.1), (.slice aj141_8 j141.2.2.2.2.2.2.2.2.1.length nj141_8), (.map (some mb0_4)), (.map (some mb0_5))] 148) :: ej141_9 :: ej141_10 :: Lf) /\ V2 F6 F8 /\ FI f [] [(4, (pt b21 0)), (6, (pt b24 0)), (7, (pt b27 0)), (9, (pt b30 0)), (12, (pt b133 0)), (13, (.bool j141.1))] /\ LC j141.2.2.2.2.2.2.2.2.1.length nj141_8 /\ SlA AK F8 aj141_8 j141.2.2.2.2.2.2.2.2.1 /\ Bc AB AM F8 mb0_4 j141.2.2.2.2.2.2.2.2.2.1 ej141_9 /\ Bc AK Aw F8 mb0_5 j141.2.2.2.2.2.2.2.2.2.2 ej141_10) ?_ ?_
    ·refine Cd hj149 (fun hb151 h152 => ?_) (fun hb151 h153 => ?_)
     ·obtain ⟨j159, hj167, h168⟩ := bind_some h152
      refine RD 16 16 [(sb b30 #[(vi x2), (vi x1.at_), (sv (([] : Wn)))] 150), (sb b27 #[(vi 0), (vi 0), (sv (([] : Wn)))] 150), (sb b24 #[(vi 0), (vi 0), (vi 0), (vi 0)] 143), (sb b21 (Ai x1) 143)] [] hs137 (fun f w => ∃ (F9 : Mem) (aj159_8 : Wo) (nj159_8 : Nat) (ej159_9 : Option Nat × Obj) (ej159_10 : Option Nat × Obj), HS wb Fb w F9 ((sb b133 #[(vi j159.2.1), (vi j159.2.2.1), (vi j159.2.2.2.1), (vi j159.2.2.2.2.1)] 143) :: (sb b30 #[(vi x2), (vi x1.at_), (sv (([] : Wn)))] 150) :: (sb b27 #[(vi 0), (vi 0), (sv (([] : Wn)))] 150) :: (sb b24 #[(vi 0), (vi 0), (vi 0), (vi 0)] 143) :: (sb b21 (Ai x1) 143) :: (sb bp0 #[(.bool j159.2.2.2.2.2.1), (.bool j159.2.2.2.2.2.2.1), (.bool j159.2.2.2.2.2.2.2.1), (.slice aj159_8 j159.2.2.2.2.2.2.2.2.1.length nj159_8), (.map (some mb0_4)), (.map (some mb0_5))] 148) :: ej159_9 :: ej159_10 :: Lf) /\ V2 F6 F9 /\ FI f [] [(4, (pt b21 0)), (6, (pt b24 0)), (7, (pt b27 0)), (9, (pt b30 0)), (12, (pt b133 0)), (13, (.bool j159.1))] /\ LC j159.2.2.2.2.2.2.2.2.1.length nj159_8 /\ SlA AK F9 aj159_8 j159.2.2.2.2.2.2.2.2.1 /\ Bc AB AM F9 mb0_4 j159.2.2.2.2.2.2.2.2.2.1 ej159_9 /\ Bc AK Aw F9 mb0_5 j159.2.2.2.2.2.2.2.2.2.2 ej159_10) (fun wd154 hw155 => ?_) ?_
      ·refine Dv [0] ?_
       refine Dl 1 (fun _ hq => (hq.1.2 3 _ _ rfl)) <| Dv [2, 3, 4, 6] <| Dl 7 (fun _ hq => (hq.1.2 3 _ _ rfl)) <| D1 5 <| Wc (l' := [true, true, true, true, true, true, true, true, false, false, false, false, false, false, false, false]) (zd := true) (by kernel_rfl) (by kernel_rfl) (dst := (some 65)) (ty := 55) (g := none) (by kernel_rfl) rfl (BD (t := 55) (x := (.tmp 64)) (b := bp0) (o := 3) (g := false) (s := 1) (C := #[(.bool x0.o_.Report), (.bool x0.o_.Serial), (.bool x0.o_.Zone), (.slice a0_3 x0.lines_.length n0_3), (.map (some mb0_4)), (.map (some mb0_5))]) (v := (.slice a0_3 x0.lines_.length n0_3)) rfl (by kernel_rfl) hw155.at5 rfl rfl rfl) (Bd hw155 (V3 _) (by simp) (fun e => by cases e)) ?_
       obtain ⟨x169, hx170, h172⟩ := bind_some hj167
       obtain ⟨hi171, hx170'⟩ := Aj hx170
       obtain ⟨b173, o174, C175, E176, fz177, rfl, hF179, hE180⟩ := Wa (V5 hs0_3 le108) hx170'
       have hc182 := hE180 _ _ hx170'
       refine Di 8 hi171 <| Dx 9 0 (fun _ hq => hq.1.1 _ _ hF179) hc182 <| D1 10 ?_
       have hs183 := hw155.pk4.pk4.pk4.pk4.pk4
       obtain ⟨r184, hr185, h186⟩ := bind_some h172
       refine DCB CY (Df N (hG.mono le108) bp0 x0 (some ⟨b173, o174, none⟩) n0_3 mb0_4 e0_4 mb0_5 e0_5 hb0_3 (V5 hs0_3 le108) (hr0_4.mono le108) (hr0_5.mono le108) x1 x169 hs183.pk7.pk7.pk7 _ hr185) ?_
       rintro _ F10 w187 _ hs188 le189 ⟨ar184_0_3, nr184_0_3, er184_0_4, er184_0_5, rfl, rfl, hbr184_0_3, hsr184_0_3, hrr184_0_4, hrr184_0_5⟩
       refine ⟨Bd hs188 le189 (by simp) (zdT (by kernel_rfl)), ?_⟩
       refine Dv [11, 12, 13] <| D1 14 <| Ut (Ai r184.2.1) hs188 le189 (fun w191 hs192 => ?_)
       refine Dv [15] ?_
       obtain rfl := Aa h186
       have hs193 := hs192.pk2.pk2.pk2.pk7.pk7
       exact Wf (by kernel_rfl) ⟨F10, ar184_0_3, nr184_0_3, er184_0_4, er184_0_5, hs193.pk7.pk7.pk7, le189, fI, hbr184_0_3, hsr184_0_3, hrr184_0_4, hrr184_0_5⟩
      ·rintro f w156 ⟨F9, aj159_8, nj159_8, ej159_9, ej159_10, hs157, le158, ⟨_, rfl⟩, hbj159_8, hsj159_8, hrj159_9, hrj159_10⟩
       obtain rfl := Aa h168
       exact .inl ⟨rfl, F9, aj159_8, nj159_8, ej159_9, ej159_10, hs157, le158, fI, hbj159_8, hsj159_8, hrj159_9, hrj159_10⟩
     ·refine Sq (Rg [0, 1] ?_)
      refine Vs 2 <| Nt ?_
      obtain ⟨j197, hj205, h206⟩ := bind_some h153
      refine V9 (fun f w => ∃ (F11 : Mem) (aj197_8 : Wo) (nj197_8 : Nat) (ej197_9 : Option Nat × Obj) (ej197_10 : Option Nat × Obj), HS wb Fb w F11 ((sb b133 #[(vi j197.2.1), (vi j197.2.2.1), (vi j197.2.2.2.1), (vi j197.2.2.2.2.1)] 143) :: (sb b30 #[(vi x2), (vi x1.at_), (sv (([] : Wn)))] 150) :: (sb b27 #[(vi 0), (vi 0), (sv (([] : Wn)))] 150) :: (sb b24 #[(vi 0), (vi 0), (vi 0), (vi 0)] 143) :: (sb b21 (Ai x1) 143) :: (sb bp0 #[(.bool j197.2.2.2.2.2.1), (.bool j197.2.2.2.2.2.2.1), (.bool j197.2.2.2.2.2.2.2.1), (.slice aj197_8 j197.2.2.2.2.2.2.2.2.1.length nj197_8), (.map (some mb0_4)), (.map (some mb0_5))] 148) :: ej197_9 :: ej197_10 :: Lf) /\ V2 F6 F11 /\ FI f [] [(4, (pt b21 0)), (6, (pt b24 0)), (7, (pt b27 0)), (9, (pt b30 0)), (12, (pt b133 0)), (13, (.bool j197.1))] /\ LC j197.2.2.2.2.2.2.2.2.1.length nj197_8 /\ SlA AK F11 aj197_8 j197.2.2.2.2.2.2.2.2.1 /\ Bc AB AM F11 mb0_4 j197.2.2.2.2.2.2.2.2.2.1 ej197_9 /\ Bc AK Aw F11 mb0_5 j197.2.2.2.2.2.2.2.2.2.2 ej197_10) ?_ ?_
      ·refine Cd hj205 (fun hb207 h208 => ?_) (fun hb207 h209 => ?_)
       ·obtain ⟨j215, hj223, h224⟩ := bind_some h208
        refine RD 17 17 [(sb b30 #[(vi x2), (vi x1.at_), (sv (([] : Wn)))] 150), (sb b27 #[(vi 0), (vi 0), (sv (([] : Wn)))] 150), (sb b24 #[(vi 0), (vi 0), (vi 0), (vi 0)] 143), (sb b21 (Ai x1) 143)] [] hs137 (fun f w => ∃ (F12 : Mem) (aj215_8 : Wo) (nj215_8 : Nat) (ej215_9 : Option Nat × Obj) (ej215_10 : Option Nat × Obj), HS wb Fb w F12 ((sb b133 #[(vi j215.2.1), (vi j215.2.2.1), (vi j215.2.2.2.1), (vi j215.2.2.2.2.1)] 143) :: (sb b30 #[(vi x2), (vi x1.at_), (sv (([] : Wn)))] 150) :: (sb b27 #[(vi 0), (vi 0), (sv (([] : Wn)))] 150) :: (sb b24 #[(vi 0), (vi 0), (vi 0), (vi 0)] 143) :: (sb b21 (Ai x1) 143) :: (sb bp0 #[(.bool j215.2.2.2.2.2.1), (.bool j215.2.2.2.2.2.2.1), (.bool j215.2.2.2.2.2.2.2.1), (.slice aj215_8 j215.2.2.2.2.2.2.2.2.1.length nj215_8), (.map (some mb0_4)), (.map (some mb0_5))] 148) :: ej215_9 :: ej215_10 :: Lf) /\ V2 F6 F12 /\ FI f [] [(4, (pt b21 0)), (6, (pt b24 0)), (7, (pt b27 0)), (9, (pt b30 0)), (12, (pt b133 0)), (13, (.bool j215.1))] /\ LC j215.2.2.2.2.2.2.2.2.1.length nj215_8 /\ SlA AK F12 aj215_8 j215.2.2.2.2.2.2.2.2.1 /\ Bc AB AM F12 mb0_4 j215.2.2.2.2.2.2.2.2.2.1 ej215_9 /\ Bc AK Aw F12 mb0_5 j215.2.2.2.2.2.2.2.2.2.2 ej215_10) (fun wd210 hw211 => ?_) ?_
        ·refine Dv [0] ?_
         refine Dl 1 (fun _ hq => (hq.1.2 3 _ _ rfl)) <| Dv [2, 3, 4, 6] <| Dl 7 (fun _ hq => (hq.1.2 3 _ _ rfl)) <| D1 5 <| Wc (l' := [true, true, true, true, true, true, true, true, false, false, false, false, false, false, false, false, false]) (zd := true) (by kernel_rfl) (by kernel_rfl) (dst := (some 81)) (ty := 55) (g := none) (by kernel_rfl) rfl (BD (t := 55) (x := (.tmp 80)) (b := bp0) (o := 3) (g := false) (s := 1) (C := #[(.bool x0.o_.Report), (.bool x0.o_.Serial), (.bool x0.o_.Zone), (.slice a0_3 x0.lines_.length n0_3), (.map (some mb0_4)), (.map (some mb0_5))]) (v := (.slice a0_3 x0.lines_.length n0_3)) rfl (by kernel_rfl) hw211.at5 rfl rfl rfl) (Bd hw211 (V3 _) (by simp) (fun e => by cases e)) ?_
         obtain ⟨x225, hx226, h228⟩ := bind_some hj223
         obtain ⟨hi227, hx226'⟩ := Aj hx226
         obtain ⟨b229, o230, C231, E232, fz233, rfl, hF235, hE236⟩ := Wa (V5 hs0_3 le108) hx226'
         have hc238 := hE236 _ _ hx226'
         refine Di 8 hi227 <| Dx 9 0 (fun _ hq => hq.1.1 _ _ hF235) hc238 <| D1 10 ?_
         obtain ⟨r239, hr240, h241⟩ := bind_some h228
         refine DCl KI hw211 (Mm N wd210 F6 hw211.pers x225 _ hr240) ?_
         rintro _ F13 w243 hs244 le245 rfl
         refine D1 11 ?_
         have hs247 := hs244.pk4.pk4.pk4.pk4.pk4
         obtain ⟨r248, hr249, h250⟩ := bind_some h241
         refine DCB CY (Df N (hG.mono (le108.t le245)) bp0 x0 (some ⟨b229, o230, none⟩) n0_3 mb0_4 e0_4 mb0_5 e0_5 hb0_3 (V5 hs0_3 (le108.t le245)) (hr0_4.mono (le108.t le245)) (hr0_5.mono (le108.t le245)) x1 r239 hs247.pk7.pk7.pk7 _ hr249) ?_
         rintro _ F14 w251 _ hs252 le253 ⟨ar248_0_3, nr248_0_3, er248_0_4, er248_0_5, rfl, rfl, hbr248_0_3, hsr248_0_3, hrr248_0_4, hrr248_0_5⟩
         refine ⟨Bd hs252 (le245.t le253) (by simp) (zdT (by kernel_rfl)), ?_⟩
         refine Dv [12, 13, 14] <| D1 15 <| Ut (Ai r248.2.1) hs252 (le245.t le253) (fun w255 hs256 => ?_)
         refine Dv [16] ?_
         obtain rfl := Aa h250
         have hs257 := hs256.pk2.pk2.pk2.pk7.pk7
         exact Wf (by kernel_rfl) ⟨F14, ar248_0_3, nr248_0_3, er248_0_4, er248_0_5, hs257.pk7.pk7.pk7, (le245.t le253), fI, hbr248_0_3, hsr248_0_3, hrr248_0_4, hrr248_0_5⟩
        ·rintro f w212 ⟨F12, aj215_8, nj215_8, ej215_9, ej215_10, hs213, le214, ⟨_, rfl⟩, hbj215_8, hsj215_8, hrj215_9, hrj215_10⟩
         obtain rfl := Aa h224
         exact .inl ⟨rfl, F12, aj215_8, nj215_8, ej215_9, ej215_10, hs213, le214, fI, hbj215_8, hsj215_8, hrj215_9, hrj215_10⟩
       ·refine Sc ?_
        obtain rfl := Aa h209
        exact .inl ⟨rfl, F6, a0_3, n0_3, e0_4, e0_5, hs137, (V3 _), fI, hb0_3, (V5 hs0_3 le108), (hr0_4.mono le108), (hr0_5.mono le108)⟩
      ·rintro f w194 ⟨F11, aj197_8, nj197_8, ej197_9, ej197_10, hs195, le196, ⟨_, rfl⟩, hbj197_8, hsj197_8, hrj197_9, hrj197_10⟩
       obtain rfl := Aa h206
       exact .inl ⟨rfl, F11, aj197_8, nj197_8, ej197_9, ej197_10, hs195, le196, fI, hbj197_8, hsj197_8, hrj197_9, hrj197_10⟩
    ·rintro f w138 ⟨F8, aj141_8, nj141_8, ej141_9, ej141_10, hs139, le140, ⟨_, rfl⟩, hbj141_8, hsj141_8, hrj141_9, hrj141_10⟩
     refine Ap <| Ab <| Sq (Rg (rG 5) ?_)
     refine Vs 1 <| Ld hs139.at4 <| Vs 2 <| St0 #[(vi (W64 (x1.at_ + 1))), (vi j141.2.2.1), (vi j141.2.2.2.1), (vi j141.2.2.2.2.1)] hs139 (fun w258 hs259 => ?_)
     refine Nss <| RD 6 6 [(sb b133 #[(vi (W64 (x1.at_ + 1))), (vi j141.2.2.1), (vi j141.2.2.2.1), (vi j141.2.2.2.2.1)] 143), (sb b30 #[(vi x2), (vi x1.at_), (sv (([] : Wn)))] 150), (sb b21 (Ai x1) 143), (sb bp0 #[(.bool j141.2.2.2.2.2.1), (.bool j141.2.2.2.2.2.2.1), (.bool j141.2.2.2.2.2.2.2.1), (.slice aj141_8 j141.2.2.2.2.2.2.2.2.1.length nj141_8), (.map (some mb0_4)), (.map (some mb0_5))] 148), ej141_9, ej141_10] [] hs259 (fun f w => ∃ (F15 : Mem), HS wb Fb w F15 ((sb b27 #[(vi x2), (vi x1.at_), (sv (([] : Wn)))] 150) :: (sb b24 #[(vi (W64 (x1.at_ + 1))), (vi j141.2.2.1), (vi j141.2.2.2.1), (vi j141.2.2.2.2.1)] 143) :: (sb bp0 #[(.bool j141.2.2.2.2.2.1), (.bool j141.2.2.2.2.2.2.1), (.bool j141.2.2.2.2.2.2.2.1), (.slice aj141_8 j141.2.2.2.2.2.2.2.2.1.length nj141_8), (.map (some mb0_4)), (.map (some mb0_5))] 148) :: ej141_9 :: ej141_10 :: Lf) /\ V2 F8 F15 /\ FI f [] [(6, (pt b24 0)), (7, (pt b27 0)), (8, (.bool j141.1))]) (fun wd260 hw261 => ?_) ?_
     ·refine Dl 0 (fun _ hq => (hq.1.2 0 _ _ rfl)) ?_
      refine Dl 1 (fun _ hq => (hq.1.2 1 _ _ rfl)) <| Dv [2] <| D1 3 <| Ut #[(vi (W64 (x1.at_ + 1))), (vi j141.2.2.1), (vi j141.2.2.2.1), (vi j141.2.2.2.2.1)] hw261 (V3 _) (fun w269 hs270 => ?_)
      refine D1 4 <| OE #[(vi x2), (vi x1.at_), (sv (([] : Wn)))] hs270 (V3 _) (fun w271 hs272 => ?_)
      refine Dv [5] ?_
      exact Wf (by kernel_rfl) ⟨F8, hs272.dr0.dr0.dr2, (V3 _), fI⟩
     ·rintro f w262 ⟨F15, hs263, le264, ⟨_, rfl⟩⟩
      refine Ab <| Rt ?_
      obtain rfl := Aa h150
      exact ⟨rfl, (.tuple #[(.agg #[(vi (W64 (x1.at_ + 1))), (vi j141.2.2.1), (vi j141.2.2.2.1), (vi j141.2.2.2.2.1)]), (.agg #[(vi x2), (vi x1.at_), (sv (([] : Wn)))]), (.bool j141.1)]), AW (l := [.cell 6 143, .cell 7 150, .tmp 8]) (by kernel_rfl) (vs := [(.agg #[(vi (W64 (x1.at_ + 1))), (vi j141.2.2.1), (vi j141.2.2.2.1), (vi j141.2.2.2.2.1)]), (.agg #[(vi x2), (vi x1.at_), (sv (([] : Wn)))]), (.bool j141.1)]) ⟨b24, 0, rfl, An (t := 143) (g := true) (s := 4) (by kernel_rfl) hs263.at1 rfl (by decide), ⟨b27, 0, rfl, An (t := 150) (g := true) (s := 3) (by kernel_rfl) hs263.at0 rfl (by decide), ⟨rfl, trivial⟩⟩⟩, F15, _, _, rfl, hs263.dr0.dr0, ((le108.t le140).trans le264), ⟨aj141_8, nj141_8, ej141_9, ej141_10, rfl, rfl, hbj141_8, (V5 hsj141_8 le264), (hrj141_9.mono le264), (hrj141_10.mono le264)⟩⟩
def Lh (N : Nat) (x0 : Int) : Option Int :=
 ((idx ([0, 0, 1, 4, 6] : List Int) x0).bind fun c21 => some c21)
theorem KG : Af Tryz.prog 112 := fun _ _ => by kernel_rfl
theorem Ml (N : Nat) (w0 : World) (F0 : Mem) (hF : Wp w0 F0) (x0 : Int) (r : Int) (h : Lh N x0 = some r) :
  Calls Tryz.prog 112 ([(vi x0)] : List Value).toArray w0 (AA w0 F0 fun F' v => v = (vi r)) := by
 have hs0 := V4 hF
 refine Go 6 Tryz.func112 <| Sq (Rg [0] ?_)
 refine Vs 1 <| Nss (Rg (rG 4) ?_)
 refine V 3 204 (JQ (t := 204) (parts := #[(2, (.const (vi 1))), (3, (.const (vi 4))), (4, (.const (vi 6)))]) (vs := [(2, (vi 1)), (3, (vi 4)), (4, (vi 6))]) rfl (cs := [(vi 0), (vi 0), (vi 1), (vi 4), (vi 6)]) (by kernel_rfl)) <| Vs 1 ?_
 obtain ⟨c21, hr22, h23⟩ := bind_some h
 refine V 5 3 (Rc (t := 204) (E := 3) (len := 5) (x := (.tmp 3)) (y := (.tmp 4)) (k := .i64) (i := x0) (cs := (([0, 0, 1, 4, 6] : List Int)).map (fun x : Int => Value.int .i64 x)) (v := (vi c21)) rfl rfl (by kernel_rfl) (by kernel_rfl) rfl (Qc (f := (fun x : Int => Value.int .i64 x)) hr22)) <| Vs 1 <| Nt <| Rt ?_
 obtain rfl := Aa h23
 exact Re [(vi c21)] hs0 rfl
def Iw (N : Nat) (x0 : Wn) (x1 : (List EC)) (m30 : Am) (r36 : Wn) (r44 : Wn) (r52 : Wn) (r60 : Wn) (r68 : Wn) : (Int × Int × Wn) -> Option (A4 (Wn × Int) (Int × Int × Wn)) := fun s95 =>
 (bif (decide (s95.2.1 < (x1.length : Int))) then ((idx x1 s95.2.1).bind fun x128 => ((bif (x128.At != s95.1) then none else (bif (decide (x128.Kind < 1)) then none else (bif (decide (x128.Kind > 4)) then none else (bif (!((x128.Kind == 4) == (x128.Text != ([] : Wn)))) then none else (bif (x128.Kind == 4) then ((CG N ([r36, r44, r52, r60, r68]) x128.Text).bind fun r178 => (bif (!r178) then none else (bif (!(x128.Kind == 4)) then some (s95.1 == (m30.lines_.length : Int)) else some false))) else (bif (!(x128.Kind == 4)) then some (s95.1 == (m30.lines_.length : Int)) else some false)))))).bind fun j150 => (bif j150 then none else (bif (x128.Kind == 4) then ((AZ x128.Text ([10] : Wn)).bind fun r201 => ((HM s95.2.2 r201).bind fun t207 => some (.next (s95.1, (W64 (s95.2.1 + 1)), t207)))) else ((bif (x128.Kind == 1) then ((idx m30.lines_ s95.1).bind fun x233 => ((AZ x233 ([10] : Wn)).bind fun r247 => ((HM s95.2.2 r247).bind fun t253 => some t253))) else (bif (x128.Kind == 2) then ((idx m30.lines_ s95.1).bind fun x262 => ((Li N x262).bind fun r276 => ((AZ r276 ([10] : Wn)).bind fun r284 => ((HM s95.2.2 r284).bind fun t290 => some t290)))) else none)).bind fun j217 => some (.next ((W64 (s95.1 + 1)), (W64 (s95.2.1 + 1)), j217))))))) else some (.done (s95.1, s95.2.1, s95.2.2)))
def Me (N : Nat) (x0 : Wn) (x1 : (List EC)) : Option (Wn × Int) :=
 ((Hv N ({ Report := false, Serial := false, Zone := false } : Ac) x0).bind fun r21 => osk r21 (some (([] : Wn), 2)) (fun m30 => ((Cn N 1).bind fun r36 => ((Cn N 2).bind fun r44 => ((Cn N 3).bind fun r52 => ((Cn N 4).bind fun r60 => ((Cn N 5).bind fun r68 => ((AJ (Iw N x0 x1 m30 r36 r44 r52 r60 r68) N (0, 0, ([] : Wn))).bind fun o => o.k (fun r => some r) (fun s109 => (bif (decide (s109.1 < (m30.lines_.length : Int))) then none else some (s109.2.2, 0)))))))))))
theorem NI : Af Tryz.prog 44 := fun _ _ => by kernel_rfl
theorem Ow (N : Nat) (w0 : World) (F0 : Mem) (hF : Wp w0 F0) (hG : Br F0) (x0 : Wn) (x1 : (List EC)) (a1_0 : Wo) (n1_0 : Nat) (hb1_0 : LC x1.length n1_0) (hs1_0 : SlA Kg F0 a1_0 x1) (r : (Wn × Int)) (h : Me N x0 x1 = some r) :
  Calls Tryz.prog 44 ([(sv x0), (.slice a1_0 x1.length n1_0)] : List Value).toArray w0 (AA w0 F0 fun F' v => v = (.tuple #[(sv r.1), (vi r.2)])) := by
 have hs0 := V4 hF
 refine Go 124 Tryz.func44 <| Sq (Rg [0, 1] ?_)
 refine Vs 2 <| Nss (Rg (rG 8) ?_)
 refine Vs 2 ?_
 obtain ⟨r21, hr22, h23⟩ := bind_some h
 refine RWP.callO (dst := (some 17)) (ty := 139) (g := none) (by kernel_rfl) rfl (f0 := (.func 108)) (aos := #[(.tmp 15), (.tmp 16)]) (ats := #[23, 9]) (fid := 108) (first := #[]) (cap := #[]) (args := [(.agg #[(.bool false), (.bool false), (.bool false)]), (sv x0)]) rfl HX rfl hs0 (IZ N w0 F0 hs0.pers hG (({ Report := false, Serial := false, Zone := false } : Ac)) x0 _ hr22) ?_
 rintro v24 F1 w25 L29 hs26 le27 hp28
 rcases r21 with _ | m30
 ·obtain ⟨rfl, rfl⟩ := Gg hp28
  have h31 := Uy h23
  have hs32 : HS w0 F0 w25 F1 [] := hs26
  refine Vs 5 <| Nss <| Sq (Rg [0, 1] ?_)
  refine Vs 2 <| Nt <| C1 (rfl : true = true) <| Sq (Rg [0, 1, 2] ?_)
  refine Vs 3 <| Nt <| Rt <| Ae ?_
  obtain rfl := Aa h31
  exact Re [(sv (([] : Wn))), (vi 2)] hs32 rfl
 ·obtain ⟨b33, am30_3, nm30_3, mbm30_4, em30_4, mbm30_5, em30_5, rfl, rfl, hbm30_3, hsm30_3, hrm30_4, hrm30_5⟩ := Gf hp28
  have h34 := Ux h23
  have hs35 : HS w0 F0 w25 F1 [(sb b33 #[(.bool m30.o_.Report), (.bool m30.o_.Serial), (.bool m30.o_.Zone), (.slice am30_3 m30.lines_.length nm30_3), (.map (some mbm30_4)), (.map (some mbm30_5))] 148), em30_4, em30_5] := hs26
  refine Vs 5 <| Nss <| Sq (Rg [0, 1] ?_)
  refine Vs 2 <| Nt <| C0 (rfl : false = false) <| Sc <| Ab <| Sq (Rg (rG 7) ?_)
  obtain ⟨r36, hr37, h38⟩ := bind_some h34
  refine Cl' B2 hs35 (Cf N w25 F1 hs35.pers 1 _ hr37) ?_
  rintro _ F2 w40 hs41 le42 rfl
  obtain ⟨r44, hr45, h46⟩ := bind_some h38
  refine Cl' B2 hs41 (Cf N w40 F2 hs41.pers 2 _ hr45) ?_
  rintro _ F3 w48 hs49 le50 rfl
  obtain ⟨r52, hr53, h54⟩ := bind_some h46
  refine Cl' B2 hs49 (Cf N w48 F3 hs49.pers 3 _ hr53) ?_
  rintro _ F4 w56 hs57 le58 rfl
  obtain ⟨r60, hr61, h62⟩ := bind_some h54
  refine Cl' B2 hs57 (Cf N w56 F4 hs57.pers 4 _ hr61) ?_
  rintro _ F5 w64 hs65 le66 rfl
  obtain ⟨r68, hr69, h70⟩ := bind_some h62
  refine Cl' B2 hs65 (Cf N w64 F5 hs65.pers 5 _ hr69) ?_
  rintro _ F6 w72 hs73 le74 rfl
  refine Bs 9 [(sv r36), (sv r44), (sv r52), (sv r60), (sv r68)] hs73 (fun b76 w77 hs78 => ?_)
  have hr80 : Ar AK 9 F6 (some ⟨b76, 0, none⟩) 5 [r36, r44, r52, r60, r68] (some b76, .cells ([(sv r36), (sv r44), (sv r52), (sv r60), (sv r68)] : List Value).toArray 9 (0, 0)) := Wi ⟨rfl, ⟨rfl, ⟨rfl, ⟨rfl, ⟨rfl, rfl⟩⟩⟩⟩⟩ (by simp)
  refine Vs 1 <| Nss (Rg [0] ?_)
  refine Al' 105 #[.pointer none, .slice none 0 0] hs78 (fun b81 w82 hs83 => ?_)
  obtain ⟨Lf84, hs85, hJ86⟩ := FD.new hs83
  have hs87 : HS w0 F0 w82 F6 ((some b76, .cells ([(sv r36), (sv r44), (sv r52), (sv r60), (sv r68)] : List Value).toArray 9 (0, 0)) :: (sb b33 #[(.bool m30.o_.Report), (.bool m30.o_.Serial), (.bool m30.o_.Zone), (.slice am30_3 m30.lines_.length nm30_3), (.map (some mbm30_4)), (.map (some mbm30_5))] 148) :: em30_4 :: em30_5 :: Lf84) := hs85
  refine Nss (Rg [0] ?_)
  refine Vs 1 <| Nss <| Sq (Rg [0, 1, 2] ?_)
  refine Vs 3 <| Nt ?_
  have hb91 := Wg hr80
  obtain ⟨F7, hs88, le89, hs90⟩ := hs87.fr0 hr80
  obtain ⟨o92, ho93, h94⟩ := bind_some h70
  refine V9 (fun f w => ∃ (s109 : (Int × Int × Wn)) (F9 : Mem) (Lf113 : Own), o92 = .done s109 /\ HS w0 F0 w F9 ((sb b33 #[(.bool m30.o_.Report), (.bool m30.o_.Serial), (.bool m30.o_.Zone), (.slice am30_3 m30.lines_.length nm30_3), (.map (some mbm30_4)), (.map (some mbm30_5))] 148) :: em30_4 :: em30_5 :: Lf113) /\ V2 F7 F9 /\ FI f [] [(6, (pt b33 0)), (9, (pt b81 0)), (10, (vi s109.1))] /\ FD b81 s109.2.2 F9 Lf113) ?_ ?_
  ·refine Bk ?_
   refine V1 (by kernel_rfl) (fun m f w => ∃ (s95 : (Int × Int × Wn)) (F8 : Mem) (Lf99 : Own), AJ (Iw N x0 x1 m30 r36 r44 r52 r60 r68) m s95 = some o92 /\ HS w0 F0 w F8 ((sb b33 #[(.bool m30.o_.Report), (.bool m30.o_.Serial), (.bool m30.o_.Zone), (.slice am30_3 m30.lines_.length nm30_3), (.map (some mbm30_4)), (.map (some mbm30_5))] 148) :: em30_4 :: em30_5 :: Lf99) /\ V2 F7 F8 /\ FI f [] [(6, (pt b33 0)), (8, (.slice (some ⟨b76, 0, none⟩) [r36, r44, r52, r60, r68].length 5)), (9, (pt b81 0)), (10, (vi s95.1)), (29, (.slice a1_0 x1.length n1_0)), (30, (vi (x1.length : Int))), (31, (vi s95.2.1))] /\ FD b81 s95.2.2 F8 Lf99) N ⟨(0, 0, ([] : Wn)), F7, Lf84, ho93, hs88, (V3 _), fI, (FD.mono _ _ _ _ hJ86 le89)⟩ ?_
   rintro m119 f w96 ⟨s95, F8, Lf99, hit120, hs97, le98, ⟨_, rfl⟩, hJ100⟩
   obtain ⟨m121, fl122, rfl, hb123, hnx124⟩ := AC hit120
   refine Sq (Rg [0] ?_)
   refine Vs 1 <| Nss <| Cd hb123 (fun hb125 h126 => ?_) (fun hb125 h127 => ?_)
   ·refine Sc ?_
    refine Ab <| Sq <| Bk <| Sq (Rg (rG 4) ?_)
    obtain ⟨x128, hx129, h131⟩ := bind_some h126
    obtain ⟨hi130, hx129'⟩ := Aj hx129
    obtain ⟨b132, o133, C134, E135, fz136, rfl, hF138, hE139⟩ := Wa (V5 hs1_0 (((((((le27.t le42).trans le50).trans le58).trans le66).trans le74).trans le89).trans le98)) hx129'
    have hc141 := hE139 _ _ hx129'
    refine Ix hi130 <| Lx 0 (hs97.pers _ _ hF138) hc141 <| Al' 150 #[(vi 0), (vi 0), (sv (([] : Wn)))] hs97 (fun b142 w143 hs144 => ?_)
    refine St0 (Gz x128) hs144 (fun w145 hs146 => ?_)
    refine Nss (Rg (rG 4) ?_)
    refine Vs 1 <| Ld hs146.at0 <| Vs 2 <| Nss <| Sq (Rg (rG 44) ?_)
    obtain ⟨j150, hj161, h162⟩ := bind_some h131
    refine V8 (fun f w => ∃ (F10 : Mem), HS w0 F0 w F10 ((sb b142 (Gz x128) 150) :: (sb b33 #[(.bool m30.o_.Report), (.bool m30.o_.Serial), (.bool m30.o_.Zone), (.slice am30_3 m30.lines_.length nm30_3), (.map (some mbm30_4)), (.map (some mbm30_5))] 148) :: em30_4 :: em30_5 :: Lf99) /\ V2 F8 F10 /\ FI f [] [(6, (pt b33 0)), (8, (.slice (some ⟨b76, 0, none⟩) [r36, r44, r52, r60, r68].length 5)), (9, (pt b81 0)), (10, (vi s95.1)), (12, (pt b142 0)), (29, (.slice (some ⟨b132, o133, none⟩) x1.length n1_0)), (30, (vi (x1.length : Int))), (31, (vi s95.2.1)), (81, (.bool j150))]) ?_ ?_
    ·refine Vs 1 ?_
     refine Ld hs146.at0 <| Vs 3 <| Sp hj161 (fun hb163 h164 => ?_) (fun hb163 h165 => ?_)
     ·cases h164
     ·refine Vgs hb163 1 ?_
      refine Lg hb163 hs146.at0 <| Vgs hb163 1 <| Pk0 hb163 <| Vs 1 <| Sp h165 (fun hb166 h167 => ?_) (fun hb166 h168 => ?_)
      ·cases h167
      ·refine Vgs hb166 1 ?_
       refine Lg hb166 hs146.at0 <| Vgs hb166 1 <| Pk0 hb166 <| Vs 1 <| Sp h168 (fun hb169 h170 => ?_) (fun hb169 h171 => ?_)
       ·cases h170
       ·refine Vgs hb169 2 ?_
        refine Lg hb169 hs146.at0 <| Vgs hb169 2 <| Pk0 hb169 <| Vs 1 <| Sp h171 (fun hb172 h173 => ?_) (fun hb172 h174 => ?_)
        ·cases h173
        ·refine Vgs hb172 2 ?_
         refine Sp h174 (fun hb175 h176 => ?_) (fun hb175 h177 => ?_)
         ·refine Vgs hb175 2 ?_
          refine Lg hb175 hs146.at0 ?_
          obtain ⟨r178, hr179, h180⟩ := bind_some h176
          refine Cg hb175 Es hs146 (EE N w145 F8 hs146.pers ([r36, r44, r52, r60, r68]) (some ⟨b76, 0, none⟩) 5 hb91 (V5 hs90 le98) x128.Text _ hr179) ?_
          rintro _ F11 w182 hs183 le184 rfl
          refine Vgs hb175 1 <| Pg1 hb172 hb175 <| Pk0 hb172 <| Vs 1 <| Sp h180 (fun hb186 h187 => ?_) (fun hb186 h188 => ?_)
          ·cases h187
          ·refine Vgs hb186 3 ?_
           refine Sp h188 (fun hb189 h190 => ?_) (fun hb189 h191 => ?_)
           ·refine Vgs hb189 4 ?_
            refine Lg hb189 hs183.at1 <| Vgs hb189 2 <| Pg1 hb186 hb189 <| Pk0 hb186 ?_
            obtain rfl := Aa h190
            exact VY ⟨rfl, F11, hs183, le184, fI⟩
           ·refine Ss hb189 7 ?_
            refine Pg0 hb186 hb189 <| Pk0 hb186 ?_
            obtain rfl := Aa h191
            exact VY ⟨rfl, F11, hs183, le184, fI⟩
         ·refine Ss hb175 5 ?_
          refine Pg0 hb172 hb175 <| Pk0 hb172 <| Vs 1 <| Vg 70 4 31 false 69 rfl (mv 13 (.bool (x128.Kind == 4))) <| Vg 71 4 31 false 69 rfl (Pb (t := 4) (x := (.tmp 70)) (a := (x128.Kind == 4)) rfl) <| Vg 72 4 31 false 69 rfl (mv 71 (.bool (!(x128.Kind == 4)))) <| Sp h177 (fun hb192 h193 => ?_) (fun hb192 h194 => ?_)
          ·refine Vgs hb192 4 ?_
           refine Lg hb192 hs146.at1 <| Vgs hb192 2 <| Vg 80 4 31 false 69 rfl (p1 72 (.tmp 79) (.const (.bool false)) (.bool (s95.1 == (m30.lines_.length : Int))) hb192) <| Pk0 (rfl : false = false) ?_
           obtain rfl := Aa h193
           exact VY ⟨rfl, F8, hs146, (V3 _), fI⟩
          ·refine Ss hb192 7 ?_
           refine Vg 80 4 31 false 69 rfl (p0 72 (.tmp 79) (.const (.bool false)) (.bool false) hb192) <| Pk0 (rfl : false = false) ?_
           obtain rfl := Aa h194
           exact VY ⟨rfl, F8, hs146, (V3 _), fI⟩
    ·rintro f w147 ⟨F10, hs148, le149, ⟨_, rfl⟩⟩
     refine Ab <| Cd h162 (fun hb195 h196 => ?_) (fun hb195 h197 => ?_)
     ·cases h196
     ·refine Sc ?_
      refine Ab <| Sq <| Sq (Rg [0, 1] ?_)
      refine Vs 1 <| Ld hs148.at0 <| Nt <| Bk <| Sq (Rg [0, 1] ?_)
      refine Vs 2 <| Nt <| Cd h197 (fun hb198 h199 => ?_) (fun hb198 h200 => ?_)
      ·refine Sq (Rg (rG 4) ?_)
       refine Vs 1 <| Ld hs148.at0 ?_
       obtain ⟨r201, hr202, h203⟩ := bind_some h199
       refine V 88 9 (Av (t := 9) (t' := 9) (x := (.tmp 87)) (y := (.const (sv ([10] : Wn)))) (a := x128.Text) (b := ([10] : Wn)) (v := r201) rfl rfl hr202) ?_
       obtain ⟨t207, ht208, h209⟩ := bind_some h203
       refine CB Bp (DN (L := [(sb b142 (Gz x128) 150), (sb b33 #[(.bool m30.o_.Report), (.bool m30.o_.Serial), (.bool m30.o_.Zone), (.slice am30_3 m30.lines_.length nm30_3), (.map (some mbm30_4)), (.map (some mbm30_5))] 148), em30_4, em30_5]) ht208 (FD.mono _ _ _ _ hJ100 le149) hs148) ?_
       rintro _ F12 w204 _ hs205 le206 ⟨rfl, Lf210, rfl, hJ211⟩
       have hs212 : HS w0 F0 w204 F12 ((sb b142 (Gz x128) 150) :: (sb b33 #[(.bool m30.o_.Report), (.bool m30.o_.Serial), (.bool m30.o_.Zone), (.slice am30_3 m30.lines_.length nm30_3), (.map (some mbm30_4)), (.map (some mbm30_5))] 148) :: em30_4 :: em30_5 :: Lf210) := hs205
       refine Nt <| Ex <| Mn (by decide) <| Al <| Ay rfl <| Ab <| Rg [0, 1] <| Vs 2 <| VY ?_
       have hn213 := AD h209 hnx124
       exact ⟨m121, Nat.lt_succ_self _, (s95.1, (W64 (s95.2.1 + 1)), t207), F12, Lf210, hn213, hs212.dr0, ((le98.t le149).trans le206), fI, hJ211⟩
      ·refine Sq (Rg [0, 1] ?_)
       refine Vs 2 <| Nt ?_
       obtain ⟨j217, hj228, h229⟩ := bind_some h200
       refine V9 (fun f w => ∃ (F13 : Mem) (Lf218 : Own), HS w0 F0 w F13 ((sb b33 #[(.bool m30.o_.Report), (.bool m30.o_.Serial), (.bool m30.o_.Zone), (.slice am30_3 m30.lines_.length nm30_3), (.map (some mbm30_4)), (.map (some mbm30_5))] 148) :: em30_4 :: em30_5 :: Lf218) /\ V2 F10 F13 /\ FI f [] [(6, (pt b33 0)), (8, (.slice (some ⟨b76, 0, none⟩) [r36, r44, r52, r60, r68].length 5)), (9, (pt b81 0)), (10, (vi s95.1)), (29, (.slice (some ⟨b132, o133, none⟩) x1.length n1_0)), (30, (vi (x1.length : Int))), (31, (vi s95.2.1))] /\ FD b81 j217 F13 Lf218) ?_ ?_
       ·refine Cd hj228 (fun hb230 h231 => ?_) (fun hb230 h232 => ?_)
        ·refine Rg (rG 9) ?_
         refine Vs 3 <| Ld hs148.at1 <| Vs 1 ?_
         obtain ⟨x233, hx234, h236⟩ := bind_some h231
         obtain ⟨hi235, hx234'⟩ := Aj hx234
         obtain ⟨b237, o238, C239, E240, fz241, rfl, hF243, hE244⟩ := Wa (V5 hsm30_3 (((((((le42.t le50).trans le58).trans le66).trans le74).trans le89).trans le98).trans le149)) hx234'
         have hc246 := hE244 _ _ hx234'
         refine Ix hi235 <| Lx 0 (hs148.pers _ _ hF243) hc246 ?_
         obtain ⟨r247, hr248, h249⟩ := bind_some h236
         refine V 99 9 (Av (t := 9) (t' := 9) (x := (.tmp 98)) (y := (.const (sv ([10] : Wn)))) (a := x233) (b := ([10] : Wn)) (v := r247) rfl rfl hr248) ?_
         obtain ⟨t253, ht254, h255⟩ := bind_some h249
         refine CB Bp (DN (L := [(sb b142 (Gz x128) 150), (sb b33 #[(.bool m30.o_.Report), (.bool m30.o_.Serial), (.bool m30.o_.Zone), (.slice (some ⟨b237, o238, none⟩) m30.lines_.length nm30_3), (.map (some mbm30_4)), (.map (some mbm30_5))] 148), em30_4, em30_5]) ht254 (FD.mono _ _ _ _ hJ100 le149) hs148) ?_
         rintro _ F14 w250 _ hs251 le252 ⟨rfl, Lf256, rfl, hJ257⟩
         have hs258 : HS w0 F0 w250 F14 ((sb b142 (Gz x128) 150) :: (sb b33 #[(.bool m30.o_.Report), (.bool m30.o_.Serial), (.bool m30.o_.Zone), (.slice (some ⟨b237, o238, none⟩) m30.lines_.length nm30_3), (.map (some mbm30_4)), (.map (some mbm30_5))] 148) :: em30_4 :: em30_5 :: Lf256) := hs251
         refine VY ?_
         obtain rfl := Aa h255
         exact .inl ⟨rfl, F14, Lf256, hs258.dr0, le252, fI, hJ257⟩
        ·refine Sq (Rg [0, 1] ?_)
         refine Vs 2 <| Nt <| Cd h232 (fun hb259 h260 => ?_) (fun hb259 h261 => ?_)
         ·refine Rg (rG 10) ?_
          refine Vs 3 <| Ld hs148.at1 <| Vs 1 ?_
          obtain ⟨x262, hx263, h265⟩ := bind_some h260
          obtain ⟨hi264, hx263'⟩ := Aj hx263
          obtain ⟨b266, o267, C268, E269, fz270, rfl, hF272, hE273⟩ := Wa (V5 hsm30_3 (((((((le42.t le50).trans le58).trans le66).trans le74).trans le89).trans le98).trans le149)) hx263'
          have hc275 := hE273 _ _ hx263'
          refine Ix hi264 <| Lx 0 (hs148.pers _ _ hF272) hc275 ?_
          obtain ⟨r276, hr277, h278⟩ := bind_some h265
          refine Cl' KI hs148 (Mm N w147 F10 hs148.pers x262 _ hr277) ?_
          rintro _ F15 w280 hs281 le282 rfl
          obtain ⟨r284, hr285, h286⟩ := bind_some h278
          refine V 111 9 (Av (t := 9) (t' := 9) (x := (.tmp 110)) (y := (.const (sv ([10] : Wn)))) (a := r276) (b := ([10] : Wn)) (v := r284) rfl rfl hr285) ?_
          obtain ⟨t290, ht291, h292⟩ := bind_some h286
          refine CB Bp (DN (L := [(sb b142 (Gz x128) 150), (sb b33 #[(.bool m30.o_.Report), (.bool m30.o_.Serial), (.bool m30.o_.Zone), (.slice (some ⟨b266, o267, none⟩) m30.lines_.length nm30_3), (.map (some mbm30_4)), (.map (some mbm30_5))] 148), em30_4, em30_5]) ht291 (FD.mono _ _ _ _ hJ100 (le149.t le282)) hs281) ?_
          rintro _ F16 w287 _ hs288 le289 ⟨rfl, Lf293, rfl, hJ294⟩
          have hs295 : HS w0 F0 w287 F16 ((sb b142 (Gz x128) 150) :: (sb b33 #[(.bool m30.o_.Report), (.bool m30.o_.Serial), (.bool m30.o_.Zone), (.slice (some ⟨b266, o267, none⟩) m30.lines_.length nm30_3), (.map (some mbm30_4)), (.map (some mbm30_5))] 148) :: em30_4 :: em30_5 :: Lf293) := hs288
          refine VY ?_
          obtain rfl := Aa h292
          exact .inl ⟨rfl, F16, Lf293, hs295.dr0, (le282.t le289), fI, hJ294⟩
         ·cases h261
       ·rintro f w214 ⟨F13, Lf218, hs215, le216, ⟨_, rfl⟩, hJ219⟩
        refine Ap <| Ab <| Rg [0, 1, 2] <| Vs 3 <| VY <| Ap <| Ab <| Rg [0, 1] <| Vs 2 <| VY ?_
        have hn296 := AD h229 hnx124
        exact ⟨m121, Nat.lt_succ_self _, ((W64 (s95.1 + 1)), (W64 (s95.2.1 + 1)), j217), F13, Lf218, hn296, hs215, ((le98.t le149).trans le216), fI, hJ219⟩
   ·refine Ex ?_
    refine Al <| Al <| Ay rfl ?_
    have ho297 := AE h127 hnx124
    exact .inl ⟨rfl, (s95.1, s95.2.1, s95.2.2), F8, Lf99, ho297, hs97, le98, fI, hJ100⟩
  ·rintro f w110 ⟨s109, F9, Lf113, rfl, hs111, le112, ⟨_, rfl⟩, hJ114⟩
   have h298 := A6 h94
   refine Ab <| Sq <| Sq (Rg (rG 7) ?_)
   refine Vs 4 <| Ld hs111.at0 <| Vs 2 <| Nt <| Cd h298 (fun hb299 h300 => ?_) (fun hb299 h301 => ?_)
   ·cases h300
   ·refine Sc ?_
    refine Ab <| Sq (Rg [0, 1, 2] ?_)
    refine CB NL (O3 (L := [(sb b33 #[(.bool m30.o_.Report), (.bool m30.o_.Serial), (.bool m30.o_.Zone), (.slice am30_3 m30.lines_.length nm30_3), (.map (some mbm30_4)), (.map (some mbm30_5))] 148), em30_4, em30_5]) hJ114 hs111) ?_
    rintro _ _ w302 _ hs303 _ ⟨rfl, rfl, rfl⟩
    refine Vs 2 <| Nt <| Rt ?_
    obtain rfl := Aa h301
    exact Re [(sv s109.2.2), (vi 0)] hs303 rfl
def PM (sR109 : Am -> Ao -> Option (Am × Int)) : Prop := ∀ {wb w0 : World} {Fb F0 : Mem} {Lf : Own} (hG : Br F0) (bp0 : Nat) (x0 : Am) (a0_3 : Wo) (n0_3 : Nat) (mb0_4 : Nat) (e0_4 : Option Nat × Obj) (mb0_5 : Nat) (e0_5 : Option Nat × Obj) (hb0_3 : LC x0.lines_.length n0_3) (hs0_3 : SlA AK F0 a0_3 x0.lines_) (hr0_4 : Bc AB AM F0 mb0_4 x0.known_ e0_4) (hr0_5 : Bc AK Aw F0 mb0_5 x0.read_ e0_5) (x1 : Ao) (hs0 : HS wb Fb w0 F0 ((some bp0, (.cells #[(.bool x0.o_.Report), (.bool x0.o_.Serial), (.bool x0.o_.Zone), (.slice a0_3 x0.lines_.length n0_3), (.map (some mb0_4)), (.map (some mb0_5))] 148 (0, 0))) :: e0_4 :: e0_5 :: Lf)) (r : (Am × Int)), sR109 x0 x1 = some r -> Calls Tryz.prog 109 ([(.pointer (some ⟨bp0, 0, none⟩)), (.agg #[(.int .i64 x1.at_), (.int .i64 x1.stage_), (.int .i64 x1.num_), (.int .i64 x1.minute_)])] : List Value).toArray w0 (ER wb Fb F0 fun F' v L' => ∃ (aq0_3 : Wo) (nq0_3 : Nat) (eq0_4 : Option Nat × Obj) (eq0_5 : Option Nat × Obj), v = (.int .i64 r.2) /\ L' = (some bp0, (.cells #[(.bool r.1.o_.Report), (.bool r.1.o_.Serial), (.bool r.1.o_.Zone), (.slice aq0_3 r.1.lines_.length nq0_3), (.map (some mb0_4)), (.map (some mb0_5))] 148 (0, 0))) :: eq0_4 :: eq0_5 :: Lf /\ LC r.1.lines_.length nq0_3 /\ SlA AK F' aq0_3 r.1.lines_ /\ Bc AB AM F' mb0_4 r.1.known_ eq0_4 /\ Bc AK Aw F' mb0_5 r.1.read_ eq0_5)
theorem Cl : Af Tryz.prog 109 := fun _ _ => by kernel_rfl
def E9 (N : Nat) (sR109 : Am -> Ao -> Option (Am × Int)) (x0 : Am) (x1 : Ao) : (Int × Int × Bool × Bool × Bool × List Wn × List (Ao × Int) × List (Wn × Au)) -> Option (A4 (Am × Int) (Int × Int × Bool × Bool × Bool × List Wn × List (Ao × Int) × List (Wn × Au))) := fun s53 =>
 (bif (decide (s53.2.1 <= 4)) then ((EK N ({ o_ := ({ Report := s53.2.2.1, Serial := s53.2.2.2.1, Zone := s53.2.2.2.2.1 } : Ac), lines_ := s53.2.2.2.2.2.1, known_ := s53.2.2.2.2.2.2.1, read_ := s53.2.2.2.2.2.2.2 } : Am) x1 s53.2.1).bind fun r79 => ((bif r79.2.2.2 then (((Lh N s53.2.1).bind fun r123 => ((sR109 r79.1 r79.2.1).bind fun r132 => some ((min s53.1 (W64 (r123 + r132.2))), r132.1.o_.Report, r132.1.o_.Serial, r132.1.o_.Zone, r132.1.lines_, r132.1.known_, r132.1.read_))).bind fun j115 => some (j115.1, j115.2.1, j115.2.2.1, j115.2.2.2.1, j115.2.2.2.2.1, j115.2.2.2.2.2.1, j115.2.2.2.2.2.2)) else some (s53.1, r79.1.o_.Report, r79.1.o_.Serial, r79.1.o_.Zone, r79.1.lines_, r79.1.known_, r79.1.read_)).bind fun j99 => some (.next (j99.1, (W64 (s53.2.1 + 1)), j99.2.1, j99.2.2.1, j99.2.2.2.1, j99.2.2.2.2.1, j99.2.2.2.2.2.1, j99.2.2.2.2.2.2)))) else some (.done (s53.1, s53.2.1, s53.2.2.1, s53.2.2.2.1, s53.2.2.2.2.1, s53.2.2.2.2.2.1, s53.2.2.2.2.2.2.1, s53.2.2.2.2.2.2.2)))
def Fm (N : Nat) (sR109 : Am -> Ao -> Option (Am × Int)) (x0 : Am) (x1 : Ao) : Option (Am × Int) :=
 (bif ((x1.at_ == (x0.lines_.length : Int)) && (x1.stage_ == 6)) then some (x0, 0) else (bif (Po x0.known_ x1) then some (x0, (DB x0.known_ x1 0)) else ((AJ (E9 N sR109 x0 x1) N (1099511627776, 1, x0.o_.Report, x0.o_.Serial, x0.o_.Zone, x0.lines_, x0.known_, x0.read_)).bind fun o => o.k (fun r => some r) (fun s62 => ((some (N8 s62.2.2.2.2.2.2.1 x1 s62.1)).bind fun j147 => some (({ o_ := ({ Report := s62.2.2.1, Serial := s62.2.2.2.1, Zone := s62.2.2.2.2.1 } : Ac), lines_ := s62.2.2.2.2.2.1, known_ := j147, read_ := s62.2.2.2.2.2.2.2 } : Am), s62.1))))))
theorem I2 (N : Nat) (sR109 : Am -> Ao -> Option (Am × Int)) (hsR109 : PM sR109) {wb w0 : World} {Fb F0 : Mem} {Lf : Own} (hG : Br F0) (bp0 : Nat) (x0 : Am) (a0_3 : Wo) (n0_3 : Nat) (mb0_4 : Nat) (e0_4 : Option Nat × Obj) (mb0_5 : Nat) (e0_5 : Option Nat × Obj) (hb0_3 : LC x0.lines_.length n0_3) (hs0_3 : SlA AK F0 a0_3 x0.lines_) (hr0_4 : Bc AB AM F0 mb0_4 x0.known_ e0_4) (hr0_5 : Bc AK Aw F0 mb0_5 x0.read_ e0_5) (x1 : Ao) (hs0 : HS wb Fb w0 F0 ((sb bp0 #[(.bool x0.o_.Report), (.bool x0.o_.Serial), (.bool x0.o_.Zone), (.slice a0_3 x0.lines_.length n0_3), (.map (some mb0_4)), (.map (some mb0_5))] 148) :: e0_4 :: e0_5 :: Lf)) (r : (Am × Int)) (h : Fm N sR109 x0 x1 = some r) :
  Calls Tryz.prog 109 ([(pt bp0 0), (.agg (Ai x1))] : List Value).toArray w0 (ER wb Fb F0 fun F' v L' => ∃ (aq0_3 : Wo) (nq0_3 : Nat) (eq0_4 : Option Nat × Obj) (eq0_5 : Option Nat × Obj), v = (vi r.2) /\ L' = (sb bp0 #[(.bool r.1.o_.Report), (.bool r.1.o_.Serial), (.bool r.1.o_.Zone), (.slice aq0_3 r.1.lines_.length nq0_3), (.map (some mb0_4)), (.map (some mb0_5))] 148) :: eq0_4 :: eq0_5 :: Lf /\ LC r.1.lines_.length nq0_3 /\ SlA AK F' aq0_3 r.1.lines_ /\ Bc AB AM F' mb0_4 r.1.known_ eq0_4 /\ Bc AK Aw F' mb0_5 r.1.read_ eq0_5) := by
 refine Go 64 Tryz.func109 <| Sq (Rg [0, 1] ?_)
 refine Bx' 143 (Ai x1) hs0 (fun b21 w22 hs23 => ?_)
 refine Vs 1 <| Nss <| Sq <| RD 13 13 [(sb b21 (Ai x1) 143), (sb bp0 #[(.bool x0.o_.Report), (.bool x0.o_.Serial), (.bool x0.o_.Zone), (.slice a0_3 x0.lines_.length n0_3), (.map (some mb0_4)), (.map (some mb0_5))] 148), e0_4, e0_5] [] hs23 (fun f w => ∃ (F1 : Mem), HS wb Fb w F1 ((sb b21 (Ai x1) 143) :: (sb bp0 #[(.bool x0.o_.Report), (.bool x0.o_.Serial), (.bool x0.o_.Zone), (.slice a0_3 x0.lines_.length n0_3), (.map (some mb0_4)), (.map (some mb0_5))] 148) :: e0_4 :: e0_5 :: Lf) /\ V2 F0 F1 /\ FI f [] [(0, (pt bp0 0)), (3, (pt b21 0)), (24, (.bool ((x1.at_ == (x0.lines_.length : Int)) && (x1.stage_ == 6))))]) (fun wd24 hw25 => ?_) ?_
 ·refine Dv [0] ?_
  refine Dl 1 (fun _ hq => (hq.1.2 0 _ _ rfl)) <| Dv [2, 3, 4] <| Dl 5 (fun _ hq => (hq.1.2 1 _ _ rfl)) <| Dv [6, 7, 8] <| DWP.split (x1.at_ == (x0.lines_.length : Int)) (fun hb33 => ?_) (fun hb33 => ?_)
  ·refine Dg 9 21 0 (pt b21 1) 8 true 20 hb33 (fun _ hq => fa 143 3 1 1 1 b21 0 1) ?_
   refine Dg 10 22 3 _ 8 true 20 hb33 (fun _ hq => ld 3 21 b21 1 false 1 (vi x1.stage_) (hq.1.2 0 _ _ rfl)) <| Dg 11 23 4 (.bool (x1.stage_ == 6)) 8 true 20 hb33 (fun _ hq => Hq (t := 3) (t' := 3) (x := (.tmp 22)) (y := (.const (vi 6))) (k := .i64) (a := x1.stage_) (b := 6) rfl rfl) <| Dt 12 24 4 _ (fun _ hq => p1 20 (.tmp 23) (.const (.bool false)) (.bool (x1.stage_ == 6)) hb33) ?_
   exact Wf (by kernel_rfl) ⟨F0, hw25, (V3 _), (fJ ⟨rfl, rfl, (congrArg Value.bool (Hl hb33 rfl)), trivial⟩)⟩
  ·refine Dk [(9, 21), (10, 22), (11, 23)] 8 true 20 hb33 ?_
   refine Dt 12 24 4 _ (fun _ hq => p0 20 (.tmp 23) (.const (.bool false)) (.bool false) hb33) ?_
   exact Wf (by kernel_rfl) ⟨F0, hw25, (V3 _), (fJ ⟨rfl, rfl, (congrArg Value.bool (H7 hb33 rfl)), trivial⟩)⟩
 ·rintro f w26 ⟨F1, hs27, le28, ⟨_, rfl⟩⟩
  refine Ab <| Cd h (fun hb34 h35 => ?_) (fun hb34 h36 => ?_)
  ·refine Sq (Rg [0] ?_)
   refine Vs 1 <| Nt <| Rt <| Ae ?_
   obtain rfl := Aa h35
   exact ReB [(vi 0)] hs27.dr0 le28 ⟨a0_3, n0_3, e0_4, e0_5, rfl, rfl, hb0_3, (V5 hs0_3 le28), (hr0_4.mono le28), (hr0_5.mono le28)⟩
  ·refine Sc ?_
   refine Ab <| Sq <| Sq <| RD 11 11 [(sb b21 (Ai x1) 143), (sb bp0 #[(.bool x0.o_.Report), (.bool x0.o_.Serial), (.bool x0.o_.Zone), (.slice a0_3 x0.lines_.length n0_3), (.map (some mb0_4)), (.map (some mb0_5))] 148), e0_4, e0_5] [] hs27 (fun f w => ∃ (F2 : Mem), HS wb Fb w F2 ((sb b21 (Ai x1) 143) :: (sb bp0 #[(.bool x0.o_.Report), (.bool x0.o_.Serial), (.bool x0.o_.Zone), (.slice a0_3 x0.lines_.length n0_3), (.map (some mb0_4)), (.map (some mb0_5))] 148) :: e0_4 :: e0_5 :: Lf) /\ V2 F1 F2 /\ FI f [] [(0, (pt bp0 0)), (3, (pt b21 0)), (5, (vi (DB x0.known_ x1 0))), (6, (.bool (Po x0.known_ x1)))]) (fun wd37 hw38 => ?_) ?_
   ·refine Dv [0, 1, 2] ?_
    refine Dl 3 (fun _ hq => (hq.1.2 1 _ _ rfl)) <| Dl 4 (fun _ hq => (hq.1.2 0 _ _ rfl)) <| Dt 5 31 119 (.tuple #[(vi (DB x0.known_ x1 0)), (.bool (Po x0.known_ x1))]) (fun _ hq => M5 (mt := 145) (k := 143) (vt := 3) (m := (.tmp 29)) (x := (.tmp 30)) (kv := (.agg (Ai x1))) (kx := x1) (z := (vi 0)) (zx := 0) (K := AB) (T := AM) UB rfl rfl ⟨_, rfl, rfl⟩ (by kernel_rfl) (by kernel_rfl) ⟨_, rfl, rfl⟩ (Bc.mpwD (i := 2) hq.1 rfl (hr0_4.mono le28)) (fun h => by obtain ⟨_, rfl, rfl⟩ := h; rfl)) <| Dv [6, 7, 8, 9, 10] ?_
    exact Wf (by kernel_rfl) ⟨F1, hw38, (V3 _), fI⟩
   ·rintro f w39 ⟨F2, hs40, le41, ⟨_, rfl⟩⟩
    refine Ab <| Sq (Rg [0] ?_)
    refine Vs 1 <| Nt <| Cd h36 (fun hb47 h48 => ?_) (fun hb47 h49 => ?_)
    ·refine Sq (Rg [0, 1] ?_)
     refine Vs 2 <| Nt <| Rt <| Ae ?_
     obtain rfl := Aa h48
     exact ReB [(vi (DB x0.known_ x1 0))] hs40.dr0 (le28.t le41) ⟨a0_3, n0_3, e0_4, e0_5, rfl, rfl, hb0_3, (V5 hs0_3 (le28.t le41)), (hr0_4.mono (le28.t le41)), (hr0_5.mono (le28.t le41))⟩
    ·refine Sc ?_
     refine Ab <| Sq (Rg [0] ?_)
     refine Vs 1 <| Nss <| Sq (Rg [0] ?_)
     refine Vs 1 <| Nt ?_
     obtain ⟨o50, ho51, h52⟩ := bind_some h49
     refine V9 (fun f w => ∃ (s62 : (Int × Int × Bool × Bool × Bool × List Wn × List (Ao × Int) × List (Wn × Au))) (F4 : Mem) (as62_5 : Wo) (ns62_5 : Nat) (es62_6 : Option Nat × Obj) (es62_7 : Option Nat × Obj), o50 = .done s62 /\ HS wb Fb w F4 ((sb b21 (Ai x1) 143) :: (sb bp0 #[(.bool s62.2.2.1), (.bool s62.2.2.2.1), (.bool s62.2.2.2.2.1), (.slice as62_5 s62.2.2.2.2.2.1.length ns62_5), (.map (some mb0_4)), (.map (some mb0_5))] 148) :: es62_6 :: es62_7 :: Lf) /\ V2 F2 F4 /\ FI f [] [(0, (pt bp0 0)), (3, (pt b21 0)), (7, (vi s62.1))] /\ LC s62.2.2.2.2.2.1.length ns62_5 /\ SlA AK F4 as62_5 s62.2.2.2.2.2.1 /\ Bc AB AM F4 mb0_4 s62.2.2.2.2.2.2.1 es62_6 /\ Bc AK Aw F4 mb0_5 s62.2.2.2.2.2.2.2 es62_7) ?_ ?_
     ·refine Bk ?_
      refine V1 (by kernel_rfl) (fun m f w => ∃ (s53 : (Int × Int × Bool × Bool × Bool × List Wn × List (Ao × Int) × List (Wn × Au))) (F3 : Mem) (as53_5 : Wo) (ns53_5 : Nat) (es53_6 : Option Nat × Obj) (es53_7 : Option Nat × Obj), AJ (E9 N sR109 x0 x1) m s53 = some o50 /\ HS wb Fb w F3 ((sb b21 (Ai x1) 143) :: (sb bp0 #[(.bool s53.2.2.1), (.bool s53.2.2.2.1), (.bool s53.2.2.2.2.1), (.slice as53_5 s53.2.2.2.2.2.1.length ns53_5), (.map (some mb0_4)), (.map (some mb0_5))] 148) :: es53_6 :: es53_7 :: Lf) /\ V2 F2 F3 /\ FI f [] [(0, (pt bp0 0)), (3, (pt b21 0)), (7, (vi s53.1)), (8, (vi s53.2.1))] /\ LC s53.2.2.2.2.2.1.length ns53_5 /\ SlA AK F3 as53_5 s53.2.2.2.2.2.1 /\ Bc AB AM F3 mb0_4 s53.2.2.2.2.2.2.1 es53_6 /\ Bc AK Aw F3 mb0_5 s53.2.2.2.2.2.2.2 es53_7) N ⟨(1099511627776, 1, x0.o_.Report, x0.o_.Serial, x0.o_.Zone, x0.lines_, x0.known_, x0.read_), F2, a0_3, n0_3, e0_4, e0_5, ho51, hs40, (V3 _), fI, hb0_3, (V5 hs0_3 (le28.t le41)), (hr0_4.mono (le28.t le41)), (hr0_5.mono (le28.t le41))⟩ ?_
      rintro m70 f w54 ⟨s53, F3, as53_5, ns53_5, es53_6, es53_7, hit71, hs55, le56, ⟨_, rfl⟩, hbs53_5, hss53_5, hrs53_6, hrs53_7⟩
      obtain ⟨m72, fl73, rfl, hb74, hnx75⟩ := AC hit71
      refine Sq <| Sq (Rg [0, 1] ?_)
      refine Vs 2 <| Nt <| Cd hb74 (fun hb76 h77 => ?_) (fun hb76 h78 => ?_)
      ·refine Sc ?_
       refine Ab <| Sq <| Bk <| Sq (Rg (rG 13) ?_)
       refine Vs 1 <| Ld hs55.at0 <| Vs 1 ?_
       obtain ⟨r79, hr80, h81⟩ := bind_some h77
       refine CB Ft (FY N (hG.mono ((le28.t le41).trans le56)) bp0 (({ o_ := ({ Report := s53.2.2.1, Serial := s53.2.2.2.1, Zone := s53.2.2.2.2.1 } : Ac), lines_ := s53.2.2.2.2.2.1, known_ := s53.2.2.2.2.2.2.1, read_ := s53.2.2.2.2.2.2.2 } : Am)) as53_5 ns53_5 mb0_4 es53_6 mb0_5 es53_7 hbs53_5 hss53_5 hrs53_6 hrs53_7 x1 s53.2.1 hs55.pk3.pk3.pk3 _ hr80) ?_
       rintro _ F5 w82 _ hs83 le84 ⟨ar79_0_3, nr79_0_3, er79_0_4, er79_0_5, rfl, rfl, hbr79_0_3, hsr79_0_3, hrr79_0_4, hrr79_0_5⟩
       refine Vs 4 <| Al' 143 #[(vi 0), (vi 0), (vi 0), (vi 0)] hs83 (fun b86 w87 hs88 => ?_)
       refine Al' 150 #[(vi 0), (vi 0), (sv (([] : Wn)))] hs88 (fun b89 w90 hs91 => ?_)
       refine St1 (Ai r79.2.1) hs91 (fun w92 hs93 => ?_)
       refine St0 (Gz r79.2.2.1) hs93 (fun w94 hs95 => ?_)
       refine Vs 1 <| Nss (Rg [0] ?_)
       refine Vs 1 <| Nt ?_
       obtain ⟨j99, hj105, h106⟩ := bind_some h81
       refine V9 (fun f w => ∃ (F6 : Mem) (aj99_4 : Wo) (nj99_4 : Nat) (ej99_5 : Option Nat × Obj) (ej99_6 : Option Nat × Obj), HS wb Fb w F6 ((sb bp0 #[(.bool j99.2.1), (.bool j99.2.2.1), (.bool j99.2.2.2.1), (.slice aj99_4 j99.2.2.2.2.1.length nj99_4), (.map (some mb0_4)), (.map (some mb0_5))] 148) :: ej99_5 :: ej99_6 :: (sb b21 (Ai x1) 143) :: Lf) /\ V2 F5 F6 /\ FI f [] [(0, (pt bp0 0)), (3, (pt b21 0)), (7, (vi j99.1)), (8, (vi s53.2.1))] /\ LC j99.2.2.2.2.1.length nj99_4 /\ SlA AK F6 aj99_4 j99.2.2.2.2.1 /\ Bc AB AM F6 mb0_4 j99.2.2.2.2.2.1 ej99_5 /\ Bc AK Aw F6 mb0_5 j99.2.2.2.2.2.2 ej99_6) ?_ ?_
       ·refine Cd hj105 (fun hb107 h108 => ?_) (fun hb107 h109 => ?_)
        ·obtain ⟨j115, hj121, h122⟩ := bind_some h108
         refine RD 9 9 [(sb b89 (Gz r79.2.2.1) 150), (sb b86 (Ai r79.2.1) 143), (sb b21 (Ai x1) 143)] [] hs95 (fun f w => ∃ (F7 : Mem) (aj115_4 : Wo) (nj115_4 : Nat) (ej115_5 : Option Nat × Obj) (ej115_6 : Option Nat × Obj), HS wb Fb w F7 ((sb bp0 #[(.bool j115.2.1), (.bool j115.2.2.1), (.bool j115.2.2.2.1), (.slice aj115_4 j115.2.2.2.2.1.length nj115_4), (.map (some mb0_4)), (.map (some mb0_5))] 148) :: ej115_5 :: ej115_6 :: (sb b21 (Ai x1) 143) :: Lf) /\ V2 F5 F7 /\ FI f [] [(0, (pt bp0 0)), (3, (pt b21 0)), (7, (vi j115.1)), (8, (vi s53.2.1))] /\ LC j115.2.2.2.2.1.length nj115_4 /\ SlA AK F7 aj115_4 j115.2.2.2.2.1 /\ Bc AB AM F7 mb0_4 j115.2.2.2.2.2.1 ej115_5 /\ Bc AK Aw F7 mb0_5 j115.2.2.2.2.2.2 ej115_6) (fun wd110 hw111 => ?_) ?_
         ·refine Dv [0, 1, 3] ?_
          refine Dl 4 (fun _ hq => (hq.1.2 1 _ _ rfl)) <| D1 2 ?_
          obtain ⟨r123, hr124, h125⟩ := bind_some hj121
          refine DCl KG hw111 (Ml N wd110 F5 hw111.pers s53.2.1 _ hr124) ?_
          rintro _ F8 w127 hs128 le129 rfl
          refine D1 5 ?_
          have hs131 := hs128.pk5.pk2.pk2.pk5.pk5
          obtain ⟨r132, hr133, h134⟩ := bind_some h125
          refine DCB Cl (hsR109 (hG.mono ((((le28.t le41).trans le56).trans le84).trans le129)) bp0 r79.1 ar79_0_3 nr79_0_3 mb0_4 er79_0_4 mb0_5 er79_0_5 hbr79_0_3 (V5 hsr79_0_3 le129) (hrr79_0_4.mono le129) (hrr79_0_5.mono le129) r79.2.1 hs131.pk5 _ hr133) ?_
          rintro _ F9 w135 _ hs136 le137 ⟨ar132_0_3, nr132_0_3, er132_0_4, er132_0_5, rfl, rfl, hbr132_0_3, hsr132_0_3, hrr132_0_4, hrr132_0_5⟩
          refine ⟨Bd hs136 (le129.t le137) (by simp) (zdT (by kernel_rfl)), ?_⟩
          refine Dv [6, 7, 8] ?_
          obtain rfl := Aa h134
          exact Wf (by kernel_rfl) ⟨F9, ar132_0_3, nr132_0_3, er132_0_4, er132_0_5, hs136.dr3.dr3, (le129.t le137), fI, hbr132_0_3, hsr132_0_3, hrr132_0_4, hrr132_0_5⟩
         ·rintro f w112 ⟨F7, aj115_4, nj115_4, ej115_5, ej115_6, hs113, le114, ⟨_, rfl⟩, hbj115_4, hsj115_4, hrj115_5, hrj115_6⟩
          obtain rfl := Aa h122
          exact .inl ⟨rfl, F7, aj115_4, nj115_4, ej115_5, ej115_6, hs113, le114, fI, hbj115_4, hsj115_4, hrj115_5, hrj115_6⟩
        ·refine Sc ?_
         obtain rfl := Aa h109
         exact .inl ⟨rfl, F5, ar79_0_3, nr79_0_3, er79_0_4, er79_0_5, hs95.dr0.dr0, (V3 _), fI, hbr79_0_3, hsr79_0_3, hrr79_0_4, hrr79_0_5⟩
       ·rintro f w96 ⟨F6, aj99_4, nj99_4, ej99_5, ej99_6, hs97, le98, ⟨_, rfl⟩, hbj99_4, hsj99_4, hrj99_5, hrj99_6⟩
        refine Ap <| Ab <| Rg [0, 1, 2] <| Vs 3 <| VY ?_
        have hn139 := AD h106 hnx75
        exact ⟨m72, Nat.lt_succ_self _, (j99.1, (W64 (s53.2.1 + 1)), j99.2.1, j99.2.2.1, j99.2.2.2.1, j99.2.2.2.2.1, j99.2.2.2.2.2.1, j99.2.2.2.2.2.2), F6, aj99_4, nj99_4, ej99_5, ej99_6, hn139, hs97.pk2.pk2.pk2.pk3, ((le56.t le84).trans le98), fI, hbj99_4, hsj99_4, hrj99_5, hrj99_6⟩
      ·refine Ex ?_
       refine Al <| Al <| Ay rfl ?_
       have ho140 := AE h78 hnx75
       exact .inl ⟨rfl, (s53.1, s53.2.1, s53.2.2.1, s53.2.2.2.1, s53.2.2.2.2.1, s53.2.2.2.2.2.1, s53.2.2.2.2.2.2.1, s53.2.2.2.2.2.2.2), F3, as53_5, ns53_5, es53_6, es53_7, ho140, hs55, le56, fI, hbs53_5, hss53_5, hrs53_6, hrs53_7⟩
     ·rintro f w63 ⟨s62, F4, as62_5, ns62_5, es62_6, es62_7, rfl, hs64, le65, ⟨_, rfl⟩, hbs62_5, hss62_5, hrs62_6, hrs62_7⟩
      have h141 := A6 h52
      refine Ab <| Sq ?_
      obtain ⟨j147, hj150, h151⟩ := bind_some h141
      refine RD 7 7 [(sb b21 (Ai x1) 143), (sb bp0 #[(.bool s62.2.2.1), (.bool s62.2.2.2.1), (.bool s62.2.2.2.2.1), (.slice as62_5 s62.2.2.2.2.2.1.length ns62_5), (.map (some mb0_4)), (.map (some mb0_5))] 148), es62_7] [] hs64 (fun f w => ∃ (F10 : Mem) (ej147_0 : Option Nat × Obj), HS wb Fb w F10 ((sb bp0 #[(.bool s62.2.2.1), (.bool s62.2.2.2.1), (.bool s62.2.2.2.2.1), (.slice as62_5 s62.2.2.2.2.2.1.length ns62_5), (.map (some mb0_4)), (.map (some mb0_5))] 148) :: ej147_0 :: es62_7 :: Lf) /\ V2 F4 F10 /\ FI f [] [(7, (vi s62.1))] /\ Bc AB AM F10 mb0_4 j147 ej147_0) (fun wd142 hw143 => ?_) ?_
      ·refine Dv [0, 1, 2] ?_
       refine Dl 3 (fun _ hq => (hq.1.2 1 _ _ rfl)) <| Dl 4 (fun _ hq => (hq.1.2 0 _ _ rfl)) <| Dv [5] <| D1 6 <| Az.mapPut (l' := [true, true, true, true, true, true, true]) (zd := true) (by kernel_rfl) (by kernel_rfl) UB (ty := 0) (g := none) (mt := 145) (k := 143) (vt := 3) (m := (.tmp 60)) (x := (.tmp 61)) (y := (.tmp 62)) (b := mb0_4) (kx := x1) (u := s62.1) (kv := (.agg (Ai x1))) (v := (vi s62.1)) (K := AB) (T := AM) (by kernel_rfl) rfl rfl rfl rfl ⟨_, rfl, rfl⟩ ⟨_, rfl, rfl⟩ (by kernel_rfl) hw143 (q := 2) rfl hrs62_6 (V3 _) (fun _ => by simp) (fun e => by cases e) (fun e152 w153 (hs154 : HS wb Fb w153 F4 ((sb b21 (Ai x1) 143) :: (sb bp0 #[(.bool s62.2.2.1), (.bool s62.2.2.2.1), (.bool s62.2.2.2.2.1), (.slice as62_5 s62.2.2.2.2.2.1.length ns62_5), (.map (some mb0_4)), (.map (some mb0_5))] 148) :: e152 :: es62_7 :: Lf)) hr155 => ?_)
       obtain rfl := Aa hj150
       exact Wf (by kernel_rfl) ⟨F4, e152, hs154.dr0, (V3 _), fI, hr155⟩
      ·rintro f w144 ⟨F10, ej147_0, hs145, le146, ⟨_, rfl⟩, hrj147_0⟩
       refine Ab <| Sq (Rg [0, 1] ?_)
       refine Vs 2 <| Nt <| Rt ?_
       obtain rfl := Aa h151
       exact ReB [(vi s62.1)] hs145 (((le28.t le41).trans le65).trans le146) ⟨as62_5, ns62_5, ej147_0, es62_7, rfl, rfl, hbs62_5, (V5 hss62_5 le146), hrj147_0, (hrs62_7.mono le146)⟩
structure Ve where
 q109 : Am -> Ao -> Option (Am × Int)
def Pi (N : Nat) : Nat -> Ve
 | 0 => ⟨fun _ _ => none⟩
 | k + 1 => ⟨Fm N (Pi N k).q109⟩
theorem RU (N : Nat) : ∀ k, PM (Pi N k).q109 := by
 intro k
 induction k with
 | zero => unfold PM; intros; rename_i h; cases h
 | succ k ih => exact @I2 N (Pi N k).q109 ih
def C4 (N : Nat) (x0 : Am) (x1 : Ao) : Option (Am × Int) := (Pi N N).q109 x0 x1
theorem DE (N : Nat) {wb w0 : World} {Fb F0 : Mem} {Lf : Own} (hG : Br F0) (bp0 : Nat) (x0 : Am) (a0_3 : Wo) (n0_3 : Nat) (mb0_4 : Nat) (e0_4 : Option Nat × Obj) (mb0_5 : Nat) (e0_5 : Option Nat × Obj) (hb0_3 : LC x0.lines_.length n0_3) (hs0_3 : SlA AK F0 a0_3 x0.lines_) (hr0_4 : Bc AB AM F0 mb0_4 x0.known_ e0_4) (hr0_5 : Bc AK Aw F0 mb0_5 x0.read_ e0_5) (x1 : Ao) (hs0 : HS wb Fb w0 F0 ((some bp0, (.cells #[(.bool x0.o_.Report), (.bool x0.o_.Serial), (.bool x0.o_.Zone), (.slice a0_3 x0.lines_.length n0_3), (.map (some mb0_4)), (.map (some mb0_5))] 148 (0, 0))) :: e0_4 :: e0_5 :: Lf)) (r : (Am × Int)) (h : C4 N x0 x1 = some r) :
  Calls Tryz.prog 109 ([(.pointer (some ⟨bp0, 0, none⟩)), (.agg #[(.int .i64 x1.at_), (.int .i64 x1.stage_), (.int .i64 x1.num_), (.int .i64 x1.minute_)])] : List Value).toArray w0 (ER wb Fb F0 fun F' v L' => ∃ (aq0_3 : Wo) (nq0_3 : Nat) (eq0_4 : Option Nat × Obj) (eq0_5 : Option Nat × Obj), v = (.int .i64 r.2) /\ L' = (some bp0, (.cells #[(.bool r.1.o_.Report), (.bool r.1.o_.Serial), (.bool r.1.o_.Zone), (.slice aq0_3 r.1.lines_.length nq0_3), (.map (some mb0_4)), (.map (some mb0_5))] 148 (0, 0))) :: eq0_4 :: eq0_5 :: Lf /\ LC r.1.lines_.length nq0_3 /\ SlA AK F' aq0_3 r.1.lines_ /\ Bc AB AM F' mb0_4 r.1.known_ eq0_4 /\ Bc AK Aw F' mb0_5 r.1.read_ eq0_5) := (RU N N) hG bp0 x0 a0_3 n0_3 mb0_4 e0_4 mb0_5 e0_5 hb0_3 hs0_3 hr0_4 hr0_5 x1 hs0 r h
def Iu (N : Nat) (x0 : Ac) (x1 : Wn) (m33 : Am) (r39 : Ao) (r47 : (Am × Int)) (r57 : Ao) (s75 : (List EC × Bool × Bool × Bool × List Wn × Int × Int × Int × Int × List (Ao × Int) × List (Wn × Au))) : (List EC × Int × Bool × Bool × Bool × List Wn × Int × Int × Int × Int × List (Ao × Int) × List (Wn × Au)) -> Option (A4 (Wn × (List EC) × Int × Int) (List EC × Int × Bool × Bool × Bool × List Wn × Int × Int × Int × Int × List (Ao × Int) × List (Wn × Au))) := fun s118 =>
 ((EK N ({ o_ := ({ Report := s118.2.2.1, Serial := s118.2.2.2.1, Zone := s118.2.2.2.2.1 } : Ac), lines_ := s118.2.2.2.2.2.1, known_ := s118.2.2.2.2.2.2.2.2.2.2.1, read_ := s118.2.2.2.2.2.2.2.2.2.2.2 } : Am) ({ at_ := s118.2.2.2.2.2.2.1, stage_ := s118.2.2.2.2.2.2.2.1, num_ := s118.2.2.2.2.2.2.2.2.1, minute_ := s118.2.2.2.2.2.2.2.2.2.1 } : Ao) s118.2.1).bind fun r146 => ((bif r146.2.2.2 then ((Lh N s118.2.1).bind fun r184 => ((C4 N r146.1 r146.2.1).bind fun r193 => ((C4 N r193.1 ({ at_ := s118.2.2.2.2.2.2.1, stage_ := s118.2.2.2.2.2.2.2.1, num_ := s118.2.2.2.2.2.2.2.2.1, minute_ := s118.2.2.2.2.2.2.2.2.2.1 } : Ao)).bind fun r200 => some (((W64 (r184 + r193.2)) == r200.2), r200.1.o_.Report, r200.1.o_.Serial, r200.1.o_.Zone, r200.1.lines_, r200.1.known_, r200.1.read_)))) else some (false, r146.1.o_.Report, r146.1.o_.Serial, r146.1.o_.Zone, r146.1.lines_, r146.1.known_, r146.1.read_)).bind fun j168 => (bif j168.1 then ((C2 s118.1 [r146.2.2.1]).bind fun r216 => some (.done (r216, s118.2.1, j168.2.1, j168.2.2.1, j168.2.2.2.1, j168.2.2.2.2.1, r146.2.1.at_, r146.2.1.stage_, r146.2.1.num_, r146.2.1.minute_, j168.2.2.2.2.2.1, j168.2.2.2.2.2.2))) else some (.next (s118.1, (W64 (s118.2.1 + 1)), j168.2.1, j168.2.2.1, j168.2.2.2.1, j168.2.2.2.2.1, s118.2.2.2.2.2.2.1, s118.2.2.2.2.2.2.2.1, s118.2.2.2.2.2.2.2.2.1, s118.2.2.2.2.2.2.2.2.2.1, j168.2.2.2.2.2.1, j168.2.2.2.2.2.2)))))
def Iv (N : Nat) (x0 : Ac) (x1 : Wn) (m33 : Am) (r39 : Ao) (r47 : (Am × Int)) (r57 : Ao) : (List EC × Bool × Bool × Bool × List Wn × Int × Int × Int × Int × List (Ao × Int) × List (Wn × Au)) -> Option (A4 (Wn × (List EC) × Int × Int) (List EC × Bool × Bool × Bool × List Wn × Int × Int × Int × Int × List (Ao × Int) × List (Wn × Au))) := fun s75 =>
 (bif ((decide (s75.2.2.2.2.2.1 < (s75.2.2.2.2.1.length : Int))) || (decide (s75.2.2.2.2.2.2.1 < 6))) then ((AJ (Iu N x0 x1 m33 r39 r47 r57 s75) N (s75.1, 1, s75.2.1, s75.2.2.1, s75.2.2.2.1, s75.2.2.2.2.1, s75.2.2.2.2.2.1, s75.2.2.2.2.2.2.1, s75.2.2.2.2.2.2.2.1, s75.2.2.2.2.2.2.2.2.1, s75.2.2.2.2.2.2.2.2.2.1, s75.2.2.2.2.2.2.2.2.2.2)).bind fun o => o.k (fun r => some (.ret r)) (fun s129 => some (.next (s129.1, s129.2.2.1, s129.2.2.2.1, s129.2.2.2.2.1, s129.2.2.2.2.2.1, s129.2.2.2.2.2.2.1, s129.2.2.2.2.2.2.2.1, s129.2.2.2.2.2.2.2.2.1, s129.2.2.2.2.2.2.2.2.2.1, s129.2.2.2.2.2.2.2.2.2.2.1, s129.2.2.2.2.2.2.2.2.2.2.2)))) else some (.done (s75.1, s75.2.1, s75.2.2.1, s75.2.2.2.1, s75.2.2.2.2.1, s75.2.2.2.2.2.1, s75.2.2.2.2.2.2.1, s75.2.2.2.2.2.2.2.1, s75.2.2.2.2.2.2.2.2.1, s75.2.2.2.2.2.2.2.2.2.1, s75.2.2.2.2.2.2.2.2.2.2)))
def Md (N : Nat) (x0 : Ac) (x1 : Wn) : Option (Wn × (List EC) × Int × Int) :=
 ((Hv N ({ Report := x0.Report, Serial := x0.Serial, Zone := x0.Zone } : Ac) x1).bind fun r24 => osk r24 (some (([] : Wn), ([] : List EC), 0, 2)) (fun m33 => ((JU N ).bind fun r39 => ((C4 N m33 r39).bind fun r47 => (bif (decide (r47.2 >= 1099511627776)) then none else ((JU N ).bind fun r57 => ((AJ (Iv N x0 x1 m33 r39 r47 r57) N (([] : List EC), r47.1.o_.Report, r47.1.o_.Serial, r47.1.o_.Zone, r47.1.lines_, r57.at_, r57.stage_, r57.num_, r57.minute_, r47.1.known_, r47.1.read_)).bind fun o => o.k (fun r => some r) (fun s85 => ((Me N x1 s85.1).bind fun r245 => some (r245.1, s85.1, r47.2, r245.2))))))))))
theorem NH : Af Tryz.prog 36 := fun _ _ => by kernel_rfl
theorem Ov (N : Nat) (w0 : World) (F0 : Mem) (hF : Wp w0 F0) (hG : Br F0) (x0 : Ac) (x1 : Wn) (r : (Wn × (List EC) × Int × Int)) (h : Md N x0 x1 = some r) :
  Calls Tryz.prog 36 ([(.agg (Ag x0)), (sv x1)] : List Value).toArray w0 (AA w0 F0 fun F' v => ∃ (aq1_0 : Wo) (nq1_0 : Nat), v = (.tuple #[(sv r.1), (.slice aq1_0 r.2.1.length nq1_0), (vi r.2.2.1), (vi r.2.2.2)]) /\ LC r.2.1.length nq1_0 /\ SlA Kg F' aq1_0 r.2.1) := by
 have hs0 := V4 hF
 refine Go 85 Tryz.func36 <| Sq (Rg (rG 5) ?_)
 refine Bx' 23 (Ag x0) hs0 (fun b21 w22 hs23 => ?_)
 refine Vs 4 <| Nss (Rg (rG 8) ?_)
 refine Ld hs23.at0 <| Vs 1 ?_
 obtain ⟨r24, hr25, h26⟩ := bind_some h
 refine RWP.callO (dst := (some 21)) (ty := 139) (g := none) (by kernel_rfl) rfl (f0 := (.func 108)) (aos := #[(.tmp 19), (.tmp 20)]) (ats := #[23, 9]) (fid := 108) (first := #[]) (cap := #[]) (args := [(.agg (Ag x0)), (sv x1)]) rfl HX rfl hs23 (IZ N w22 F0 hs23.pers hG (({ Report := x0.Report, Serial := x0.Serial, Zone := x0.Zone } : Ac)) x1 _ hr25) ?_
 rintro v27 F1 w28 L32 hs29 le30 hp31
 rcases r24 with _ | m33
 ·obtain ⟨rfl, rfl⟩ := Gg hp31
  have h34 := Uy h26
  have hs35 : HS w0 F0 w28 F1 [(sb b21 (Ag x0) 23)] := hs29
  refine Vs 5 <| Nss <| Sq (Rg [0, 1] ?_)
  refine Vs 2 <| Nt <| C1 (rfl : true = true) <| Sq (Rg (rG 5) ?_)
  refine Vs 5 <| Nt <| Rt <| Ae ?_
  obtain rfl := Aa h34
  exact Re [(sv (([] : Wn))), (.slice none ([] : List EC).length 0), (vi 0), (vi 2)] hs35 ⟨none, 0, rfl, V6, (.inl rfl)⟩
 ·obtain ⟨b36, am33_3, nm33_3, mbm33_4, em33_4, mbm33_5, em33_5, rfl, rfl, hbm33_3, hsm33_3, hrm33_4, hrm33_5⟩ := Gf hp31
  have h37 := Ux h26
  have hs38 : HS w0 F0 w28 F1 [(sb b36 #[(.bool m33.o_.Report), (.bool m33.o_.Serial), (.bool m33.o_.Zone), (.slice am33_3 m33.lines_.length nm33_3), (.map (some mbm33_4)), (.map (some mbm33_5))] 148), em33_4, em33_5, (sb b21 (Ag x0) 23)] := hs29
  refine Vs 5 <| Nss <| Sq (Rg [0, 1] ?_)
  refine Vs 2 <| Nt <| C0 (rfl : false = false) <| Sc <| Ab <| Sq (Rg (rG 4) ?_)
  refine Vs 1 ?_
  obtain ⟨r39, hr40, h41⟩ := bind_some h37
  refine Cl' JH hs38 (KT N w28 F1 hs38.pers  _ hr40) ?_
  rintro _ F2 w43 hs44 le45 rfl
  obtain ⟨r47, hr48, h49⟩ := bind_some h41
  refine CB Cl (DE N (hG.mono (le30.t le45)) b36 m33 am33_3 nm33_3 mbm33_4 em33_4 mbm33_5 em33_5 hbm33_3 (V5 hsm33_3 le45) (hrm33_4.mono le45) (hrm33_5.mono le45) r39 hs44 _ hr48) ?_
  rintro _ F3 w50 _ hs51 le52 ⟨ar47_0_3, nr47_0_3, er47_0_4, er47_0_5, rfl, rfl, hbr47_0_3, hsr47_0_3, hrr47_0_4, hrr47_0_5⟩
  refine Vs 1 <| Nss <| Sq (Rg [0, 1] ?_)
  refine Vs 2 <| Nt <| Cd h49 (fun hb54 h55 => ?_) (fun hb54 h56 => ?_)
  ·cases h55
  ·refine Sc ?_
   refine Ab <| Sq (Rg [0] ?_)
   refine Vs 1 <| Nss <| Sq (Rg [0, 1, 2] ?_)
   obtain ⟨r57, hr58, h59⟩ := bind_some h56
   refine Cl' JH hs51 (KT N w50 F3 hs51.pers  _ hr58) ?_
   rintro _ F4 w61 hs62 le63 rfl
   refine Al' 143 #[(vi 0), (vi 0), (vi 0), (vi 0)] hs62 (fun b65 w66 hs67 => ?_)
   refine St0 (Ai r57) hs67 (fun w68 hs69 => ?_)
   refine Nt ?_
   have hs70 := hs69.dr4.dummy (oc #[] 0)
   obtain ⟨o72, ho73, h74⟩ := bind_some h59
   refine V9 (fun f w => ∃ (s85 : (List EC × Bool × Bool × Bool × List Wn × Int × Int × Int × Int × List (Ao × Int) × List (Wn × Au))) (F6 : Mem) (as85_0 : Wo) (ns85_0 : Nat) (es85_0 : Option Nat × Obj), o72 = .done s85 /\ HS w0 F0 w F6 [es85_0] /\ V2 F4 F6 /\ FI f [] [(1, (sv x1)), (10, (vi r47.2)), (11, (.slice as85_0 s85.1.length ns85_0))] /\ Ar Kg 150 F6 as85_0 ns85_0 s85.1 es85_0) ?_ ?_
   ·refine Bk ?_
    refine V1 (by kernel_rfl) (fun m f w => ∃ (s75 : (List EC × Bool × Bool × Bool × List Wn × Int × Int × Int × Int × List (Ao × Int) × List (Wn × Au))) (F5 : Mem) (b65 : Nat) (as75_4 : Wo) (ns75_4 : Nat) (es75_9 : Option Nat × Obj) (es75_10 : Option Nat × Obj) (as75_0 : Wo) (ns75_0 : Nat) (es75_0 : Option Nat × Obj), AJ (Iv N x0 x1 m33 r39 r47 r57) m s75 = some o72 /\ HS w0 F0 w F5 [es75_0, (sb b65 #[(vi s75.2.2.2.2.2.1), (vi s75.2.2.2.2.2.2.1), (vi s75.2.2.2.2.2.2.2.1), (vi s75.2.2.2.2.2.2.2.2.1)] 143), (sb b36 #[(.bool s75.2.1), (.bool s75.2.2.1), (.bool s75.2.2.2.1), (.slice as75_4 s75.2.2.2.2.1.length ns75_4), (.map (some mbm33_4)), (.map (some mbm33_5))] 148), es75_9, es75_10] /\ V2 F4 F5 /\ FI f [] [(1, (sv x1)), (8, (pt b36 0)), (10, (vi r47.2)), (11, (.slice as75_0 s75.1.length ns75_0)), (12, (pt b65 0))] /\ LC s75.2.2.2.2.1.length ns75_4 /\ SlA AK F5 as75_4 s75.2.2.2.2.1 /\ Bc AB AM F5 mbm33_4 s75.2.2.2.2.2.2.2.2.2.1 es75_9 /\ Bc AK Aw F5 mbm33_5 s75.2.2.2.2.2.2.2.2.2.2 es75_10 /\ Ar Kg 150 F5 as75_0 ns75_0 s75.1 es75_0) N ⟨(([] : List EC), r47.1.o_.Report, r47.1.o_.Serial, r47.1.o_.Zone, r47.1.lines_, r57.at_, r57.stage_, r57.num_, r57.minute_, r47.1.known_, r47.1.read_), F4, b65, ar47_0_3, nr47_0_3, er47_0_4, er47_0_5, none, 0, (none, .cells #[] 0 (0, 0)), ho73, hs70, (V3 _), fI, hbr47_0_3, (V5 hsr47_0_3 le63), (hrr47_0_4.mono le63), (hrr47_0_5.mono le63), (Wh Kg 150 F4 _)⟩ ?_
    rintro m93 f w76 ⟨s75, F5, b65, as75_4, ns75_4, es75_9, es75_10, as75_0, ns75_0, es75_0, hit94, hs77, le78, ⟨_, rfl⟩, hbs75_4, hss75_4, hrs75_9, hrs75_10, hrs75_0⟩
    obtain ⟨m95, fl96, rfl, hb97, hnx98⟩ := AC hit94
    refine Sq <| Sq <| RD 13 13 [es75_0, (sb b65 #[(vi s75.2.2.2.2.2.1), (vi s75.2.2.2.2.2.2.1), (vi s75.2.2.2.2.2.2.2.1), (vi s75.2.2.2.2.2.2.2.2.1)] 143), (sb b36 #[(.bool s75.2.1), (.bool s75.2.2.1), (.bool s75.2.2.2.1), (.slice as75_4 s75.2.2.2.2.1.length ns75_4), (.map (some mbm33_4)), (.map (some mbm33_5))] 148), es75_9, es75_10] [] hs77 (fun f w => ∃ (F7 : Mem), HS w0 F0 w F7 [es75_0, (sb b65 #[(vi s75.2.2.2.2.2.1), (vi s75.2.2.2.2.2.2.1), (vi s75.2.2.2.2.2.2.2.1), (vi s75.2.2.2.2.2.2.2.2.1)] 143), (sb b36 #[(.bool s75.2.1), (.bool s75.2.2.1), (.bool s75.2.2.2.1), (.slice as75_4 s75.2.2.2.2.1.length ns75_4), (.map (some mbm33_4)), (.map (some mbm33_5))] 148), es75_9, es75_10] /\ V2 F5 F7 /\ FI f [] [(1, (sv x1)), (8, (pt b36 0)), (10, (vi r47.2)), (11, (.slice as75_0 s75.1.length ns75_0)), (12, (pt b65 0)), (45, (.bool ((decide (s75.2.2.2.2.2.1 < (s75.2.2.2.2.1.length : Int))) || (decide (s75.2.2.2.2.2.2.1 < 6)))))]) (fun wd99 hw100 => ?_) ?_
    ·refine Dv [0] ?_
     refine Dl 1 (fun _ hq => (hq.1.2 1 _ _ rfl)) <| Dv [2, 3, 4] <| Dl 5 (fun _ hq => (hq.1.2 2 _ _ rfl)) <| Dv [6, 7, 8] <| DWP.split (decide (s75.2.2.2.2.2.1 < (s75.2.2.2.2.1.length : Int))) (fun hb111 => ?_) (fun hb111 => ?_)
     ·refine Dk [(9, 42), (10, 43), (11, 44)] 8 false 41 hb111 ?_
      refine Dt 12 45 4 _ (fun _ hq => p1 41 (.const (.bool true)) (.tmp 44) (.bool true) hb111) ?_
      exact Wf (by kernel_rfl) ⟨F5, hw100, (V3 _), (fJ ⟨rfl, rfl, rfl, rfl, rfl, (congrArg Value.bool (Fw hb111 rfl)), trivial⟩)⟩
     ·refine Dg 9 42 0 (pt b65 1) 8 false 41 hb111 (fun _ hq => fa 143 12 1 1 1 b65 0 1) ?_
      refine Dg 10 43 3 _ 8 false 41 hb111 (fun _ hq => ld 3 42 b65 1 false 1 (vi s75.2.2.2.2.2.2.1) (hq.1.2 1 _ _ rfl)) <| Dg 11 44 4 (.bool (decide (s75.2.2.2.2.2.2.1 < 6))) 8 false 41 hb111 (fun _ hq => Hp (t := 3) (t' := 3) (x := (.tmp 43)) (y := (.const (vi 6))) (k := .i64) (a := s75.2.2.2.2.2.2.1) (b := 6) rfl rfl) <| Dt 12 45 4 _ (fun _ hq => p0 41 (.const (.bool true)) (.tmp 44) (.bool (decide (s75.2.2.2.2.2.2.1 < 6))) hb111) ?_
      exact Wf (by kernel_rfl) ⟨F5, hw100, (V3 _), (fJ ⟨rfl, rfl, rfl, rfl, rfl, (congrArg Value.bool (Cr hb111 rfl)), trivial⟩)⟩
    ·rintro f w101 ⟨F7, hs102, le103, ⟨_, rfl⟩⟩
     refine Ab <| Cd hb97 (fun hb112 h113 => ?_) (fun hb112 h114 => ?_)
     ·refine Sc ?_
      refine Ab <| Sq <| Bk <| Sq (Rg [0] ?_)
      refine Vs 1 <| Nt ?_
      obtain ⟨o115, ho116, h117⟩ := bind_some h113
      refine V9 (fun f w => ∃ (s129 : (List EC × Int × Bool × Bool × Bool × List Wn × Int × Int × Int × Int × List (Ao × Int) × List (Wn × Au))) (F9 : Mem) (as129_5 : Wo) (ns129_5 : Nat) (es129_10 : Option Nat × Obj) (es129_11 : Option Nat × Obj) (as129_0 : Wo) (ns129_0 : Nat) (es129_0 : Option Nat × Obj), o115 = .done s129 /\ HS w0 F0 w F9 [es129_0, (sb b65 #[(vi s129.2.2.2.2.2.2.1), (vi s129.2.2.2.2.2.2.2.1), (vi s129.2.2.2.2.2.2.2.2.1), (vi s129.2.2.2.2.2.2.2.2.2.1)] 143), (sb b36 #[(.bool s129.2.2.1), (.bool s129.2.2.2.1), (.bool s129.2.2.2.2.1), (.slice as129_5 s129.2.2.2.2.2.1.length ns129_5), (.map (some mbm33_4)), (.map (some mbm33_5))] 148), es129_10, es129_11] /\ V2 F7 F9 /\ FI f [] [(1, (sv x1)), (8, (pt b36 0)), (10, (vi r47.2)), (11, (.slice as129_0 s129.1.length ns129_0)), (12, (pt b65 0))] /\ LC s129.2.2.2.2.2.1.length ns129_5 /\ SlA AK F9 as129_5 s129.2.2.2.2.2.1 /\ Bc AB AM F9 mbm33_4 s129.2.2.2.2.2.2.2.2.2.2.1 es129_10 /\ Bc AK Aw F9 mbm33_5 s129.2.2.2.2.2.2.2.2.2.2.2 es129_11 /\ Ar Kg 150 F9 as129_0 ns129_0 s129.1 es129_0) ?_ ?_
      ·refine Bk ?_
       refine V1 (by kernel_rfl) (fun m f w => ∃ (s118 : (List EC × Int × Bool × Bool × Bool × List Wn × Int × Int × Int × Int × List (Ao × Int) × List (Wn × Au))) (F8 : Mem) (as118_5 : Wo) (ns118_5 : Nat) (es118_10 : Option Nat × Obj) (es118_11 : Option Nat × Obj) (as118_0 : Wo) (ns118_0 : Nat) (es118_0 : Option Nat × Obj), AJ (Iu N x0 x1 m33 r39 r47 r57 s75) m s118 = some o115 /\ HS w0 F0 w F8 [es118_0, (sb b65 #[(vi s118.2.2.2.2.2.2.1), (vi s118.2.2.2.2.2.2.2.1), (vi s118.2.2.2.2.2.2.2.2.1), (vi s118.2.2.2.2.2.2.2.2.2.1)] 143), (sb b36 #[(.bool s118.2.2.1), (.bool s118.2.2.2.1), (.bool s118.2.2.2.2.1), (.slice as118_5 s118.2.2.2.2.2.1.length ns118_5), (.map (some mbm33_4)), (.map (some mbm33_5))] 148), es118_10, es118_11] /\ V2 F7 F8 /\ FI f [] [(1, (sv x1)), (8, (pt b36 0)), (10, (vi r47.2)), (11, (.slice as118_0 s118.1.length ns118_0)), (12, (pt b65 0)), (13, (vi s118.2.1))] /\ LC s118.2.2.2.2.2.1.length ns118_5 /\ SlA AK F8 as118_5 s118.2.2.2.2.2.1 /\ Bc AB AM F8 mbm33_4 s118.2.2.2.2.2.2.2.2.2.2.1 es118_10 /\ Bc AK Aw F8 mbm33_5 s118.2.2.2.2.2.2.2.2.2.2.2 es118_11 /\ Ar Kg 150 F8 as118_0 ns118_0 s118.1 es118_0) N ⟨(s75.1, 1, s75.2.1, s75.2.2.1, s75.2.2.2.1, s75.2.2.2.2.1, s75.2.2.2.2.2.1, s75.2.2.2.2.2.2.1, s75.2.2.2.2.2.2.2.1, s75.2.2.2.2.2.2.2.2.1, s75.2.2.2.2.2.2.2.2.2.1, s75.2.2.2.2.2.2.2.2.2.2), F7, as75_4, ns75_4, es75_9, es75_10, as75_0, ns75_0, es75_0, ho116, hs102, (V3 _), fI, hbs75_4, (V5 hss75_4 le103), (hrs75_9.mono le103), (hrs75_10.mono le103), (hrs75_0.mono le103)⟩ ?_
       rintro m139 f w119 ⟨s118, F8, as118_5, ns118_5, es118_10, es118_11, as118_0, ns118_0, es118_0, hit140, hs120, le121, ⟨_, rfl⟩, hbs118_5, hss118_5, hrs118_10, hrs118_11, hrs118_0⟩
       obtain ⟨m141, fl142, rfl, hb143, hnx144⟩ := AC hit140
       refine Sq <| Bk <| Sq (Rg (rG 13) ?_)
       refine Vs 1 <| Ld hs120.at1 <| Vs 1 ?_
       have hs145 := hs120.pk1.pk1.pk4.pk4.pk4
       obtain ⟨r146, hr147, h148⟩ := bind_some hb143
       refine CB Ft (FY N (hG.mono ((((((le30.t le45).trans le52).trans le63).trans le78).trans le103).trans le121)) b36 (({ o_ := ({ Report := s118.2.2.1, Serial := s118.2.2.2.1, Zone := s118.2.2.2.2.1 } : Ac), lines_ := s118.2.2.2.2.2.1, known_ := s118.2.2.2.2.2.2.2.2.2.2.1, read_ := s118.2.2.2.2.2.2.2.2.2.2.2 } : Am)) as118_5 ns118_5 mbm33_4 es118_10 mbm33_5 es118_11 hbs118_5 hss118_5 hrs118_10 hrs118_11 (({ at_ := s118.2.2.2.2.2.2.1, stage_ := s118.2.2.2.2.2.2.2.1, num_ := s118.2.2.2.2.2.2.2.2.1, minute_ := s118.2.2.2.2.2.2.2.2.2.1 } : Ao)) s118.2.1 hs145 _ hr147) ?_
       rintro _ F10 w149 _ hs150 le151 ⟨ar146_0_3, nr146_0_3, er146_0_4, er146_0_5, rfl, rfl, hbr146_0_3, hsr146_0_3, hrr146_0_4, hrr146_0_5⟩
       refine Vs 4 <| Al' 143 #[(vi 0), (vi 0), (vi 0), (vi 0)] hs150 (fun b153 w154 hs155 => ?_)
       refine Al' 150 #[(vi 0), (vi 0), (sv (([] : Wn)))] hs155 (fun b156 w157 hs158 => ?_)
       refine St1 (Ai r146.2.1) hs158 (fun w159 hs160 => ?_)
       refine St0 (Gz r146.2.2.1) hs160 (fun w161 hs162 => ?_)
       refine Vs 1 <| Nss ?_
       obtain ⟨j168, hj179, h180⟩ := bind_some h148
       refine RD 13 13 [(sb b156 (Gz r146.2.2.1) 150), (sb b153 (Ai r146.2.1) 143), es118_0, (sb b65 #[(vi s118.2.2.2.2.2.2.1), (vi s118.2.2.2.2.2.2.2.1), (vi s118.2.2.2.2.2.2.2.2.1), (vi s118.2.2.2.2.2.2.2.2.2.1)] 143)] [] hs162 (fun f w => ∃ (F11 : Mem) (aj168_4 : Wo) (nj168_4 : Nat) (ej168_5 : Option Nat × Obj) (ej168_6 : Option Nat × Obj), HS w0 F0 w F11 [(sb b156 (Gz r146.2.2.1) 150), (sb b153 (Ai r146.2.1) 143), (sb b36 #[(.bool j168.2.1), (.bool j168.2.2.1), (.bool j168.2.2.2.1), (.slice aj168_4 j168.2.2.2.2.1.length nj168_4), (.map (some mbm33_4)), (.map (some mbm33_5))] 148), ej168_5, ej168_6, es118_0, (sb b65 #[(vi s118.2.2.2.2.2.2.1), (vi s118.2.2.2.2.2.2.2.1), (vi s118.2.2.2.2.2.2.2.2.1), (vi s118.2.2.2.2.2.2.2.2.2.1)] 143)] /\ V2 F10 F11 /\ FI f [] [(1, (sv x1)), (8, (pt b36 0)), (10, (vi r47.2)), (11, (.slice as118_0 s118.1.length ns118_0)), (12, (pt b65 0)), (13, (vi s118.2.1)), (14, (pt b153 0)), (15, (pt b156 0)), (68, (.bool j168.1))] /\ LC j168.2.2.2.2.1.length nj168_4 /\ SlA AK F11 aj168_4 j168.2.2.2.2.1 /\ Bc AB AM F11 mbm33_4 j168.2.2.2.2.2.1 ej168_5 /\ Bc AK Aw F11 mbm33_5 j168.2.2.2.2.2.2 ej168_6) (fun wd163 hw164 => ?_) ?_
       ·refine Dv [0, 1] ?_
        refine Sd hj179 (fun hb181 h182 => ?_) (fun hb181 h183 => ?_)
        ·refine Dg 2 58 3 _ 1 true 57 hb181 (fun _ hq => mv 13 (vi s118.2.1)) ?_
         refine Dg 4 60 138 _ 1 true 57 hb181 (fun _ hq => mv 8 (pt b36 0)) <| Dg 5 61 143 _ 1 true 57 hb181 (fun _ hq => ld 143 14 b153 0 true 4 (.agg (Ai r146.2.1)) (hq.1.2 1 _ _ rfl)) <| Dg 8 64 138 _ 1 true 57 hb181 (fun _ hq => mv 8 (pt b36 0)) <| Dg 9 65 143 _ 1 true 57 hb181 (fun _ hq => ld 143 12 b65 0 true 4 (.agg #[(vi s118.2.2.2.2.2.2.1), (vi s118.2.2.2.2.2.2.2.1), (vi s118.2.2.2.2.2.2.2.2.1), (vi s118.2.2.2.2.2.2.2.2.2.1)]) (hq.1.2 3 _ _ rfl)) <| D1 3 ?_
         obtain ⟨r184, hr185, h186⟩ := bind_some h182
         refine We (l' := [true, true, true, true, true, true, false, false, true, true, false, false, false]) (zd := true) (by kernel_rfl) (by kernel_rfl) (by kernel_rfl) (dst := (some 59)) (ty := 3) (g := (some (1, true))) (by kernel_rfl) (Hy (d := 57) (by kernel_rfl) rfl hb181) (f0 := (.func 112)) (aos := #[(.tmp 58)]) (ats := #[3]) (fid := 112) (first := #[]) (cap := #[]) (args := [(vi s118.2.1)]) rfl KG rfl hw164 (Ml N wd163 F10 hw164.pers s118.2.1 _ hr185) ?_
         rintro _ F12 w188 hs189 le190 rfl
         refine D1 6 ?_
         have hs192 := hs189.pk6.pk6.pk3.pk3.pk6
         obtain ⟨r193, hr194, h195⟩ := bind_some h186
         refine Az.callB (l' := [true, true, true, true, true, true, true, false, true, true, false, false, false]) (zd := true) (by kernel_rfl) (by kernel_rfl) (dst := (some 62)) (ty := 3) (g := (some (1, true))) (by kernel_rfl) (Hy (d := 57) (by kernel_rfl) rfl hb181) (f0 := (.func 109)) (aos := #[(.tmp 60), (.tmp 61)]) (ats := #[138, 143]) (fid := 109) (first := #[]) (cap := #[]) (args := [(pt b36 0), (.agg (Ai r146.2.1))]) rfl Cl rfl (DE N (hG.mono ((((((((le30.t le45).trans le52).trans le63).trans le78).trans le103).trans le121).trans le151).trans le190)) b36 r146.1 ar146_0_3 nr146_0_3 mbm33_4 er146_0_4 mbm33_5 er146_0_5 hbr146_0_3 (V5 hsr146_0_3 le190) (hrr146_0_4.mono le190) (hrr146_0_5.mono le190) r146.2.1 hs192.pk6.pk6 _ hr194) ?_
         rintro _ F13 w196 _ hs197 le198 ⟨ar193_0_3, nr193_0_3, er193_0_4, er193_0_5, rfl, rfl, hbr193_0_3, hsr193_0_3, hrr193_0_4, hrr193_0_5⟩
         refine ⟨Bd hs197 (le190.t le198) (by simp) (zdT (by kernel_rfl)), ?_⟩
         refine Dg 7 63 3 (vi (W64 (r184 + r193.2))) 1 true 57 hb181 (fun _ hq => Rh (t := 3) (t' := 3) (x := (.tmp 59)) (y := (.tmp 62)) (k := .i64) (a := r184) (b := r193.2) rfl rfl) <| D1 10 ?_
         obtain ⟨r200, hr201, h202⟩ := bind_some h195
         refine Az.callB (l' := [true, true, true, true, true, true, true, true, true, true, true, false, false]) (zd := true) (by kernel_rfl) (by kernel_rfl) (dst := (some 66)) (ty := 3) (g := (some (1, true))) (by kernel_rfl) (Hy (d := 57) (by kernel_rfl) rfl hb181) (f0 := (.func 109)) (aos := #[(.tmp 64), (.tmp 65)]) (ats := #[138, 143]) (fid := 109) (first := #[]) (cap := #[]) (args := [(pt b36 0), (.agg #[(vi s118.2.2.2.2.2.2.1), (vi s118.2.2.2.2.2.2.2.1), (vi s118.2.2.2.2.2.2.2.2.1), (vi s118.2.2.2.2.2.2.2.2.2.1)])]) rfl Cl rfl (DE N (hG.mono (((((((((le30.t le45).trans le52).trans le63).trans le78).trans le103).trans le121).trans le151).trans le190).trans le198)) b36 r193.1 ar193_0_3 nr193_0_3 mbm33_4 er193_0_4 mbm33_5 er193_0_5 hbr193_0_3 hsr193_0_3 hrr193_0_4 hrr193_0_5 (({ at_ := s118.2.2.2.2.2.2.1, stage_ := s118.2.2.2.2.2.2.2.1, num_ := s118.2.2.2.2.2.2.2.2.1, minute_ := s118.2.2.2.2.2.2.2.2.2.1 } : Ao)) hs197 _ hr201) ?_
         rintro _ F14 w203 _ hs204 le205 ⟨ar200_0_3, nr200_0_3, er200_0_4, er200_0_5, rfl, rfl, hbr200_0_3, hsr200_0_3, hrr200_0_4, hrr200_0_5⟩
         refine ⟨Bd hs204 ((le190.t le198).trans le205) (by simp) (zdT (by kernel_rfl)), ?_⟩
         refine Dg 11 67 4 (.bool ((W64 (r184 + r193.2)) == r200.2)) 1 true 57 hb181 (fun _ hq => Hq (t := 3) (t' := 3) (x := (.tmp 63)) (y := (.tmp 66)) (k := .i64) (a := (W64 (r184 + r193.2))) (b := r200.2) rfl rfl) <| Dt 12 68 4 _ (fun _ hq => p1 57 (.tmp 67) (.const (.bool false)) (.bool ((W64 (r184 + r193.2)) == r200.2)) hb181) ?_
         obtain rfl := Aa h202
         have hs207 := hs204.pk6.pk6.pk4.pk4.pk4
         exact Wf (by kernel_rfl) ⟨F14, ar200_0_3, nr200_0_3, er200_0_4, er200_0_5, hs207.pk6.pk6, ((le190.t le198).trans le205), fI, hbr200_0_3, hsr200_0_3, hrr200_0_4, hrr200_0_5⟩
        ·refine Dk [(2, 58), (3, 59), (4, 60), (5, 61), (6, 62), (7, 63), (8, 64), (9, 65), (10, 66), (11, 67)] 1 true 57 hb181 ?_
         refine Dt 12 68 4 _ (fun _ hq => p0 57 (.tmp 67) (.const (.bool false)) (.bool false) hb181) ?_
         obtain rfl := Aa h183
         exact Wf (by kernel_rfl) ⟨F10, ar146_0_3, nr146_0_3, er146_0_4, er146_0_5, hw164, (V3 _), fI, hbr146_0_3, hsr146_0_3, hrr146_0_4, hrr146_0_5⟩
       ·rintro f w165 ⟨F11, aj168_4, nj168_4, ej168_5, ej168_6, hs166, le167, ⟨_, rfl⟩, hbj168_4, hsj168_4, hrj168_5, hrj168_6⟩
        refine Ab <| Cd h180 (fun hb208 h209 => ?_) (fun hb208 h210 => ?_)
        ·refine Sq (Rg (rG 5) ?_)
         refine Vs 1 <| Ld hs166.at0 <| Bs 150 [(vi r146.2.2.1.Kind), (vi r146.2.2.1.At), (sv r146.2.2.1.Text)] hs166 (fun b211 w212 hs213 => ?_)
         have hr215 : Ar Kg 150 F11 (some ⟨b211, 0, none⟩) 1 [r146.2.2.1] (some b211, .cells ([(vi r146.2.2.1.Kind), (vi r146.2.2.1.At), (sv r146.2.2.1.Text)] : List Value).toArray 150 (0, 0)) := Wi ⟨rfl, rfl⟩ (by simp)
         obtain ⟨r216, hap217, h218⟩ := bind_some h209
         refine Ap6 Vp hs213 (hrs118_0.mono (le151.t le167)) (hs213.rd0 hr215) hap217 (fun a219 n220 e221 w222 hs223 hr224 => ?_)
         refine Vs 1 <| Nss (Rg [0, 1] ?_)
         refine Ld hs223.at2 <| St7 (Ai r146.2.1) hs223 (fun w225 hs226 => ?_)
         refine Nt <| Ex <| Mn (by decide) <| Al <| Al <| Ay rfl ?_
         have hs227 := hs226.dr0.dr0.dr0.pk2.pk2
         have ho228 := AE h218 hnx144
         exact .inl ⟨rfl, (r216, s118.2.1, j168.2.1, j168.2.2.1, j168.2.2.2.1, j168.2.2.2.2.1, r146.2.1.at_, r146.2.1.stage_, r146.2.1.num_, r146.2.1.minute_, j168.2.2.2.2.2.1, j168.2.2.2.2.2.2), F11, aj168_4, nj168_4, ej168_5, ej168_6, a219, n220, e221, ho228, hs227.pk2.pk4.pk4, ((le121.t le151).trans le167), fI, hbj168_4, hsj168_4, hrj168_5, hrj168_6, hr224⟩
        ·refine Sc ?_
         refine Ap <| Ab <| Rg [0, 1, 2] <| Vs 3 <| VY ?_
         have hs229 := hs166.dr0.dr0.pk2.pk2.pk2
         have hn230 := AD h210 hnx144
         exact ⟨m141, Nat.lt_succ_self _, (s118.1, (W64 (s118.2.1 + 1)), j168.2.1, j168.2.2.1, j168.2.2.2.1, j168.2.2.2.2.1, s118.2.2.2.2.2.2.1, s118.2.2.2.2.2.2.2.1, s118.2.2.2.2.2.2.2.2.1, s118.2.2.2.2.2.2.2.2.2.1, j168.2.2.2.2.2.1, j168.2.2.2.2.2.2), F11, aj168_4, nj168_4, ej168_5, ej168_6, as118_0, ns118_0, es118_0, hn230, hs229.pk4.pk4, ((le121.t le151).trans le167), fI, hbj168_4, hsj168_4, hrj168_5, hrj168_6, (hrs118_0.mono (le151.t le167))⟩
      ·rintro f w130 ⟨s129, F9, as129_5, ns129_5, es129_10, es129_11, as129_0, ns129_0, es129_0, rfl, hs131, le132, ⟨_, rfl⟩, hbs129_5, hss129_5, hrs129_10, hrs129_11, hrs129_0⟩
       have h231 := A6 h117
       refine Ap <| Ab <| Sq (Rg [0] ?_)
       refine Ld hs131.at1 <| Nt <| Rg [0, 1] <| Al' 143 #[(vi 0), (vi 0), (vi 0), (vi 0)] hs131 (fun b232 w233 hs234 => ?_)
       refine St0 #[(vi s129.2.2.2.2.2.2.1), (vi s129.2.2.2.2.2.2.2.1), (vi s129.2.2.2.2.2.2.2.2.1), (vi s129.2.2.2.2.2.2.2.2.2.1)] hs234 (fun w235 hs236 => ?_)
       refine VY ?_
       have hs237 := hs236.dr2.pk4.pk4.pk4.pk3
       have hn238 := AD h231 hnx98
       exact ⟨m95, Nat.lt_succ_self _, (s129.1, s129.2.2.1, s129.2.2.2.1, s129.2.2.2.2.1, s129.2.2.2.2.2.1, s129.2.2.2.2.2.2.1, s129.2.2.2.2.2.2.2.1, s129.2.2.2.2.2.2.2.2.1, s129.2.2.2.2.2.2.2.2.2.1, s129.2.2.2.2.2.2.2.2.2.2.1, s129.2.2.2.2.2.2.2.2.2.2.2), F9, b232, as129_5, ns129_5, es129_10, es129_11, as129_0, ns129_0, es129_0, hn238, hs237.pk4, ((le78.t le103).trans le132), fI, hbs129_5, hss129_5, hrs129_10, hrs129_11, hrs129_0⟩
     ·refine Ex ?_
      refine Al <| Al <| Ay rfl ?_
      have ho239 := AE h114 hnx98
      exact .inl ⟨rfl, (s75.1, s75.2.1, s75.2.2.1, s75.2.2.2.1, s75.2.2.2.2.1, s75.2.2.2.2.2.1, s75.2.2.2.2.2.2.1, s75.2.2.2.2.2.2.2.1, s75.2.2.2.2.2.2.2.2.1, s75.2.2.2.2.2.2.2.2.2.1, s75.2.2.2.2.2.2.2.2.2.2), F7, as75_0, ns75_0, es75_0, ho239, hs102.dr1.dr1.dr1.dr1, (le78.t le103), fI, (hrs75_0.mono le103)⟩
   ·rintro f w86 ⟨s85, F6, as85_0, ns85_0, es85_0, rfl, hs87, le88, ⟨_, rfl⟩, hrs85_0⟩
    have h240 := A6 h74
    refine Ab <| Sq (Rg (rG 8) ?_)
    refine Vs 2 ?_
    have hb244 := Wg hrs85_0
    obtain ⟨F15, hs241, le242, hs243⟩ := hs87.fr0 hrs85_0
    obtain ⟨r245, hr246, h247⟩ := bind_some h240
    refine Cl' NI hs241 (Ow N w86 F15 hs241.pers (hG.mono (((((le30.t le45).trans le52).trans le63).trans le88).trans le242)) x1 s85.1 as85_0 ns85_0 hb244 hs243 _ hr246) ?_
    rintro _ F16 w249 hs250 le251 rfl
    refine Vs 5 <| Nss (Rg (rG 8) ?_)
    refine Vs 8 <| Nt <| Rt ?_
    obtain rfl := Aa h247
    exact Re [(sv r245.1), (.slice as85_0 s85.1.length ns85_0), (vi r47.2), (vi r245.2)] hs250 ⟨as85_0, ns85_0, rfl, hb244, (V5 hs243 le251)⟩
def CW (N : Nat) (x0 : Line) (x1 : Int) : Option Int :=
 ((HZ N x0.Num x1).bind fun r24 => some r24)
theorem GO : Af Tryz.prog 253 := fun _ _ => by kernel_rfl
theorem Hg (N : Nat) (w0 : World) (F0 : Mem) (hF : Wp w0 F0) (x0 : Line) (x1 : Int) (r : Int) (h : CW N x0 x1 = some r) :
  Calls Tryz.prog 253 ([(.agg (BL x0)), (vi x1)] : List Value).toArray w0 (AA w0 F0 fun F' v => v = (vi r)) := by
 have hs0 := V4 hF
 refine Go 9 Tryz.func253 <| Sq (Rg [0, 1] ?_)
 refine Bx' 34 (BL x0) hs0 (fun b21 w22 hs23 => ?_)
 refine Vs 1 <| Nss (Rg (rG 5) ?_)
 refine Vs 1 <| Ld hs23.at0 <| Vs 1 ?_
 obtain ⟨r24, hr25, h26⟩ := bind_some h
 refine Cl' J3 hs23 (KX N w22 F0 hs23.pers x0.Num x1 _ hr25) ?_
 rintro _ F1 w28 hs29 le30 rfl
 refine Vs 1 <| Nt <| Rt ?_
 obtain rfl := Aa h26
 exact Re [(vi r24)] hs29 rfl
def Fp (N : Nat) (x0 : A5) (x1 : Int) : Option (Int × Bool) :=
 ((Bt N x0.l_.Lines x1 (fun y0 y1 => CW N y0 y1)).bind fun r21 => some (r21.1, r21.2))
theorem HC : Af Tryz.prog 207 := fun _ _ => by kernel_rfl
theorem Ie (N : Nat) {wb w0 : World} {Fb F0 : Mem} {Lf : Own} (bp0 : Nat) (x0 : A5) (a0_7 : Wo) (n0_7 : Nat) (a0_8 : Wo) (n0_8 : Nat) (e0_8 : Option Nat × Obj) (hb0_7 : LC x0.l_.Jumps.length n0_7) (hs0_7 : SlA AM F0 a0_7 x0.l_.Jumps) (hr0_8 : Ar AL 34 F0 a0_8 n0_8 x0.l_.Lines e0_8) (x1 : Int) (hs0 : HS wb Fb w0 F0 ((sb bp0 (BH x0 a0_7 n0_7 a0_8 n0_8) 214) :: e0_8 :: Lf)) (r : (Int × Bool)) (h : Fp N x0 x1 = some r) :
  Calls Tryz.prog 207 ([(pt bp0 0), (vi x1)] : List Value).toArray w0 (ER wb Fb F0 fun F' v L' => v = (.tuple #[(vi r.1), (.bool r.2)]) /\ L' = (sb bp0 (BH x0 a0_7 n0_7 a0_8 n0_8) 214) :: e0_8 :: Lf) := by
 refine Go 15 Tryz.func207 <| Sq (Rg [0, 1] ?_)
 refine Vs 2 <| Nss (Rg (rG 11) ?_)
 refine Vs 4 <| Ld hs0.at0 <| Vs 1 ?_
 obtain ⟨r21, hr22, h23⟩ := bind_some h
 refine RWP.callLentP (q := 1) (v0 := (.tuple #[(vi r21.1), (.bool r21.2)])) (dst := (some 12)) (ty := 119) (g := none) (by kernel_rfl) rfl (f0 := (.func 252)) (aos := #[(.tmp 10), (.tmp 11), (.func 253)]) (ats := #[25, 3, 281]) (fid := 252) (first := #[]) (cap := #[]) (args := [(.slice a0_8 x0.l_.Lines.length n0_8), (vi x1), (fV 253 #[])]) rfl B7 rfl hs0 rfl (Cm N w0 (HN F0 e0_8) (HS.lend hs0 (q := 1) rfl).2 x0.l_.Lines a0_8 n0_8 (Wg hr0_8) (Ar.freeze hr0_8 (HS.lend hs0 (q := 1) rfl).1) x1 253 [] [] (fun y0 y1 => CW N y0 y1) GO (fun w1 F1 y0 y1 r le1 pe1 hr1 => Hg N w1 F1 pe1 y0 y1 r hr1) _ hr22) (fun F1 w24 (hs25 : HS wb Fb w24 F1 ((sb bp0 (BH x0 a0_7 n0_7 a0_8 n0_8) 214) :: e0_8 :: Lf)) le26 => ?_)
 refine Vs 4 <| Nt <| Rt ?_
 obtain rfl := Aa h23
 exact ReB [(vi r21.1), (.bool r21.2)] hs25 le26 ⟨rfl, rfl⟩
def BJ (N : Nat) (l : List Line) (i j : Int) : Option (List Line) := if 0 <= i /\ i < j /\ j <= (l.length : Int) then some (l.take i.toNat ++ l.drop j.toNat) else none
theorem D2 : Af Tryz.prog 208 := fun _ _ => by kernel_rfl
theorem Ec (N : Nat) {wb w0 : World} {Fb F0 : Mem} {Lf : Own} (x0 : List Line) (a0 : Wo) (n0 : Nat) (e0 : Option Nat × Obj) (hr0 : Ar AL 34 F0 a0 n0 x0 e0) (hs0 : HS wb Fb w0 F0 (e0 :: Lf)) (x1 x2 : Int) (r : List Line) (h : BJ N x0 x1 x2 = some r) :
  Calls Tryz.prog 208 ([.slice a0 x0.length n0, .int .i64 x1, .int .i64 x2] : List Value).toArray w0 (fun e w' => ∃ F' a' n' e', e = .returned (.slice a' r.length n') /\ HS wb Fb w' F' (e' :: Lf) /\ V2 F0 F' /\ Ar AL 34 F' a' n' r e') := by
 unfold BJ at h
 split at h
 case isFalse => cases h
 rename_i hc
 obtain ⟨h1, h2, h3⟩ := hc
 obtain ⟨i, rfl⟩ : ∃ i : Nat, x1 = (i : Int) := ⟨x1.toNat, by omega⟩
 obtain ⟨j, rfl⟩ : ∃ j : Nat, x2 = (j : Int) := ⟨x2.toNat, by omega⟩
 simp only [Int.toNat_natCast] at h
 have hij : i < j := by omega
 have hjl : j <= x0.length := by omega
 have hb := hr0.bound
 rcases hr0.2 with ⟨_, _, hn, _⟩ | ⟨b, C, rfl, rfl, hlc, hC, hx⟩
 ·subst hn; simp at hjl; omega
 have hsz : AL.sz = 11 := rfl
 have hr1 : Ar AL 34 F0 (some ⟨b, 0, none⟩) n0 (x0.take i) (some b, .cells C 34 (0, 0)) := hr0.take i
 have hl1 : (x0.take i).length = i := by simp; omega
 have hl2 : (x0.drop j).length = x0.length - j := by simp
 have hrl : r.length = i + (x0.length - j) := by cases h; simp; omega
 have hlt : r.length < x0.length := by omega
 have er : x0.take i ++ x0.drop j = r := by cases h; rfl
 have hne : (((i : Int) == (j : Int)) : Bool) = false := by
  rw [beq_eq_false_iff_ne]; omega
 refine Go 33 Tryz.func208 <| Sq (Rg [0] ?_)
 refine Vs 1 <| Nt <| Sq (Rg [0, 1, 2, 3, 4, 5] ?_)
 refine Vs 5 <| V 13 25 (C8 (x := .tmp 8) (lo := some (.tmp 9)) (hi := some (.tmp 10)) (mx := some (.tmp 12)) (t := 25) (E := 34) (s := 11) (by_ := 96) (n := x0.length) (c := n0) (a := some ⟨b, 0, none⟩) (i := i) (j := j) (m := x0.length) rfl (by kernel_rfl) (by kernel_rfl) rfl rfl rfl (fun _ => rfl) (by omega) hjl hlc) <| Nt <| Sq <| Sq (Rg [0, 1, 2] ?_)
 refine Vs 3 <| Nt <| C0 hne <| Sc <| Ab <| Sq (Rg [0, 1, 2] ?_)
 refine Vs 3 <| Nt <| Sq <| RD 8 8 [] [] hs0 (fun f w => ∃ C', C'.size = C.size /\ HS wb Fb w F0 ((some b, .cells C' 34 (0, 0)) :: Lf) /\ Ar AL 34 F0 (some ⟨b, 0, none⟩) n0 r (some b, .cells C' 34 (0, 0)) /\ FI f [] [(0, .slice (some ⟨b, 0, none⟩) r.length n0), (7, .int .i64 (x0.length : Int))]) (fun wd hw => ?_) ?_
 ·refine Dv [0, 1] ?_
  refine DWP.tk 2 (v := .slice (some ⟨b, 0, none⟩) (x0.take i).length n0) (fun wq hq => ?_) ?_ (by kernel_rfl) (by kernel_rfl) (by kernel_rfl)
  ·have e : (if n0 = 0 then some (⟨b, 0, none⟩ : Addr) else (some (⟨b, 0, none⟩ : Addr)).map (·.add (0 * 11))) = some ⟨b, 0, none⟩ := by
    split
    ·rfl
    ·rfl
   refine (C8 (P := Tryz.prog) (lo := none) (hi := some (.tmp 21)) (mx := none) (t := 25) (E := 34) (s := 11) (by_ := 96) (n := x0.length) (c := n0) (a := some ⟨b, 0, none⟩) (i := 0) (j := i) (m := n0) rfl (by kernel_rfl) (by kernel_rfl) rfl rfl rfl (fun h => by cases h) (by omega) (by omega) (Nat.le_refl _)).trans ?_
   rw [e, Nat.sub_zero, Nat.sub_zero, hl1]
  refine Dv [3, 4] <| DWP.tk 5 (v := .slice (if n0 = j then some ⟨b, 0, none⟩ else (some (⟨b, 0, none⟩ : Addr)).map (·.add (j * 11))) (x0.drop j).length (n0 - j)) (fun wq hq => ?_) ?_ (by kernel_rfl) (by kernel_rfl) (by kernel_rfl)
  ·rw [hl2]
   exact C8 (P := Tryz.prog) (lo := some (.tmp 24)) (hi := none) (mx := none) (t := 25) (E := 34) (s := 11) (by_ := 96) (n := x0.length) (c := n0) (a := some ⟨b, 0, none⟩) (i := j) (j := x0.length) (m := n0) rfl (by kernel_rfl) (by kernel_rfl) rfl rfl rfl (fun h => by cases h) hjl hlc (Nat.le_refl _)
  have hrd : Rd AL F0 wd (if n0 = j then some ⟨b, 0, none⟩ else (some (⟨b, 0, none⟩ : Addr)).map (·.add (j * 11))) (x0.drop j) := by
   by_cases hj : n0 = j
   ·exact .inl (by apply List.drop_eq_nil_of_le; omega)
   ·rw [if_neg hj]
    refine .inr ⟨b, j * 11, C, 34, (0, 0), by simp [Addr.add_lit], hw.ownAt (k := 0) rfl, fun q x hq => ?_⟩
    rw [List.getElem?_drop] at hq
    have := hx _ _ hq
    rw [hsz, Nat.add_mul] at this
    exact this
  obtain ⟨C', hC', hr2, hrun⟩ := M8 (P := Tryz.prog) (T := AL) (t := 25) (t2 := 25) (by_ := 96) (c2 := n0 - j) (by kernel_rfl) (by kernel_rfl) SQ hw (k := 0) rfl hr1 hrd (by rw [hl1, hl2]; omega) (by rw [hl1, hl2]; have := hr0.1; omega)
  rw [er] at hrun hr2
  have hs2 : HS wb Fb _ F0 ((some b, .cells C' 34 (0, 0)) :: Lf) := hw.put (k := 0) rfl (.cells C' 34 (0, 0))
  refine D1 6 <| Wc (l' := [true, true, true, true, true, true, true, false]) (zd := true) (by kernel_rfl) (by kernel_rfl) (dst := some 26) (ty := 25) (g := none) (by kernel_rfl) rfl (hrun (x := .tmp 22) (y := .tmp 25) (by kernel_rfl) (by kernel_rfl)) (Bd hs2 (V3 _) (by simp) (fun e => by cases e)) <| Dv [7] ?_
  exact Wf (by kernel_rfl) ⟨C', hC', hs2, hr2, fI⟩
 ·rintro f w ⟨C', hC', hs2, hr2, ⟨_, rfl⟩⟩
  refine Ab <| Sq (Rg [0, 1, 2, 3, 4, 5] ?_)
  refine Vs 4 ?_
  have e : (if n0 = r.length then some (⟨b, 0, none⟩ : Addr) else (some (⟨b, 0, none⟩ : Addr)).map (·.add (r.length * 11))) = some ⟨b, r.length * 11, none⟩ := by
   rw [if_neg (by omega)]; simp [Addr.add_lit]
  refine V 31 25 (C8 (P := Tryz.prog) (x := .tmp 27) (lo := some (.tmp 29)) (hi := some (.tmp 30)) (mx := none) (t := 25) (E := 34) (s := 11) (by_ := 96) (n := r.length) (c := n0) (a := some ⟨b, 0, none⟩) (i := r.length) (j := x0.length) (m := n0) rfl (by kernel_rfl) (by kernel_rfl) rfl rfl rfl (fun h => by cases h) (by omega) hlc (Nat.le_refl _)) ?_
  rw [e]
  obtain ⟨vs, hvs, hrun⟩ := Ph (P := Tryz.prog) (T := AL) (E := 34) (w := w) (b := b) (C := C') (j := r.length) (k := x0.length - r.length) (c := n0 - r.length) (t := 25) (by_ := 96) (z := .agg #[.int .i64 0, .int .i64 0, .int .i64 0, .int .i64 0, .string ⟨([] : Wn).toArray⟩, .int .i64 0, .int .i64 0, .int .i64 0, .int .i64 0, .int .i64 0, .int .i64 0]) (by kernel_rfl) (by kernel_rfl) rfl rfl (hs2.ownAt (k := 0) rfl) (by omega) (by rw [hC', hC, <- Nat.add_mul]; exact Nat.mul_le_mul_right _ (by omega))
  have hfit : r.length * AL.sz + vs.length <= C'.size := by rw [hvs, hC', hC, <- Nat.add_mul]; exact Nat.mul_le_mul_right _ (by omega)
  have hs3 : HS wb Fb _ F0 ((some b, .cells (CT C' (r.length * AL.sz) vs) 34 (0, 0)) :: Lf) := hs2.put (k := 0) rfl _
  have hr3 : Ar AL 34 F0 (some ⟨b, 0, none⟩) n0 r (some b, .cells (CT C' (r.length * AL.sz) vs) 34 (0, 0)) := by
   rcases hr2.2 with ⟨h, _⟩ | ⟨b', C0, hb', hc', k1, k2, k3⟩
   ·cases h
   ·cases hb'; cases hc'
    refine ⟨hr2.1, .inr ⟨b, _, rfl, rfl, k1, by rw [FH]; exact k2, fun q x hq => ?_⟩⟩
    have hql : q < r.length := by
     rcases Nat.lt_or_ge q r.length with h' | h'
     ·exact h'
     ·rw [List.getElem?_eq_none h'] at hq; cases hq
    rw [PG hfit (by rw [<- Nat.succ_mul]; exact Nat.mul_le_mul_right _ hql)]
    exact k3 q x hq
  refine VZ (dst := none) (ty := 0) (g := none) (by kernel_rfl) rfl (hrun (x := .tmp 31) (by kernel_rfl)) <| Nt <| Sq (Rg [0, 1] ?_)
  refine Vs 2 <| Nt <| Rt ?_
  exact ⟨rfl, _, AW (l := [.tmp 6]) (by kernel_rfl) (vs := [.slice (some ⟨b, 0, none⟩) r.length n0]) ⟨by kernel_rfl, trivial⟩, F0, _, _, _, rfl, hs3, V3 _, hr3⟩
def Fq (N : Nat) (x0 : A5) (x1 : Fix) : Option (A5 × Fix × Bool) :=
 ((Fp N ({ o_ := ({ Report := x0.o_.Report, Serial := x0.o_.Serial, Zone := x0.o_.Zone } : Ac), l_ := x0.l_ } : A5) x1.Num).bind fun r27 => (bif ((!r27.2) || (!((x1.Line.Num == 0) && ((x1.Line.Khz == 0) && ((x1.Line.Mode == 0) && ((x1.Line.Minute == 0) && ((x1.Line.Call == ([] : Wn)) && (((x1.Line.Sent.Report == 0) && ((x1.Line.Sent.Serial == 0) && ((x1.Line.Sent.Zone == 0) && true))) && (((x1.Line.Got.Report == 0) && ((x1.Line.Got.Serial == 0) && ((x1.Line.Got.Zone == 0) && true))) && true))))))))) then none else ((idx x0.l_.Lines r27.1).bind fun x47 => ((BJ N x0.l_.Lines r27.1 (W64 (r27.1 + 1))).bind fun r64 => some (({ o_ := ({ Report := x0.o_.Report, Serial := x0.o_.Serial, Zone := x0.o_.Zone } : Ac), l_ := ({ Call := x0.l_.Call, Category := x0.l_.Category, Power := x0.l_.Power, Claimed := x0.l_.Claimed, Jumps := x0.l_.Jumps, Lines := r64 } : Log) } : A5), ({ Kind := 2, Num := x1.Num, Line := x47 } : Fix), true)))))
theorem HD : Af Tryz.prog 178 := fun _ _ => by kernel_rfl
theorem Ig (N : Nat) {wb w0 : World} {Fb F0 : Mem} {Lf : Own} (bp0 : Nat) (x0 : A5) (a0_7 : Wo) (n0_7 : Nat) (a0_8 : Wo) (n0_8 : Nat) (e0_8 : Option Nat × Obj) (hb0_7 : LC x0.l_.Jumps.length n0_7) (hs0_7 : SlA AM F0 a0_7 x0.l_.Jumps) (hr0_8 : Ar AL 34 F0 a0_8 n0_8 x0.l_.Lines e0_8) (x1 : Fix) (hs0 : HS wb Fb w0 F0 ((sb bp0 (BH x0 a0_7 n0_7 a0_8 n0_8) 214) :: e0_8 :: Lf)) (r : (A5 × Fix × Bool)) (h : Fq N x0 x1 = some r) :
  Calls Tryz.prog 178 ([(pt bp0 0), (.agg (P7 x1))] : List Value).toArray w0 (ER wb Fb F0 fun F' v L' => ∃ (aq0_7 : Wo) (nq0_7 : Nat) (aq0_8 : Wo) (nq0_8 : Nat) (eq0_8 : Option Nat × Obj), v = (.tuple #[(.agg (P7 r.2.1)), (.bool r.2.2)]) /\ L' = (sb bp0 (BH r.1 aq0_7 nq0_7 aq0_8 nq0_8) 214) :: eq0_8 :: Lf /\ LC r.1.l_.Jumps.length nq0_7 /\ SlA AM F' aq0_7 r.1.l_.Jumps /\ Ar AL 34 F' aq0_8 nq0_8 r.1.l_.Lines eq0_8) := by
 refine Go 50 Tryz.func178 <| Sq (Rg [0, 1, 2] ?_)
 refine Bx' 64 (P7 x1) hs0 (fun b21 w22 hs23 => ?_)
 refine Al' 64 #[(vi 0), (vi 0), (vi 0), (vi 0), (vi 0), (vi 0), (sv (([] : Wn))), (vi 0), (vi 0), (vi 0), (vi 0), (vi 0), (vi 0)] hs23 (fun b24 w25 hs26 => ?_)
 refine Vs 1 <| Nss (Rg (rG 9) ?_)
 refine Vs 2 <| Ld hs26.at1 ?_
 obtain ⟨r27, hr28, h29⟩ := bind_some h
 refine CB HC (Ie N bp0 (({ o_ := ({ Report := x0.o_.Report, Serial := x0.o_.Serial, Zone := x0.o_.Zone } : Ac), l_ := x0.l_ } : A5)) a0_7 n0_7 a0_8 n0_8 e0_8 hb0_7 hs0_7 hr0_8 x1.Num hs26.pk1.pk1.pk3.pk3 _ hr28) ?_
 rintro _ F1 w30 _ hs31 le32 ⟨rfl, rfl⟩
 refine Vs 5 <| Nss <| Sq (Rg (rG 8) ?_)
 refine V8 (fun f w => ∃ (F2 : Mem), HS wb Fb w F2 ((sb bp0 (BH x0 a0_7 n0_7 a0_8 n0_8) 214) :: e0_8 :: (sb b24 #[(vi 0), (vi 0), (vi 0), (vi 0), (vi 0), (vi 0), (sv (([] : Wn))), (vi 0), (vi 0), (vi 0), (vi 0), (vi 0), (vi 0)] 64) :: (sb b21 (P7 x1) 64) :: Lf) /\ V2 F1 F2 /\ FI f [] [(0, (pt bp0 0)), (3, (pt b21 0)), (4, (pt b24 0)), (6, (vi r27.1)), (23, (.bool ((!r27.2) || (!((x1.Line.Num == 0) && ((x1.Line.Khz == 0) && ((x1.Line.Mode == 0) && ((x1.Line.Minute == 0) && ((x1.Line.Call == ([] : Wn)) && (((x1.Line.Sent.Report == 0) && ((x1.Line.Sent.Serial == 0) && ((x1.Line.Sent.Zone == 0) && true))) && (((x1.Line.Got.Report == 0) && ((x1.Line.Got.Serial == 0) && ((x1.Line.Got.Zone == 0) && true))) && true)))))))))))]) ?_ ?_
 ·refine Vs 3 ?_
  refine V7 (!r27.2) (fun hb43 => ?_) (fun hb43 => ?_)
  ·refine Ss hb43 4 ?_
   refine Pk1 hb43 ?_
   exact VY ⟨rfl, F1, hs31, (V3 _), (fJ ⟨rfl, rfl, rfl, rfl, (congrArg Value.bool (Fw hb43 rfl)), trivial⟩)⟩
  ·refine Vgs hb43 1 ?_
   refine Lg hb43 hs31.at3 <| Vgs hb43 2 <| Pk0 hb43 ?_
   exact VY ⟨rfl, F1, hs31, (V3 _), (fJ ⟨rfl, rfl, rfl, rfl, (kq (.bool (!((x1.Line.Num == 0) && ((x1.Line.Khz == 0) && ((x1.Line.Mode == 0) && ((x1.Line.Minute == 0) && ((x1.Line.Call == ([] : Wn)) && (((x1.Line.Sent.Report == 0) && ((x1.Line.Sent.Serial == 0) && ((x1.Line.Sent.Zone == 0) && true))) && (((x1.Line.Got.Report == 0) && ((x1.Line.Got.Serial == 0) && ((x1.Line.Got.Zone == 0) && true))) && true))))))))) (congrArg Value.bool (Cr hb43 rfl))), trivial⟩)⟩
 ·rintro f w34 ⟨F2, hs35, le36, ⟨_, rfl⟩⟩
  refine Ab <| Cd h29 (fun hb44 h45 => ?_) (fun hb44 h46 => ?_)
  ·cases h45
  ·refine Sc ?_
   refine Ab <| Sq (Rg (rG 10) ?_)
   refine Vs 4 <| Ld hs35.at0 <| Vs 1 ?_
   obtain ⟨x47, hx48, h50⟩ := bind_some h46
   obtain ⟨hi49, hx48'⟩ := Aj hx48
   obtain ⟨b51, C52, rfl, rfl, hE55⟩ := Ar.open (hr0_8.mono (le32.t le36)) hx48'
   have hr56 := (hr0_8.mono (le32.t le36))
   have hc58 := hE55 _ _ hx48'
   refine Ix0 hi49 <| Lx 0 hs35.at1 hc58 <| Al' 34 #[(vi 0), (vi 0), (vi 0), (vi 0), (sv (([] : Wn))), (vi 0), (vi 0), (vi 0), (vi 0), (vi 0), (vi 0)] hs35 (fun b59 w60 hs61 => ?_)
   refine St0 (BL x47) hs61 (fun w62 hs63 => ?_)
   refine Nss (Rg (rG 14) ?_)
   refine Vs 5 <| Ld hs63.at1 <| Vs 3 ?_
   obtain ⟨r64, hr65, h66⟩ := bind_some h50
   refine RWP.callS (dst := (some 42)) (ty := 25) (g := none) (by kernel_rfl) rfl (f0 := (.func 208)) (aos := #[(.tmp 38), (.tmp 39), (.tmp 41)]) (ats := #[25, 3, 3]) (fid := 208) (first := #[]) (cap := #[]) (args := [(.slice (some ⟨b51, 0, none⟩) x0.l_.Lines.length n0_8), (vi r27.1), (vi (W64 (r27.1 + 1)))]) rfl D2 rfl (Ec N (Lf := ((sb b59 (BL x47) 34) :: (sb bp0 (BH x0 a0_7 n0_7 (some ⟨b51, 0, none⟩) n0_8) 214) :: (sb b24 #[(vi 0), (vi 0), (vi 0), (vi 0), (vi 0), (vi 0), (sv (([] : Wn))), (vi 0), (vi 0), (vi 0), (vi 0), (vi 0), (vi 0)] 64) :: (sb b21 (P7 x1) 64) :: Lf)) x0.l_.Lines (some ⟨b51, 0, none⟩) n0_8 (some b51, .cells C52 34 (0, 0)) hr56 hs63.pk4.pk4.pk3.pk3.pk4 r27.1 ((W64 (r27.1 + 1))) _ hr65) ?_
   rintro _ w70 ⟨F3, a67, n68, e69, rfl, hs71, le72, hr73⟩
   refine ⟨_, rfl, ?_⟩
   have hs74 : HS wb Fb w70 F3 (e69 :: (sb b59 (BL x47) 34) :: (sb bp0 (BH x0 a0_7 n0_7 (some ⟨b51, 0, none⟩) n0_8) 214) :: (sb b24 #[(vi 0), (vi 0), (vi 0), (vi 0), (vi 0), (vi 0), (sv (([] : Wn))), (vi 0), (vi 0), (vi 0), (vi 0), (vi 0), (vi 0)] 64) :: (sb b21 (P7 x1) 64) :: Lf) := hs71
   refine Vs 3 <| St2 #[(.bool x0.o_.Report), (.bool x0.o_.Serial), (.bool x0.o_.Zone), (sv x0.l_.Call), (vi x0.l_.Category), (vi x0.l_.Power), (vi x0.l_.Claimed), (.slice a0_7 x0.l_.Jumps.length n0_7), (.slice a67 r64.length n68)] hs74 (fun w75 hs76 => ?_)
   refine Nss (Rg (rG 6) ?_)
   refine Vs 1 <| Ld hs76.at4 <| Ld hs76.at1 <| Vs 1 <| St3 #[(vi 2), (vi x1.Num), (vi x47.Num), (vi x47.Khz), (vi x47.Mode), (vi x47.Minute), (sv x47.Call), (vi x47.Sent.Report), (vi x47.Sent.Serial), (vi x47.Sent.Zone), (vi x47.Got.Report), (vi x47.Got.Serial), (vi x47.Got.Zone)] hs76 (fun w77 hs78 => ?_)
   refine Vs 1 <| Nt <| Rt ?_
   obtain rfl := Aa h66
   exact ⟨rfl, (.tuple #[(.agg #[(vi 2), (vi x1.Num), (vi x47.Num), (vi x47.Khz), (vi x47.Mode), (vi x47.Minute), (sv x47.Call), (vi x47.Sent.Report), (vi x47.Sent.Serial), (vi x47.Sent.Zone), (vi x47.Got.Report), (vi x47.Got.Serial), (vi x47.Got.Zone)]), (.bool true)]), AW (l := [.cell 4 64, .tmp 5]) (by kernel_rfl) (vs := [(.agg #[(vi 2), (vi x1.Num), (vi x47.Num), (vi x47.Khz), (vi x47.Mode), (vi x47.Minute), (sv x47.Call), (vi x47.Sent.Report), (vi x47.Sent.Serial), (vi x47.Sent.Zone), (vi x47.Got.Report), (vi x47.Got.Serial), (vi x47.Got.Zone)]), (.bool true)]) ⟨b24, 0, rfl, An (t := 64) (g := true) (s := 13) (by kernel_rfl) hs78.at3 rfl (by decide), ⟨rfl, trivial⟩⟩, F3, _, _, rfl, hs78.dr1.dr2.dr2.pk1, ((le32.t le36).trans le72), ⟨a0_7, n0_7, a67, n68, e69, rfl, rfl, hb0_7, (V5 hs0_7 ((le32.t le36).trans le72)), hr73⟩⟩



def E4 (N : Nat) (x0 : List Int) : Option (List Int) := C2 [] x0
theorem Cy : Af Tryz.prog 176 := fun _ _ => by kernel_rfl
set_option maxRecDepth 100000 in
theorem CO (N : Nat) (w0 : World) (F0 : Mem) (hF : Wp w0 F0) (x0 : List Int) (a0_0 : Wo) (n0_0 : Nat) (hb0_0 : LC x0.length n0_0) (hs0_0 : SlA AM F0 a0_0 x0) (r : List Int) (h : E4 N x0 = some r) :
  Calls Tryz.prog 176 ([(.slice a0_0 x0.length n0_0)] : List Value).toArray w0 (N4 w0 F0 fun F' v L' => ∃ (a : Wo) (n : Nat) (e : Option Nat × Obj), v = .slice a r.length n /\ L' = [e] /\ Ar AM 3 F' a n r e) := by
 have hs0 := V4 hF
 refine Go 8 Tryz.func176 <| Sq (Rg [0] ?_)
 refine Vs 1 <| Nt <| Sq <| Sq (Rg [0, 1] ?_)
 refine Vs 1 <| VZ (dst := some 4) (ty := 4) (g := none) (by kernel_rfl) rfl (OK (t := 24) (t' := 24) (e := 3) (x := .tmp 3) (y := .const (.slice none 0 0)) (a := a0_0) (n := x0.length) (c := n0_0) rfl rfl (by kernel_rfl)) <| Nt ?_
 cases a0_0 with
 | none =>
  have hx : x0 = [] := by
   rcases hs0_0 with h | ⟨_, _, _, _, _, h, _⟩
   ·exact h
   ·cases h
  subst hx
  cases h
  refine C1 (rfl : true = true) <| Sq (Rg [0] ?_)
  refine Vs 1 <| Nt <| Rt <| Ae ?_
  exact ⟨rfl, _, AW (l := [.tmp 2]) (by kernel_rfl) (vs := [.slice none 0 0]) ⟨by kernel_rfl, trivial⟩, _, F0, _, rfl, hs0.dummy (oc #[] 0), _, _, _, rfl, rfl, Wh AM 3 F0 _⟩
 | some ad =>
  refine C0 (rfl : false = false) <| Sc <| Ab <| Sq (Rg (rG 4) ?_)
  refine Bs 3 [] hs0 (fun b w1 hs1 => ?_)
  refine Vs 1 <| Ap0 UM hs1 (Wi (T := AM) (E := 3) (F := F0) (l := []) (cs := []) rfl (by simp)) (SlA.rd hs1 hs0_0) h (fun a n e w2 hs2 hr2 => ?_)
  refine Vs 1 <| Nt <| Rt ?_
  exact ⟨rfl, _, AW (l := [.tmp 2]) (by kernel_rfl) (vs := [.slice a r.length n]) ⟨by kernel_rfl, trivial⟩, _, F0, _, rfl, hs2, _, _, _, rfl, rfl, hr2⟩
def Ct (N : Nat) (x0 : List Line) : Option (List Line) := C2 [] x0
theorem Bx : Af Tryz.prog 177 := fun _ _ => by kernel_rfl
set_option maxRecDepth 100000 in
theorem BA (N : Nat) (w0 : World) (F0 : Mem) (hF : Wp w0 F0) (x0 : List Line) (a0_0 : Wo) (n0_0 : Nat) (hb0_0 : LC x0.length n0_0) (hs0_0 : SlA AL F0 a0_0 x0) (r : List Line) (h : Ct N x0 = some r) :
  Calls Tryz.prog 177 ([(.slice a0_0 x0.length n0_0)] : List Value).toArray w0 (N4 w0 F0 fun F' v L' => ∃ (a : Wo) (n : Nat) (e : Option Nat × Obj), v = .slice a r.length n /\ L' = [e] /\ Ar AL 34 F' a n r e) := by
 have hs0 := V4 hF
 refine Go 8 Tryz.func177 <| Sq (Rg [0] ?_)
 refine Vs 1 <| Nt <| Sq <| Sq (Rg [0, 1] ?_)
 refine Vs 1 <| VZ (dst := some 4) (ty := 4) (g := none) (by kernel_rfl) rfl (OK (t := 25) (t' := 25) (e := 34) (x := .tmp 3) (y := .const (.slice none 0 0)) (a := a0_0) (n := x0.length) (c := n0_0) rfl rfl (by kernel_rfl)) <| Nt ?_
 cases a0_0 with
 | none =>
  have hx : x0 = [] := by
   rcases hs0_0 with h | ⟨_, _, _, _, _, h, _⟩
   ·exact h
   ·cases h
  subst hx
  cases h
  refine C1 (rfl : true = true) <| Sq (Rg [0] ?_)
  refine Vs 1 <| Nt <| Rt <| Ae ?_
  exact ⟨rfl, _, AW (l := [.tmp 2]) (by kernel_rfl) (vs := [.slice none 0 0]) ⟨by kernel_rfl, trivial⟩, _, F0, _, rfl, hs0.dummy (oc #[] 0), _, _, _, rfl, rfl, Wh AL 34 F0 _⟩
 | some ad =>
  refine C0 (rfl : false = false) <| Sc <| Ab <| Sq (Rg (rG 4) ?_)
  refine Bs 34 [] hs0 (fun b w1 hs1 => ?_)
  refine Vs 1 <| Ap0 SQ hs1 (Wi (T := AL) (E := 34) (F := F0) (l := []) (cs := []) rfl (by simp)) (SlA.rd hs1 hs0_0) h (fun a n e w2 hs2 hr2 => ?_)
  refine Vs 1 <| Nt <| Rt ?_
  exact ⟨rfl, _, AW (l := [.tmp 2]) (by kernel_rfl) (vs := [.slice a r.length n]) ⟨by kernel_rfl, trivial⟩, _, F0, _, rfl, hs2, _, _, _, rfl, rfl, hr2⟩
def Gy (N : Nat) (x0 : Ac) (x1 : Log) (x2 : (List Fix)) (r30 : (Int × Int)) (j47 : (List Int × List Line)) : (List Fix × Int × Bool × Bool × Bool × Wn × Int × Int × Int × List Int × List Line) -> Option (A4 (Log × (List Fix) × Int × Int) (List Fix × Int × Bool × Bool × Bool × Wn × Int × Int × Int × List Int × List Line)) := fun s180 =>
 (bif (decide (s180.2.1 < (x2.length : Int))) then ((idx x2 s180.2.1).bind fun x213 => (bif (x213.Kind == 1) then ((Fq N ({ o_ := ({ Report := s180.2.2.1, Serial := s180.2.2.2.1, Zone := s180.2.2.2.2.1 } : Ac), l_ := ({ Call := s180.2.2.2.2.2.1, Category := s180.2.2.2.2.2.2.1, Power := s180.2.2.2.2.2.2.2.1, Claimed := s180.2.2.2.2.2.2.2.2.1, Jumps := s180.2.2.2.2.2.2.2.2.2.1, Lines := s180.2.2.2.2.2.2.2.2.2.2 } : Log) } : A5) x213).bind fun r236 => (bif (!r236.2.2) then none else ((C2 s180.1 [r236.2.1]).bind fun r256 => some (.next (r256, (W64 (s180.2.1 + 1)), r236.1.o_.Report, r236.1.o_.Serial, r236.1.o_.Zone, r236.1.l_.Call, r236.1.l_.Category, r236.1.l_.Power, r236.1.l_.Claimed, r236.1.l_.Jumps, r236.1.l_.Lines))))) else none)) else some (.done (s180.1, s180.2.1, s180.2.2.1, s180.2.2.2.1, s180.2.2.2.2.1, s180.2.2.2.2.2.1, s180.2.2.2.2.2.2.1, s180.2.2.2.2.2.2.2.1, s180.2.2.2.2.2.2.2.2.1, s180.2.2.2.2.2.2.2.2.2.1, s180.2.2.2.2.2.2.2.2.2.2)))
def It (N : Nat) (x0 : Ac) (x1 : Log) (x2 : (List Fix)) : Option (Log × (List Fix) × Int × Int) :=
 ((D0 N ({ Report := x0.Report, Serial := x0.Serial, Zone := x0.Zone } : Ac) x1).bind fun r30 => (bif (r30.1 != 0) then none else (((E4 N x1.Jumps).bind fun r55 => ((Ct N x1.Lines).bind fun r73 => some (r55, r73))).bind fun j47 => ((AJ (Gy N x0 x1 x2 r30 j47) N (([] : List Fix), 0, x0.Report, x0.Serial, x0.Zone, x1.Call, x1.Category, x1.Power, x1.Claimed, j47.1, j47.2)).bind fun o => o.k (fun r => some r) (fun s194 => (((Jz N ({ Report := x0.Report, Serial := x0.Serial, Zone := x0.Zone } : Ac) ({ Call := s194.2.2.2.2.2.1, Category := s194.2.2.2.2.2.2.1, Power := s194.2.2.2.2.2.2.2.1, Claimed := s194.2.2.2.2.2.2.2.2.1, Jumps := s194.2.2.2.2.2.2.2.2.2.1, Lines := s194.2.2.2.2.2.2.2.2.2.2 } : Log)).bind fun r283 => some (!r283)).bind fun j274 => (bif j274 then none else some (({ Call := s194.2.2.2.2.2.1, Category := s194.2.2.2.2.2.2.1, Power := s194.2.2.2.2.2.2.2.1, Claimed := s194.2.2.2.2.2.2.2.2.1, Jumps := s194.2.2.2.2.2.2.2.2.2.1, Lines := s194.2.2.2.2.2.2.2.2.2.2 } : Log), s194.1, 0, 0))))))))
theorem KH : Af Tryz.prog 120 := fun _ _ => by kernel_rfl
theorem LW (N : Nat) (w0 : World) (F0 : Mem) (hF : Wp w0 F0) (hG : Br F0) (x0 : Ac) (x1 : Log) (a1_4 : Wo) (n1_4 : Nat) (hb1_4 : LC x1.Jumps.length n1_4) (hs1_4 : SlA AM F0 a1_4 x1.Jumps) (a1_5 : Wo) (n1_5 : Nat) (hb1_5 : LC x1.Lines.length n1_5) (hs1_5 : SlA AL F0 a1_5 x1.Lines) (x2 : (List Fix)) (a2_0 : Wo) (n2_0 : Nat) (hb2_0 : LC x2.length n2_0) (hs2_0 : SlA Kh F0 a2_0 x2) (r : (Log × (List Fix) × Int × Int)) (h : It N x0 x1 x2 = some r) :
  Calls Tryz.prog 120 ([(.agg (Ag x0)), (.agg (AF x1 a1_4 n1_4 a1_5 n1_5)), (.slice a2_0 x2.length n2_0)] : List Value).toArray w0 (N4 w0 F0 fun F' v L' => ∃ (aq0_4 : Wo) (nq0_4 : Nat) (aq0_5 : Wo) (nq0_5 : Nat) (eq0_5 : Option Nat × Obj) (aq1_0 : Wo) (nq1_0 : Nat) (eq1_0 : Option Nat × Obj), v = (.tuple #[(.agg (AF r.1 aq0_4 nq0_4 aq0_5 nq0_5)), (.slice aq1_0 r.2.1.length nq1_0), (vi r.2.2.1), (vi r.2.2.2)]) /\ L' = [eq0_5, eq1_0] /\ LC r.1.Jumps.length nq0_4 /\ SlA AM F' aq0_4 r.1.Jumps /\ Ar AL 34 F' aq0_5 nq0_5 r.1.Lines eq0_5 /\ Ar Kh 64 F' aq1_0 nq1_0 r.2.1 eq1_0) := by
 have hs0 := V4 hF
 refine Go 99 Tryz.func120 <| Sq (Rg (rG 6) ?_)
 refine Bx' 23 (Ag x0) hs0 (fun b21 w22 hs23 => ?_)
 refine Bx' 27 (AF x1 a1_4 n1_4 a1_5 n1_5) hs23 (fun b24 w25 hs26 => ?_)
 refine Al' 27 #[(sv (([] : Wn))), (vi 0), (vi 0), (vi 0), (.slice none ([] : List Int).length 0), (.slice none ([] : List Line).length 0)] hs26 (fun b27 w28 hs29 => ?_)
 refine Vs 3 <| Nss <| Sq (Rg (rG 8) ?_)
 refine Ld hs29.at2 <| Ld hs29.at1 ?_
 obtain ⟨r30, hr31, h32⟩ := bind_some h
 refine Cl' GP hs29 (HH N w28 F0 hs29.pers hG (({ Report := x0.Report, Serial := x0.Serial, Zone := x0.Zone } : Ac)) x1 a1_4 n1_4 hb1_4 hs1_4 a1_5 n1_5 hb1_5 hs1_5 _ hr31) ?_
 rintro _ F1 w34 hs35 le36 rfl
 refine Vs 5 <| Nss (Rg [0, 1] ?_)
 refine Vs 2 <| Nt <| Cd h32 (fun hb38 h39 => ?_) (fun hb38 h40 => ?_)
 ·cases h39
 ·refine Sc ?_
  refine Ab <| Sq ?_
  obtain ⟨j47, hj53, h54⟩ := bind_some h40
  refine RD 9 10 [(sb b27 #[(sv (([] : Wn))), (vi 0), (vi 0), (vi 0), (.slice none ([] : List Int).length 0), (.slice none ([] : List Line).length 0)] 27), (sb b21 (Ag x0) 23)] [] hs35 (fun f w => ∃ (F2 : Mem) (aj47_0 : Wo) (nj47_0 : Nat) (aj47_1 : Wo) (nj47_1 : Nat) (ej47_1 : Option Nat × Obj), HS w0 F0 w F2 [ej47_1, (sb b27 #[(sv (([] : Wn))), (vi 0), (vi 0), (vi 0), (.slice none ([] : List Int).length 0), (.slice none ([] : List Line).length 0)] 27), (sb b24 #[(sv x1.Call), (vi x1.Category), (vi x1.Power), (vi x1.Claimed), (.slice aj47_0 j47.1.length nj47_0), (.slice aj47_1 j47.2.length nj47_1)] 27), (sb b21 (Ag x0) 23)] /\ V2 F1 F2 /\ FI f [] [(2, (.slice a2_0 x2.length n2_0)), (3, (pt b21 0)), (4, (pt b24 0)), (6, (pt b27 0))] /\ LC j47.1.length nj47_0 /\ SlA AM F2 aj47_0 j47.1 /\ Ar AL 34 F2 aj47_1 nj47_1 j47.2 ej47_1) (fun wd41 hw42 => ?_) ?_
  ·refine Dv [0, 3] ?_
   refine Wb (i := 1) (j := 4) (by kernel_rfl) ?_ ?_
   ·refine Wc (l' := [true, true, false, true, false, false, false, false, false, false]) (zd := false) (by kernel_rfl) (by kernel_rfl) (dst := (some 32)) (ty := 24) (g := none) (by kernel_rfl) rfl (BD (t := 24) (x := (.tmp 31)) (b := b24) (o := 4) (g := false) (s := 1) (C := (AF x1 a1_4 n1_4 a1_5 n1_5)) (v := (.slice a1_4 x1.Jumps.length n1_4)) rfl (by kernel_rfl) hw42.at1 rfl rfl rfl) (Bd hw42 (V3 _) (by simp) (fun _ => by simp)) ?_
    refine Wb (i := 2) (j := 4) (by kernel_rfl) ?_ ?_
    ·obtain ⟨r55, hr56, h57⟩ := bind_some hj53
     refine Az.callO (l' := [true, true, true, true, false, false, false, false, false, false]) (zd := false) (by kernel_rfl) (by kernel_rfl) (by kernel_rfl) (dst := (some 33)) (ty := 24) (g := none) (by kernel_rfl) rfl (f0 := (.func 176)) (aos := #[(.tmp 32)]) (ats := #[24]) (fid := 176) (first := #[]) (cap := #[]) (args := [(.slice a1_4 x1.Jumps.length n1_4)]) rfl Cy rfl hw42 (CO N wd41 F1 hw42.pers x1.Jumps a1_4 n1_4 hb1_4 (V5 hs1_4 le36) _ hr56) ?_
     rintro _ F3 w59 _ hs60 le61 ⟨a63, n64, e65, rfl, rfl, hr66⟩
     have hs68 : HS w0 F0 w59 F3 [e65, (sb b27 #[(sv (([] : Wn))), (vi 0), (vi 0), (vi 0), (.slice none ([] : List Int).length 0), (.slice none ([] : List Line).length 0)] 27), (sb b24 (AF x1 a1_4 n1_4 a1_5 n1_5) 27), (sb b21 (Ag x0) 23)] := hs60
     have hb72 := Wg hr66
     obtain ⟨F4, hs69, le70, hs71⟩ := hs68.fr0 hr66
     refine D1 4 <| Wc (l' := [true, true, true, true, true, false, false, false, false, false]) (zd := false) (by kernel_rfl) (by kernel_rfl) (dst := (some 35)) (ty := 25) (g := none) (by kernel_rfl) rfl (BD (t := 25) (x := (.tmp 34)) (b := b24) (o := 5) (g := false) (s := 1) (C := (AF x1 a1_4 n1_4 a1_5 n1_5)) (v := (.slice a1_5 x1.Lines.length n1_5)) rfl (by kernel_rfl) hs69.at1 rfl rfl rfl) (Bd hs69 (le61.t le70) (by simp) (fun _ => by simp)) <| Dv [6] <| D1 5 ?_
     obtain ⟨r73, hr74, h75⟩ := bind_some h57
     refine Az.callO (l' := [true, true, true, true, true, true, true, false, false, false]) (zd := false) (by kernel_rfl) (by kernel_rfl) (by kernel_rfl) (dst := (some 36)) (ty := 25) (g := none) (by kernel_rfl) rfl (f0 := (.func 177)) (aos := #[(.tmp 35)]) (ats := #[25]) (fid := 177) (first := #[]) (cap := #[]) (args := [(.slice a1_5 x1.Lines.length n1_5)]) rfl Bx rfl hs69 (BA N w59 F4 hs69.pers x1.Lines a1_5 n1_5 hb1_5 (V5 hs1_5 ((le36.t le61).trans le70)) _ hr74) ?_
     rintro _ F5 w77 _ hs78 le79 ⟨a81, n82, e83, rfl, rfl, hr84⟩
     have hs86 : HS w0 F0 w77 F5 [e83, (sb b27 #[(sv (([] : Wn))), (vi 0), (vi 0), (vi 0), (.slice none ([] : List Int).length 0), (.slice none ([] : List Line).length 0)] 27), (sb b24 (AF x1 a1_4 n1_4 a1_5 n1_5) 27), (sb b21 (Ag x0) 23)] := hs78
     refine D1 7 <| OE #[(sv x1.Call), (vi x1.Category), (vi x1.Power), (vi x1.Claimed), (.slice a63 r55.length n64), (.slice a1_5 x1.Lines.length n1_5)] hs86 ((le61.t le70).trans le79) (fun w87 hs88 => ?_)
     refine Dv [8] <| D1 9 <| OE #[(sv x1.Call), (vi x1.Category), (vi x1.Power), (vi x1.Claimed), (.slice a63 r55.length n64), (.slice a81 r73.length n82)] hs88 ((le61.t le70).trans le79) (fun w89 hs90 => ?_)
     obtain rfl := Aa h75
     exact Wf (by kernel_rfl) ⟨F5, a63, n64, a81, n82, e83, hs90, ((le61.t le70).trans le79), fI, hb72, (V5 hs71 le79), hr84⟩
    ·refine Wc (l' := [true, true, false, true, true, false, false, false, false, false]) (zd := false) (by kernel_rfl) (by kernel_rfl) (dst := (some 35)) (ty := 25) (g := none) (by kernel_rfl) rfl (BD (t := 25) (x := (.tmp 34)) (b := b24) (o := 5) (g := false) (s := 1) (C := (AF x1 a1_4 n1_4 a1_5 n1_5)) (v := (.slice a1_5 x1.Lines.length n1_5)) rfl (by kernel_rfl) hw42.at1 rfl rfl rfl) (Bd hw42 (V3 _) (by simp) (fun _ => by simp)) ?_
     refine D1 2 ?_
     obtain ⟨r91, hr92, h93⟩ := bind_some hj53
     refine Az.callO (l' := [true, true, true, true, true, false, false, false, false, false]) (zd := false) (by kernel_rfl) (by kernel_rfl) (by kernel_rfl) (dst := (some 33)) (ty := 24) (g := none) (by kernel_rfl) rfl (f0 := (.func 176)) (aos := #[(.tmp 32)]) (ats := #[24]) (fid := 176) (first := #[]) (cap := #[]) (args := [(.slice a1_4 x1.Jumps.length n1_4)]) rfl Cy rfl hw42 (CO N wd41 F1 hw42.pers x1.Jumps a1_4 n1_4 hb1_4 (V5 hs1_4 le36) _ hr92) ?_
     rintro _ F6 w95 _ hs96 le97 ⟨a99, n100, e101, rfl, rfl, hr102⟩
     have hs104 : HS w0 F0 w95 F6 [e101, (sb b27 #[(sv (([] : Wn))), (vi 0), (vi 0), (vi 0), (.slice none ([] : List Int).length 0), (.slice none ([] : List Line).length 0)] 27), (sb b24 (AF x1 a1_4 n1_4 a1_5 n1_5) 27), (sb b21 (Ag x0) 23)] := hs96
     have hb108 := Wg hr102
     obtain ⟨F7, hs105, le106, hs107⟩ := hs104.fr0 hr102
     refine Dv [6] <| D1 5 ?_
     obtain ⟨r109, hr110, h111⟩ := bind_some h93
     refine Az.callO (l' := [true, true, true, true, true, true, true, false, false, false]) (zd := false) (by kernel_rfl) (by kernel_rfl) (by kernel_rfl) (dst := (some 36)) (ty := 25) (g := none) (by kernel_rfl) rfl (f0 := (.func 177)) (aos := #[(.tmp 35)]) (ats := #[25]) (fid := 177) (first := #[]) (cap := #[]) (args := [(.slice a1_5 x1.Lines.length n1_5)]) rfl Bx rfl hs105 (BA N w95 F7 hs105.pers x1.Lines a1_5 n1_5 hb1_5 (V5 hs1_5 ((le36.t le97).trans le106)) _ hr110) ?_
     rintro _ F8 w113 _ hs114 le115 ⟨a117, n118, e119, rfl, rfl, hr120⟩
     have hs122 : HS w0 F0 w113 F8 [e119, (sb b27 #[(sv (([] : Wn))), (vi 0), (vi 0), (vi 0), (.slice none ([] : List Int).length 0), (.slice none ([] : List Line).length 0)] 27), (sb b24 (AF x1 a1_4 n1_4 a1_5 n1_5) 27), (sb b21 (Ag x0) 23)] := hs114
     refine D1 7 <| OE #[(sv x1.Call), (vi x1.Category), (vi x1.Power), (vi x1.Claimed), (.slice a99 r91.length n100), (.slice a1_5 x1.Lines.length n1_5)] hs122 ((le97.t le106).trans le115) (fun w123 hs124 => ?_)
     refine Dv [8] <| D1 9 <| OE #[(sv x1.Call), (vi x1.Category), (vi x1.Power), (vi x1.Claimed), (.slice a99 r91.length n100), (.slice a117 r109.length n118)] hs124 ((le97.t le106).trans le115) (fun w125 hs126 => ?_)
     obtain rfl := Aa h111
     exact Wf (by kernel_rfl) ⟨F8, a99, n100, a117, n118, e119, hs126, ((le97.t le106).trans le115), fI, hb108, (V5 hs107 le115), hr120⟩
   ·refine Wc (l' := [true, false, false, true, true, false, false, false, false, false]) (zd := false) (by kernel_rfl) (by kernel_rfl) (dst := (some 35)) (ty := 25) (g := none) (by kernel_rfl) rfl (BD (t := 25) (x := (.tmp 34)) (b := b24) (o := 5) (g := false) (s := 1) (C := (AF x1 a1_4 n1_4 a1_5 n1_5)) (v := (.slice a1_5 x1.Lines.length n1_5)) rfl (by kernel_rfl) hw42.at1 rfl rfl rfl) (Bd hw42 (V3 _) (by simp) (fun _ => by simp)) ?_
    refine D1 1 <| Wc (l' := [true, true, false, true, true, false, false, false, false, false]) (zd := false) (by kernel_rfl) (by kernel_rfl) (dst := (some 32)) (ty := 24) (g := none) (by kernel_rfl) rfl (BD (t := 24) (x := (.tmp 31)) (b := b24) (o := 4) (g := false) (s := 1) (C := (AF x1 a1_4 n1_4 a1_5 n1_5)) (v := (.slice a1_4 x1.Jumps.length n1_4)) rfl (by kernel_rfl) hw42.at1 rfl rfl rfl) (Bd hw42 (V3 _) (by simp) (fun _ => by simp)) <| D1 2 ?_
    obtain ⟨r127, hr128, h129⟩ := bind_some hj53
    refine Az.callO (l' := [true, true, true, true, true, false, false, false, false, false]) (zd := false) (by kernel_rfl) (by kernel_rfl) (by kernel_rfl) (dst := (some 33)) (ty := 24) (g := none) (by kernel_rfl) rfl (f0 := (.func 176)) (aos := #[(.tmp 32)]) (ats := #[24]) (fid := 176) (first := #[]) (cap := #[]) (args := [(.slice a1_4 x1.Jumps.length n1_4)]) rfl Cy rfl hw42 (CO N wd41 F1 hw42.pers x1.Jumps a1_4 n1_4 hb1_4 (V5 hs1_4 le36) _ hr128) ?_
    rintro _ F9 w131 _ hs132 le133 ⟨a135, n136, e137, rfl, rfl, hr138⟩
    have hs140 : HS w0 F0 w131 F9 [e137, (sb b27 #[(sv (([] : Wn))), (vi 0), (vi 0), (vi 0), (.slice none ([] : List Int).length 0), (.slice none ([] : List Line).length 0)] 27), (sb b24 (AF x1 a1_4 n1_4 a1_5 n1_5) 27), (sb b21 (Ag x0) 23)] := hs132
    have hb144 := Wg hr138
    obtain ⟨F10, hs141, le142, hs143⟩ := hs140.fr0 hr138
    refine Dv [6] <| D1 5 ?_
    obtain ⟨r145, hr146, h147⟩ := bind_some h129
    refine Az.callO (l' := [true, true, true, true, true, true, true, false, false, false]) (zd := false) (by kernel_rfl) (by kernel_rfl) (by kernel_rfl) (dst := (some 36)) (ty := 25) (g := none) (by kernel_rfl) rfl (f0 := (.func 177)) (aos := #[(.tmp 35)]) (ats := #[25]) (fid := 177) (first := #[]) (cap := #[]) (args := [(.slice a1_5 x1.Lines.length n1_5)]) rfl Bx rfl hs141 (BA N w131 F10 hs141.pers x1.Lines a1_5 n1_5 hb1_5 (V5 hs1_5 ((le36.t le133).trans le142)) _ hr146) ?_
    rintro _ F11 w149 _ hs150 le151 ⟨a153, n154, e155, rfl, rfl, hr156⟩
    have hs158 : HS w0 F0 w149 F11 [e155, (sb b27 #[(sv (([] : Wn))), (vi 0), (vi 0), (vi 0), (.slice none ([] : List Int).length 0), (.slice none ([] : List Line).length 0)] 27), (sb b24 (AF x1 a1_4 n1_4 a1_5 n1_5) 27), (sb b21 (Ag x0) 23)] := hs150
    refine D1 7 <| OE #[(sv x1.Call), (vi x1.Category), (vi x1.Power), (vi x1.Claimed), (.slice a135 r127.length n136), (.slice a1_5 x1.Lines.length n1_5)] hs158 ((le133.t le142).trans le151) (fun w159 hs160 => ?_)
    refine Dv [8] <| D1 9 <| OE #[(sv x1.Call), (vi x1.Category), (vi x1.Power), (vi x1.Claimed), (.slice a135 r127.length n136), (.slice a153 r145.length n154)] hs160 ((le133.t le142).trans le151) (fun w161 hs162 => ?_)
    obtain rfl := Aa h147
    exact Wf (by kernel_rfl) ⟨F11, a135, n136, a153, n154, e155, hs162, ((le133.t le142).trans le151), fI, hb144, (V5 hs143 le151), hr156⟩
  ·rintro f w43 ⟨F2, aj47_0, nj47_0, aj47_1, nj47_1, ej47_1, hs44, le45, ⟨_, rfl⟩, hbj47_0, hsj47_0, hrj47_1⟩
   refine Ab <| Sq (Rg (rG 5) ?_)
   refine Ld hs44.at3 <| Ld hs44.at2 <| Vs 1 <| Bx' 214 #[(.bool x0.Report), (.bool x0.Serial), (.bool x0.Zone), (sv x1.Call), (vi x1.Category), (vi x1.Power), (vi x1.Claimed), (.slice aj47_0 j47.1.length nj47_0), (.slice aj47_1 j47.2.length nj47_1)] hs44 (fun b163 w164 hs165 => ?_)
   refine Vs 1 <| Nss (Rg (rG 12) ?_)
   refine RWP.litMap (dst := (some 43)) (ty := 216) (g := none) (by kernel_rfl) rfl (t := 216) hs165 (fun b166 w167 (hs168 : HS w0 F0 w167 F2 [(some b166, (.map #[] 0)), (sb b163 #[(.bool x0.Report), (.bool x0.Serial), (.bool x0.Zone), (sv x1.Call), (vi x1.Category), (vi x1.Power), (vi x1.Claimed), (.slice aj47_0 j47.1.length nj47_0), (.slice aj47_1 j47.2.length nj47_1)] 214), ej47_1, (sb b27 #[(sv (([] : Wn))), (vi 0), (vi 0), (vi 0), (.slice none ([] : List Int).length 0), (.slice none ([] : List Line).length 0)] 27), (sb b24 #[(sv x1.Call), (vi x1.Category), (vi x1.Power), (vi x1.Claimed), (.slice aj47_0 j47.1.length nj47_0), (.slice aj47_1 j47.2.length nj47_1)] 27), (sb b21 (Ag x0) 23)]) => ?_)
   refine Vs 2 <| RWP.litIns (d := .int .i64) (k := 3) (vt := 215) (ty := 0) (g := none) (mt := 216) (m := (.tmp 43)) (x := (.const (vi 1))) (y := (.tmp 45)) (b := b166) (q := 0) (kv := (vi 1)) (v := (.func (.func 178) #[(pt b163 0)] #[])) (by kernel_rfl) rfl rfl rfl rfl (by kernel_rfl) (by kernel_rfl) rfl (by kernel_rfl) hs168 rfl rfl (fun w169 (hs170 : HS w0 F0 w169 F2 [(some b166, (.map #[⟨(vi 1), (.func (.func 178) #[(pt b163 0)] #[]), 0⟩] 1)), (sb b163 #[(.bool x0.Report), (.bool x0.Serial), (.bool x0.Zone), (sv x1.Call), (vi x1.Category), (vi x1.Power), (vi x1.Claimed), (.slice aj47_0 j47.1.length nj47_0), (.slice aj47_1 j47.2.length nj47_1)] 214), ej47_1, (sb b27 #[(sv (([] : Wn))), (vi 0), (vi 0), (vi 0), (.slice none ([] : List Int).length 0), (.slice none ([] : List Line).length 0)] 27), (sb b24 #[(sv x1.Call), (vi x1.Category), (vi x1.Power), (vi x1.Claimed), (.slice aj47_0 j47.1.length nj47_0), (.slice aj47_1 j47.2.length nj47_1)] 27), (sb b21 (Ag x0) 23)]) => ?_)
   refine Vs 2 <| RWP.litIns (d := .int .i64) (k := 3) (vt := 215) (ty := 0) (g := none) (mt := 216) (m := (.tmp 43)) (x := (.const (vi 2))) (y := (.tmp 47)) (b := b166) (q := 0) (kv := (vi 2)) (v := (.func (.func 179) #[(pt b163 0)] #[])) (by kernel_rfl) rfl rfl rfl rfl (by kernel_rfl) (by kernel_rfl) rfl (by kernel_rfl) hs170 rfl rfl (fun w171 (hs172 : HS w0 F0 w171 F2 [(some b166, (.map #[⟨(vi 1), (.func (.func 178) #[(pt b163 0)] #[]), 0⟩, ⟨(vi 2), (.func (.func 179) #[(pt b163 0)] #[]), 1⟩] 2)), (sb b163 #[(.bool x0.Report), (.bool x0.Serial), (.bool x0.Zone), (sv x1.Call), (vi x1.Category), (vi x1.Power), (vi x1.Claimed), (.slice aj47_0 j47.1.length nj47_0), (.slice aj47_1 j47.2.length nj47_1)] 214), ej47_1, (sb b27 #[(sv (([] : Wn))), (vi 0), (vi 0), (vi 0), (.slice none ([] : List Int).length 0), (.slice none ([] : List Line).length 0)] 27), (sb b24 #[(sv x1.Call), (vi x1.Category), (vi x1.Power), (vi x1.Claimed), (.slice aj47_0 j47.1.length nj47_0), (.slice aj47_1 j47.2.length nj47_1)] 27), (sb b21 (Ag x0) 23)]) => ?_)
   refine Vs 2 <| RWP.litIns (d := .int .i64) (k := 3) (vt := 215) (ty := 0) (g := none) (mt := 216) (m := (.tmp 43)) (x := (.const (vi 3))) (y := (.tmp 49)) (b := b166) (q := 0) (kv := (vi 3)) (v := (.func (.func 180) #[(pt b163 0)] #[])) (by kernel_rfl) rfl rfl rfl rfl (by kernel_rfl) (by kernel_rfl) rfl (by kernel_rfl) hs172 rfl rfl (fun w173 (hs174 : HS w0 F0 w173 F2 [(some b166, (.map #[⟨(vi 1), (.func (.func 178) #[(pt b163 0)] #[]), 0⟩, ⟨(vi 2), (.func (.func 179) #[(pt b163 0)] #[]), 1⟩, ⟨(vi 3), (.func (.func 180) #[(pt b163 0)] #[]), 2⟩] 3)), (sb b163 #[(.bool x0.Report), (.bool x0.Serial), (.bool x0.Zone), (sv x1.Call), (vi x1.Category), (vi x1.Power), (vi x1.Claimed), (.slice aj47_0 j47.1.length nj47_0), (.slice aj47_1 j47.2.length nj47_1)] 214), ej47_1, (sb b27 #[(sv (([] : Wn))), (vi 0), (vi 0), (vi 0), (.slice none ([] : List Int).length 0), (.slice none ([] : List Line).length 0)] 27), (sb b24 #[(sv x1.Call), (vi x1.Category), (vi x1.Power), (vi x1.Claimed), (.slice aj47_0 j47.1.length nj47_0), (.slice aj47_1 j47.2.length nj47_1)] 27), (sb b21 (Ag x0) 23)]) => ?_)
   refine Vs 2 <| Nss (Rg [0] ?_)
   refine Vs 1 <| Nss <| Sq (Rg [0, 1, 2] ?_)
   refine Vs 3 <| Nt ?_
   have hs175 := hs174.dr4.dummy (oc #[] 0)
   obtain ⟨o177, ho178, h179⟩ := bind_some h54
   refine V9 (fun f w => ∃ (s194 : (List Fix × Int × Bool × Bool × Bool × Wn × Int × Int × Int × List Int × List Line)) (F13 : Mem) (as194_9 : Wo) (ns194_9 : Nat) (as194_10 : Wo) (ns194_10 : Nat) (es194_10 : Option Nat × Obj) (as194_0 : Wo) (ns194_0 : Nat) (es194_0 : Option Nat × Obj), o177 = .done s194 /\ HS w0 F0 w F13 [es194_0, (sb b163 #[(.bool s194.2.2.1), (.bool s194.2.2.2.1), (.bool s194.2.2.2.2.1), (sv s194.2.2.2.2.2.1), (vi s194.2.2.2.2.2.2.1), (vi s194.2.2.2.2.2.2.2.1), (vi s194.2.2.2.2.2.2.2.2.1), (.slice as194_9 s194.2.2.2.2.2.2.2.2.2.1.length ns194_9), (.slice as194_10 s194.2.2.2.2.2.2.2.2.2.2.length ns194_10)] 214), es194_10, (sb b27 #[(sv (([] : Wn))), (vi 0), (vi 0), (vi 0), (.slice none ([] : List Int).length 0), (.slice none ([] : List Line).length 0)] 27), (sb b21 (Ag x0) 23)] /\ V2 F2 F13 /\ FI f [] [(2, (.slice a2_0 x2.length n2_0)), (3, (pt b21 0)), (6, (pt b27 0)), (12, (pt b163 0)), (14, (.slice as194_0 s194.1.length ns194_0))] /\ LC s194.2.2.2.2.2.2.2.2.2.1.length ns194_9 /\ SlA AM F13 as194_9 s194.2.2.2.2.2.2.2.2.2.1 /\ Ar AL 34 F13 as194_10 ns194_10 s194.2.2.2.2.2.2.2.2.2.2 es194_10 /\ Ar Kh 64 F13 as194_0 ns194_0 s194.1 es194_0) ?_ ?_
   ·refine Bk ?_
    refine V1 (by kernel_rfl) (fun m f w => ∃ (s180 : (List Fix × Int × Bool × Bool × Bool × Wn × Int × Int × Int × List Int × List Line)) (F12 : Mem) (as180_9 : Wo) (ns180_9 : Nat) (as180_10 : Wo) (ns180_10 : Nat) (es180_10 : Option Nat × Obj) (as180_0 : Wo) (ns180_0 : Nat) (es180_0 : Option Nat × Obj), AJ (Gy N x0 x1 x2 r30 j47) m s180 = some o177 /\ HS w0 F0 w F12 [es180_0, (some b166, (.map #[⟨(vi 1), (.func (.func 178) #[(pt b163 0)] #[]), 0⟩, ⟨(vi 2), (.func (.func 179) #[(pt b163 0)] #[]), 1⟩, ⟨(vi 3), (.func (.func 180) #[(pt b163 0)] #[]), 2⟩] 3)), (sb b163 #[(.bool s180.2.2.1), (.bool s180.2.2.2.1), (.bool s180.2.2.2.2.1), (sv s180.2.2.2.2.2.1), (vi s180.2.2.2.2.2.2.1), (vi s180.2.2.2.2.2.2.2.1), (vi s180.2.2.2.2.2.2.2.2.1), (.slice as180_9 s180.2.2.2.2.2.2.2.2.2.1.length ns180_9), (.slice as180_10 s180.2.2.2.2.2.2.2.2.2.2.length ns180_10)] 214), es180_10, (sb b27 #[(sv (([] : Wn))), (vi 0), (vi 0), (vi 0), (.slice none ([] : List Int).length 0), (.slice none ([] : List Line).length 0)] 27), (sb b21 (Ag x0) 23)] /\ V2 F2 F12 /\ FI f [] [(2, (.slice a2_0 x2.length n2_0)), (3, (pt b21 0)), (6, (pt b27 0)), (12, (pt b163 0)), (13, (.map (some b166))), (14, (.slice as180_0 s180.1.length ns180_0)), (51, (.slice a2_0 x2.length n2_0)), (52, (vi (x2.length : Int))), (53, (vi s180.2.1))] /\ LC s180.2.2.2.2.2.2.2.2.2.1.length ns180_9 /\ SlA AM F12 as180_9 s180.2.2.2.2.2.2.2.2.2.1 /\ Ar AL 34 F12 as180_10 ns180_10 s180.2.2.2.2.2.2.2.2.2.2 es180_10 /\ Ar Kh 64 F12 as180_0 ns180_0 s180.1 es180_0) N ⟨(([] : List Fix), 0, x0.Report, x0.Serial, x0.Zone, x1.Call, x1.Category, x1.Power, x1.Claimed, j47.1, j47.2), F2, aj47_0, nj47_0, aj47_1, nj47_1, ej47_1, none, 0, (none, .cells #[] 0 (0, 0)), ho178, hs175, (V3 _), fI, hbj47_0, hsj47_0, hrj47_1, (Wh Kh 64 F2 _)⟩ ?_
    rintro m204 f w181 ⟨s180, F12, as180_9, ns180_9, as180_10, ns180_10, es180_10, as180_0, ns180_0, es180_0, hit205, hs182, le183, ⟨_, rfl⟩, hbs180_9, hss180_9, hrs180_10, hrs180_0⟩
    obtain ⟨m206, fl207, rfl, hb208, hnx209⟩ := AC hit205
    refine Sq (Rg [0] ?_)
    refine Vs 1 <| Nss <| Cd hb208 (fun hb210 h211 => ?_) (fun hb210 h212 => ?_)
    ·refine Sc ?_
     refine Ab <| Sq <| Bk <| Sq (Rg (rG 6) ?_)
     refine Vs 1 ?_
     obtain ⟨x213, hx214, h216⟩ := bind_some h211
     obtain ⟨hi215, hx214'⟩ := Aj hx214
     obtain ⟨b217, o218, C219, E220, fz221, rfl, hF223, hE224⟩ := Wa (V5 hs2_0 ((le36.t le45).trans le183)) hx214'
     have hc226 := hE224 _ _ hx214'
     refine Ix hi215 <| Lx 0 (hs182.pers _ _ hF223) hc226 <| Al' 64 #[(vi 0), (vi 0), (vi 0), (vi 0), (vi 0), (vi 0), (sv (([] : Wn))), (vi 0), (vi 0), (vi 0), (vi 0), (vi 0), (vi 0)] hs182 (fun b227 w228 hs229 => ?_)
     refine Vs 1 <| St0 (P7 x213) hs229 (fun w230 hs231 => ?_)
     refine Nss (Rg (rG 9) ?_)
     refine Vs 2 <| Ld hs231.at0 <| Sp h216 (fun hb232 h233 => ?_) (fun hb232 h234 => ?_)
     ·refine V 62 217 (Pe (mt := 216) (k := 3) (vt := 215) (d := .int .i64) (m := (.tmp 59)) (x := (.tmp 61)) (b := b166) (kv := (vi x213.Kind)) (v := (.func (.func 178) #[(pt b163 0)] #[])) (j := 0) rfl rfl (by kernel_rfl) (by kernel_rfl) rfl (hs231.ownAt (k := 2) rfl) (U0 hb232)) ?_
      refine Vs 5 <| Nss <| Sq (Rg [0, 1] ?_)
      refine Vs 2 <| Nt <| C0 (rfl : false = false) <| Sc <| Ab <| Sq (Rg (rG 9) ?_)
      refine Vs 1 <| Ld hs231.at0 ?_
      have hs235 := hs231.pk6.pk6.pk4.pk4.pk4
      obtain ⟨r236, hr237, h238⟩ := bind_some h233
      refine CB HD (Ig N b163 (({ o_ := ({ Report := s180.2.2.1, Serial := s180.2.2.2.1, Zone := s180.2.2.2.2.1 } : Ac), l_ := ({ Call := s180.2.2.2.2.2.1, Category := s180.2.2.2.2.2.2.1, Power := s180.2.2.2.2.2.2.2.1, Claimed := s180.2.2.2.2.2.2.2.2.1, Jumps := s180.2.2.2.2.2.2.2.2.2.1, Lines := s180.2.2.2.2.2.2.2.2.2.2 } : Log) } : A5)) as180_9 ns180_9 as180_10 ns180_10 es180_10 hbs180_9 hss180_9 hrs180_10 x213 hs235.pk6.pk6 _ hr237) ?_
      rintro _ F14 w239 _ hs240 le241 ⟨ar236_0_7, nr236_0_7, ar236_0_8, nr236_0_8, er236_0_8, rfl, rfl, hbr236_0_7, hsr236_0_7, hrr236_0_8⟩
      refine Vs 3 <| Al' 64 #[(vi 0), (vi 0), (vi 0), (vi 0), (vi 0), (vi 0), (sv (([] : Wn))), (vi 0), (vi 0), (vi 0), (vi 0), (vi 0), (vi 0)] hs240 (fun b243 w244 hs245 => ?_)
      refine St0 (P7 r236.2.1) hs245 (fun w246 hs247 => ?_)
      refine Vs 1 <| Nss <| Sq (Rg [0, 1] ?_)
      refine Vs 2 <| Nt <| Cd h238 (fun hb248 h249 => ?_) (fun hb248 h250 => ?_)
      ·cases h249
      ·refine Sc ?_
       refine Ab <| Rg (rG 5) <| Vs 1 <| Ld hs247.at0 <| Bs 64 [(vi r236.2.1.Kind), (vi r236.2.1.Num), (vi r236.2.1.Line.Num), (vi r236.2.1.Line.Khz), (vi r236.2.1.Line.Mode), (vi r236.2.1.Line.Minute), (sv r236.2.1.Line.Call), (vi r236.2.1.Line.Sent.Report), (vi r236.2.1.Line.Sent.Serial), (vi r236.2.1.Line.Sent.Zone), (vi r236.2.1.Line.Got.Report), (vi r236.2.1.Line.Got.Serial), (vi r236.2.1.Line.Got.Zone)] hs247 (fun b251 w252 hs253 => ?_)
       have hr255 : Ar Kh 64 F14 (some ⟨b251, 0, none⟩) 1 [r236.2.1] (some b251, .cells ([(vi r236.2.1.Kind), (vi r236.2.1.Num), (vi r236.2.1.Line.Num), (vi r236.2.1.Line.Khz), (vi r236.2.1.Line.Mode), (vi r236.2.1.Line.Minute), (sv r236.2.1.Line.Call), (vi r236.2.1.Line.Sent.Report), (vi r236.2.1.Line.Sent.Serial), (vi r236.2.1.Line.Sent.Zone), (vi r236.2.1.Line.Got.Report), (vi r236.2.1.Line.Got.Serial), (vi r236.2.1.Line.Got.Zone)] : List Value).toArray 64 (0, 0)) := Wi ⟨rfl, rfl⟩ (by simp)
       obtain ⟨r256, hap257, h258⟩ := bind_some h250
       refine Ap5 VM hs253 (hrs180_0.mono le241) (hs253.rd0 hr255) hap257 (fun a259 n260 e261 w262 hs263 hr264 => ?_)
       refine Vs 1 <| VY <| Ap <| Ab <| Rg [0, 1] <| Vs 2 <| VY ?_
       have hs265 := hs263.dr0.dr0.dr2.pk5.pk5
       have hn266 := AD h258 hnx209
       exact ⟨m206, Nat.lt_succ_self _, (r256, (W64 (s180.2.1 + 1)), r236.1.o_.Report, r236.1.o_.Serial, r236.1.o_.Zone, r236.1.l_.Call, r236.1.l_.Category, r236.1.l_.Power, r236.1.l_.Claimed, r236.1.l_.Jumps, r236.1.l_.Lines), F14, ar236_0_7, nr236_0_7, ar236_0_8, nr236_0_8, er236_0_8, a259, n260, e261, hn266, hs265.pk3.pk3.pk5.pk5, (le183.t le241), fI, hbr236_0_7, hsr236_0_7, hrr236_0_8, hr264⟩
     ·cases h234
    ·refine Ex ?_
     refine Al <| Al <| Ay rfl ?_
     have ho267 := AE h212 hnx209
     exact .inl ⟨rfl, (s180.1, s180.2.1, s180.2.2.1, s180.2.2.2.1, s180.2.2.2.2.1, s180.2.2.2.2.2.1, s180.2.2.2.2.2.2.1, s180.2.2.2.2.2.2.2.1, s180.2.2.2.2.2.2.2.2.1, s180.2.2.2.2.2.2.2.2.2.1, s180.2.2.2.2.2.2.2.2.2.2), F12, as180_9, ns180_9, as180_10, ns180_10, es180_10, as180_0, ns180_0, es180_0, ho267, hs182.dr1, le183, fI, hbs180_9, hss180_9, hrs180_10, hrs180_0⟩
   ·rintro f w195 ⟨s194, F13, as194_9, ns194_9, as194_10, ns194_10, es194_10, as194_0, ns194_0, es194_0, rfl, hs196, le197, ⟨_, rfl⟩, hbs194_9, hss194_9, hrs194_10, hrs194_0⟩
    have h268 := A6 h179
    refine Ab <| Sq <| Sq ?_
    obtain ⟨j274, hj281, h282⟩ := bind_some h268
    refine RD 7 7 [es194_0, (sb b163 #[(.bool s194.2.2.1), (.bool s194.2.2.2.1), (.bool s194.2.2.2.2.1), (sv s194.2.2.2.2.2.1), (vi s194.2.2.2.2.2.2.1), (vi s194.2.2.2.2.2.2.2.1), (vi s194.2.2.2.2.2.2.2.2.1), (.slice as194_9 s194.2.2.2.2.2.2.2.2.2.1.length ns194_9), (.slice as194_10 s194.2.2.2.2.2.2.2.2.2.2.length ns194_10)] 214), es194_10, (sb b27 #[(sv (([] : Wn))), (vi 0), (vi 0), (vi 0), (.slice none ([] : List Int).length 0), (.slice none ([] : List Line).length 0)] 27), (sb b21 (Ag x0) 23)] [] hs196 (fun f w => ∃ (F15 : Mem), HS w0 F0 w F15 [es194_0, (sb b163 #[(.bool s194.2.2.1), (.bool s194.2.2.2.1), (.bool s194.2.2.2.2.1), (sv s194.2.2.2.2.2.1), (vi s194.2.2.2.2.2.2.1), (vi s194.2.2.2.2.2.2.2.1), (vi s194.2.2.2.2.2.2.2.2.1), (.slice as194_9 s194.2.2.2.2.2.2.2.2.2.1.length ns194_9), (.slice as194_10 s194.2.2.2.2.2.2.2.2.2.2.length ns194_10)] 214), es194_10, (sb b27 #[(sv (([] : Wn))), (vi 0), (vi 0), (vi 0), (.slice none ([] : List Int).length 0), (.slice none ([] : List Line).length 0)] 27)] /\ V2 F13 F15 /\ FI f [] [(2, (.slice a2_0 x2.length n2_0)), (6, (pt b27 0)), (12, (pt b163 0)), (14, (.slice as194_0 s194.1.length ns194_0)), (90, (.bool j274))]) (fun wd269 hw270 => ?_) ?_
    ·refine Dl 0 (fun _ hq => (hq.1.2 4 _ _ rfl)) ?_
     refine Dv [1, 2, 3] <| Dl 4 (fun _ hq => (hq.1.2 1 _ _ rfl)) <| D1 5 ?_
     obtain ⟨r283, hr284, h285⟩ := bind_some hj281
     refine Az.callLentP (l' := [true, true, true, true, true, true, false]) (zd := true) (by kernel_rfl) (by kernel_rfl) (by kernel_rfl) (q := 2) (v0 := (.bool r283)) (dst := (some 89)) (ty := 4) (g := none) (by kernel_rfl) rfl (f0 := (.func 25)) (aos := #[(.tmp 84), (.tmp 88)]) (ats := #[23, 27]) (fid := 25) (first := #[]) (cap := #[]) (args := [(.agg (Ag x0)), (.agg #[(sv s194.2.2.2.2.2.1), (vi s194.2.2.2.2.2.2.1), (vi s194.2.2.2.2.2.2.2.1), (vi s194.2.2.2.2.2.2.2.2.1), (.slice as194_9 s194.2.2.2.2.2.2.2.2.2.1.length ns194_9), (.slice as194_10 s194.2.2.2.2.2.2.2.2.2.2.length ns194_10)])]) rfl LP rfl hw270 rfl (MH N wd269 (HN F13 es194_10) (HS.lend hw270 (q := 2) rfl).2 (hG.mono (((le36.t le45).trans le197).trans (HS.lend hw270 (q := 2) rfl).1)) ({ Report := x0.Report, Serial := x0.Serial, Zone := x0.Zone } : Ac) ({ Call := s194.2.2.2.2.2.1, Category := s194.2.2.2.2.2.2.1, Power := s194.2.2.2.2.2.2.2.1, Claimed := s194.2.2.2.2.2.2.2.2.1, Jumps := s194.2.2.2.2.2.2.2.2.2.1, Lines := s194.2.2.2.2.2.2.2.2.2.2 } : Log) as194_9 ns194_9 hbs194_9 (V5 hss194_9 (HS.lend hw270 (q := 2) rfl).1) as194_10 ns194_10 (Wg hrs194_10) (Ar.freeze hrs194_10 (HS.lend hw270 (q := 2) rfl).1) _ hr284) (fun F16 w286 (hs287 : HS w0 F0 w286 F16 [es194_0, (sb b163 #[(.bool s194.2.2.1), (.bool s194.2.2.2.1), (.bool s194.2.2.2.2.1), (sv s194.2.2.2.2.2.1), (vi s194.2.2.2.2.2.2.1), (vi s194.2.2.2.2.2.2.2.1), (vi s194.2.2.2.2.2.2.2.2.1), (.slice as194_9 s194.2.2.2.2.2.2.2.2.2.1.length ns194_9), (.slice as194_10 s194.2.2.2.2.2.2.2.2.2.2.length ns194_10)] 214), es194_10, (sb b27 #[(sv (([] : Wn))), (vi 0), (vi 0), (vi 0), (.slice none ([] : List Int).length 0), (.slice none ([] : List Line).length 0)] 27), (sb b21 (Ag x0) 23)]) le288 => ?_)
     refine Dv [6] ?_
     obtain rfl := Aa h285
     exact Wf (by kernel_rfl) ⟨F16, hs287.dr4, le288, fI⟩
    ·rintro f w271 ⟨F15, hs272, le273, ⟨_, rfl⟩⟩
     refine Ab <| Cd h282 (fun hb289 h290 => ?_) (fun hb289 h291 => ?_)
     ·cases h290
     ·refine Sc ?_
      refine Ab <| Sq (Rg (rG 9) ?_)
      refine Vs 3 <| Ld hs272.at1 <| Vs 1 <| St3 #[(sv s194.2.2.2.2.2.1), (vi s194.2.2.2.2.2.2.1), (vi s194.2.2.2.2.2.2.2.1), (vi s194.2.2.2.2.2.2.2.2.1), (.slice as194_9 s194.2.2.2.2.2.2.2.2.2.1.length ns194_9), (.slice as194_10 s194.2.2.2.2.2.2.2.2.2.2.length ns194_10)] hs272 (fun w292 hs293 => ?_)
      refine Vs 3 <| Nt <| Rt ?_
      obtain rfl := Aa h291
      exact ⟨rfl, (.tuple #[(.agg #[(sv s194.2.2.2.2.2.1), (vi s194.2.2.2.2.2.2.1), (vi s194.2.2.2.2.2.2.2.1), (vi s194.2.2.2.2.2.2.2.2.1), (.slice as194_9 s194.2.2.2.2.2.2.2.2.2.1.length ns194_9), (.slice as194_10 s194.2.2.2.2.2.2.2.2.2.2.length ns194_10)]), (.slice as194_0 s194.1.length ns194_0), (vi 0), (vi 0)]), AW (l := [.cell 6 27, .tmp 7, .tmp 8, .tmp 9]) (by kernel_rfl) (vs := [(.agg #[(sv s194.2.2.2.2.2.1), (vi s194.2.2.2.2.2.2.1), (vi s194.2.2.2.2.2.2.2.1), (vi s194.2.2.2.2.2.2.2.2.1), (.slice as194_9 s194.2.2.2.2.2.2.2.2.2.1.length ns194_9), (.slice as194_10 s194.2.2.2.2.2.2.2.2.2.2.length ns194_10)]), (.slice as194_0 s194.1.length ns194_0), (vi 0), (vi 0)]) ⟨b27, 0, rfl, An (t := 27) (g := true) (s := 6) (by kernel_rfl) hs293.at3 rfl (by decide), ⟨rfl, ⟨rfl, ⟨rfl, trivial⟩⟩⟩⟩, (.tuple #[(.agg #[(sv s194.2.2.2.2.2.1), (vi s194.2.2.2.2.2.2.1), (vi s194.2.2.2.2.2.2.2.1), (vi s194.2.2.2.2.2.2.2.2.1), (.slice as194_9 s194.2.2.2.2.2.2.2.2.2.1.length ns194_9), (.slice as194_10 s194.2.2.2.2.2.2.2.2.2.2.length ns194_10)]), (.slice as194_0 s194.1.length ns194_0), (vi 0), (vi 0)]), F15, _, rfl, hs293.dr1.dr2.pk1, ⟨as194_9, ns194_9, as194_10, ns194_10, es194_10, as194_0, ns194_0, es194_0, rfl, rfl, hbs194_9, (V5 hss194_9 le273), (hrs194_10.mono le273), (hrs194_0.mono le273)⟩⟩
theorem Ea {N : Nat} {x r : List Fix} (h : Bg N x = some r) : r.length = x.length := by
 unfold Bg at h
 obtain ⟨o, ho, h⟩ := bind_some h
 obtain ⟨s1, hI, hb, _⟩ := P8 (fun s => s.2.2.length = x.length) (fun s s' hI hs => by
  unfold A7 at hs
  rcases O1 hs with ⟨_, hs⟩ | ⟨_, hs⟩
  ·cases hs
  ·cases hs) (by rfl) ho
 unfold A7 at hb
 rcases O1 hb with ⟨_, hb⟩ | ⟨_, hb⟩
 ·cases hb
 ·cases hb; cases h; exact hI
def Mf (N : Nat) (x0 : Ac) (x1 : Log) (x2 : (List Fix)) : Option ((List Fix) × Int) :=
 ((It N ({ Report := x0.Report, Serial := x0.Serial, Zone := x0.Zone } : Ac) x1 x2).bind fun r27 => ((Bg N r27.2.1).bind fun r41 => some (r41, r27.2.2.1)))
theorem NJ : Af Tryz.prog 53 := fun _ _ => by kernel_rfl
theorem Ox (N : Nat) (w0 : World) (F0 : Mem) (hF : Wp w0 F0) (hG : Br F0) (x0 : Ac) (x1 : Log) (a1_4 : Wo) (n1_4 : Nat) (hb1_4 : LC x1.Jumps.length n1_4) (hs1_4 : SlA AM F0 a1_4 x1.Jumps) (a1_5 : Wo) (n1_5 : Nat) (hb1_5 : LC x1.Lines.length n1_5) (hs1_5 : SlA AL F0 a1_5 x1.Lines) (x2 : (List Fix)) (a2_0 : Wo) (n2_0 : Nat) (hb2_0 : LC x2.length n2_0) (hs2_0 : SlA Kh F0 a2_0 x2) (r : ((List Fix) × Int)) (h : Mf N x0 x1 x2 = some r) :
  Calls Tryz.prog 53 ([(.agg (Ag x0)), (.agg (AF x1 a1_4 n1_4 a1_5 n1_5)), (.slice a2_0 x2.length n2_0)] : List Value).toArray w0 (AA w0 F0 fun F' v => ∃ (aq0_0 : Wo) (nq0_0 : Nat), v = (.tuple #[(.slice aq0_0 r.1.length nq0_0), (vi r.2)]) /\ LC r.1.length nq0_0 /\ SlA Kh F' aq0_0 r.1) := by
 have hs0 := V4 hF
 refine Go 25 Tryz.func53 <| Sq (Rg (rG 4) ?_)
 refine Bx' 23 (Ag x0) hs0 (fun b21 w22 hs23 => ?_)
 refine Bx' 27 (AF x1 a1_4 n1_4 a1_5 n1_5) hs23 (fun b24 w25 hs26 => ?_)
 refine Vs 2 <| Nss (Rg (rG 14) ?_)
 refine Ld hs26.at1 <| Ld hs26.at0 <| Vs 1 ?_
 obtain ⟨r27, hr28, h29⟩ := bind_some h
 refine RWP.callO (dst := (some 16)) (ty := 162) (g := none) (by kernel_rfl) rfl (f0 := (.func 120)) (aos := #[(.tmp 13), (.tmp 14), (.tmp 15)]) (ats := #[23, 27, 60]) (fid := 120) (first := #[]) (cap := #[]) (args := [(.agg (Ag x0)), (.agg (AF x1 a1_4 n1_4 a1_5 n1_5)), (.slice a2_0 x2.length n2_0)]) rfl KH rfl hs26 (LW N w25 F0 hs26.pers hG (({ Report := x0.Report, Serial := x0.Serial, Zone := x0.Zone } : Ac)) x1 a1_4 n1_4 hb1_4 hs1_4 a1_5 n1_5 hb1_5 hs1_5 x2 a2_0 n2_0 hb2_0 hs2_0 _ hr28) ?_
 rintro _ F1 w31 _ hs32 le33 ⟨ar27_0_4, nr27_0_4, ar27_0_5, nr27_0_5, er27_0_5, ar27_1_0, nr27_1_0, er27_1_0, rfl, rfl, hbr27_0_4, hsr27_0_4, hrr27_0_5, hrr27_1_0⟩
 have hs35 : HS w0 F0 w31 F1 [er27_0_5, er27_1_0, (sb b24 (AF x1 a1_4 n1_4 a1_5 n1_5) 27), (sb b21 (Ag x0) 23)] := hs32
 refine Vs 5 <| Al' 27 #[(sv (([] : Wn))), (vi 0), (vi 0), (vi 0), (.slice none ([] : List Int).length 0), (.slice none ([] : List Line).length 0)] hs35 (fun b36 w37 hs38 => ?_)
 refine St0 (AF r27.1 ar27_0_4 nr27_0_4 ar27_0_5 nr27_0_5) hs38 (fun w39 hs40 => ?_)
 refine Vs 3 <| Nss (Rg [0, 1] ?_)
 refine Vs 1 ?_
 obtain ⟨r41, hr42, h43⟩ := bind_some h29
 refine RWP.callS (dst := (some 22)) (ty := 0) (g := none) (by kernel_rfl) rfl (f0 := (.func 126)) (aos := #[(.tmp 21)]) (ats := #[60]) (fid := 126) (first := #[]) (cap := #[]) (args := [(.slice ar27_1_0 r27.2.1.length nr27_1_0)]) rfl Eb rfl (Ey N (Lf := [(sb b36 (AF r27.1 ar27_0_4 nr27_0_4 ar27_0_5 nr27_0_5) 27), er27_0_5, (sb b24 (AF x1 a1_4 n1_4 a1_5 n1_5) 27), (sb b21 (Ag x0) 23)]) r27.2.1 ar27_1_0 nr27_1_0 er27_1_0 hrr27_1_0 hs40.pk4.pk4.pk3.pk3.pk4  _ hr42) ?_
 rintro _ w45 ⟨F2, e44, rfl, hs46, le47, hr48⟩
 refine ⟨_, rfl, ?_⟩
 have hs49 : HS w0 F0 w45 F2 [e44, (sb b36 (AF r27.1 ar27_0_4 nr27_0_4 ar27_0_5 nr27_0_5) 27), er27_0_5, (sb b24 (AF x1 a1_4 n1_4 a1_5 n1_5) 27), (sb b21 (Ag x0) 23)] := hs46
 refine Nss (Rg (rG 4) ?_)
 refine V 23 60 (mv 9 (.slice ar27_1_0 r41.length nr27_1_0) (UQ rfl (Ea hr42))) <| Vs 3 <| Nt <| Rt ?_
 have hb53 := Wg hr48
 obtain ⟨F3, hs50, le51, hs52⟩ := hs49.fr0 hr48
 obtain rfl := Aa h43
 exact Re [(.slice ar27_1_0 r41.length nr27_1_0), (vi r27.2.2.1)] hs50 ⟨ar27_1_0, nr27_1_0, rfl, hb53, hs52⟩
def Ds (N : Nat)  : Option Ac :=
 some ({ Report := true, Serial := true, Zone := false } : Ac)
theorem Cc : Af Tryz.prog 71 := fun _ _ => by kernel_rfl
theorem CD (N : Nat) (w0 : World) (F0 : Mem) (hF : Wp w0 F0)  (r : Ac) (h : Ds N  = some r) :
  Calls Tryz.prog 71 ([] : List Value).toArray w0 (AA w0 F0 fun F' v => v = (.agg (Ag r))) := by
 have hs0 := V4 hF
 refine Go 2 Tryz.func71 <| Sq (Rg [0] ?_)
 refine Al' 23 #[(.bool false), (.bool false), (.bool false)] hs0 (fun b21 w22 hs23 => ?_)
 refine Nss (Rg [0, 1] ?_)
 refine Vs 1 <| St0 #[(.bool true), (.bool true), (.bool false)] hs23 (fun w24 hs25 => ?_)
 refine Nt <| Rt ?_
 obtain rfl := Aa h
 exact ⟨rfl, (.agg #[(.bool true), (.bool true), (.bool false)]), AW (l := [.cell 0 23]) (by kernel_rfl) (vs := [(.agg #[(.bool true), (.bool true), (.bool false)])]) ⟨b21, 0, rfl, An (t := 23) (g := true) (s := 3) (by kernel_rfl) hs25.at0 rfl (by decide), trivial⟩, (.agg #[(.bool true), (.bool true), (.bool false)]), F0, rfl, hs25.clear, rfl⟩
def En (N : Nat)  : Option Log :=
 some ({ Call := ([68, 76, 49, 88, 89] : Wn), Category := 1, Power := 100, Claimed := 20, Jumps := ([] : List Int), Lines := [({ Num := 7, Khz := 14025, Mode := 1, Minute := 75, Call := ([75, 49, 65, 66, 67] : Wn), Sent := ({ Report := 599, Serial := 12, Zone := 0 } : Ad), Got := ({ Report := 599, Serial := 3, Zone := 0 } : Ad) } : Line)] } : Log)
theorem DV : Af Tryz.prog 72 := fun _ _ => by kernel_rfl
theorem Ez (N : Nat) (w0 : World) (F0 : Mem) (hF : Wp w0 F0)  (r : Log) (h : En N  = some r) :
  Calls Tryz.prog 72 ([] : List Value).toArray w0 (AA w0 F0 fun F' v => ∃ (aq0_4 : Wo) (nq0_4 : Nat) (aq0_5 : Wo) (nq0_5 : Nat), v = (.agg (AF r aq0_4 nq0_4 aq0_5 nq0_5)) /\ LC r.Jumps.length nq0_4 /\ SlA AM F' aq0_4 r.Jumps /\ LC r.Lines.length nq0_5 /\ SlA AL F' aq0_5 r.Lines) := by
 have hs0 := V4 hF
 refine Go 8 Tryz.func72 <| Sq (Rg [0] ?_)
 refine Al' 27 #[(sv (([] : Wn))), (vi 0), (vi 0), (vi 0), (.slice none ([] : List Int).length 0), (.slice none ([] : List Line).length 0)] hs0 (fun b21 w22 hs23 => ?_)
 refine Nss (Rg (rG 5) ?_)
 refine Vs 3 <| Al' 34 #[(vi 0), (vi 0), (vi 0), (vi 0), (sv (([] : Wn))), (vi 0), (vi 0), (vi 0), (vi 0), (vi 0), (vi 0)] hs23 (fun b24 w25 hs26 => ?_)
 refine St0 #[(vi 7), (vi 14025), (vi 1), (vi 75), (sv (([75, 49, 65, 66, 67] : Wn))), (vi 599), (vi 12), (vi 0), (vi 599), (vi 3), (vi 0)] hs26 (fun w27 hs28 => ?_)
 refine Nss (Rg (rG 4) ?_)
 refine Ld hs28.at0 <| Bs 34 [(vi 7), (vi 14025), (vi 1), (vi 75), (sv (([75, 49, 65, 66, 67] : Wn))), (vi 599), (vi 12), (vi 0), (vi 599), (vi 3), (vi 0)] hs28 (fun b29 w30 hs31 => ?_)
 have hr33 : Ar AL 34 F0 (some ⟨b29, 0, none⟩) 1 [({ Num := 7, Khz := 14025, Mode := 1, Minute := 75, Call := ([75, 49, 65, 66, 67] : Wn), Sent := ({ Report := 599, Serial := 12, Zone := 0 } : Ad), Got := ({ Report := 599, Serial := 3, Zone := 0 } : Ad) } : Line)] (some b29, .cells ([(vi 7), (vi 14025), (vi 1), (vi 75), (sv (([75, 49, 65, 66, 67] : Wn))), (vi 599), (vi 12), (vi 0), (vi 599), (vi 3), (vi 0)] : List Value).toArray 34 (0, 0)) := Wi ⟨rfl, rfl⟩ (by simp)
 refine Vs 1 <| St2 #[(sv (([68, 76, 49, 88, 89] : Wn))), (vi 1), (vi 100), (vi 20), (.slice none ([] : List Int).length 0), (.slice (some ⟨b29, 0, none⟩) [({ Num := 7, Khz := 14025, Mode := 1, Minute := 75, Call := ([75, 49, 65, 66, 67] : Wn), Sent := ({ Report := 599, Serial := 12, Zone := 0 } : Ad), Got := ({ Report := 599, Serial := 3, Zone := 0 } : Ad) } : Line)].length 1)] hs31 (fun w34 hs35 => ?_)
 refine Nt <| Rt ?_
 have hb39 := Wg hr33
 obtain ⟨F1, hs36, le37, hs38⟩ := hs35.fr0 hr33
 obtain rfl := Aa h
 exact ⟨rfl, (.agg #[(sv (([68, 76, 49, 88, 89] : Wn))), (vi 1), (vi 100), (vi 20), (.slice none ([] : List Int).length 0), (.slice (some ⟨b29, 0, none⟩) [({ Num := 7, Khz := 14025, Mode := 1, Minute := 75, Call := ([75, 49, 65, 66, 67] : Wn), Sent := ({ Report := 599, Serial := 12, Zone := 0 } : Ad), Got := ({ Report := 599, Serial := 3, Zone := 0 } : Ad) } : Line)].length 1)]), AW (l := [.cell 0 27]) (by kernel_rfl) (vs := [(.agg #[(sv (([68, 76, 49, 88, 89] : Wn))), (vi 1), (vi 100), (vi 20), (.slice none ([] : List Int).length 0), (.slice (some ⟨b29, 0, none⟩) [({ Num := 7, Khz := 14025, Mode := 1, Minute := 75, Call := ([75, 49, 65, 66, 67] : Wn), Sent := ({ Report := 599, Serial := 12, Zone := 0 } : Ad), Got := ({ Report := 599, Serial := 3, Zone := 0 } : Ad) } : Line)].length 1)])]) ⟨b21, 0, rfl, An (t := 27) (g := true) (s := 6) (by kernel_rfl) hs36.at1 rfl (by decide), trivial⟩, (.agg #[(sv (([68, 76, 49, 88, 89] : Wn))), (vi 1), (vi 100), (vi 20), (.slice none ([] : List Int).length 0), (.slice (some ⟨b29, 0, none⟩) [({ Num := 7, Khz := 14025, Mode := 1, Minute := 75, Call := ([75, 49, 65, 66, 67] : Wn), Sent := ({ Report := 599, Serial := 12, Zone := 0 } : Ad), Got := ({ Report := 599, Serial := 3, Zone := 0 } : Ad) } : Line)].length 1)]), F1, rfl, hs36.clear, ⟨none, 0, (some ⟨b29, 0, none⟩), 1, rfl, V6, (.inl rfl), hb39, hs38⟩⟩
def Ku (N : Nat)  : Option Bool :=
 ((Ds N ).bind fun r21 => ((En N ).bind fun r29 => ((EM N ({ Report := r21.Report, Serial := r21.Serial, Zone := r21.Zone } : Ac) r29).bind fun r37 => ((Ds N ).bind fun r45 => ((JV N ({ Report := r45.Report, Serial := r45.Serial, Zone := r45.Zone } : Ac) ([67, 65, 76, 76, 32, 68, 76, 49, 88, 89, 10, 67, 65, 84, 69, 71, 79, 82, 89, 32, 49, 10, 80, 79, 87, 69, 82, 32, 49, 48, 48, 10, 67, 76, 65, 73, 77, 69, 68, 32, 50, 48, 10, 74, 85, 77, 80, 83, 10, 81, 83, 79, 32, 55, 32, 49, 52, 48, 50, 53, 32, 77, 32, 49, 32, 48, 49, 49, 53, 32, 75, 49, 65, 66, 67, 32, 62, 32, 53, 57, 57, 32, 48, 49, 50, 32, 60, 32, 53, 57, 57, 32, 48, 48, 51, 10, 69, 78, 68, 10] : Wn)).bind fun r53 => (((H8 ([67, 65, 76, 76, 32, 68, 76, 49, 88, 89, 10, 67, 65, 84, 69, 71, 79, 82, 89, 32, 49, 10, 80, 79, 87, 69, 82, 32, 49, 48, 48, 10, 67, 76, 65, 73, 77, 69, 68, 32, 50, 48, 10, 74, 85, 77, 80, 83, 10, 81, 83, 79, 32, 55, 32, 49, 52, 48, 50, 53, 32, 77, 32, 49, 32, 48, 49, 49, 53, 32, 75, 49, 65, 66, 67, 32, 62, 32, 53, 57, 57, 32, 48, 49, 50, 32, 60, 32, 53, 57, 57, 32, 48, 48, 51, 10, 69, 78, 68, 10] : Wn) 0 96).bind fun r81 => ((Ds N ).bind fun r84 => ((JV N ({ Report := r84.Report, Serial := r84.Serial, Zone := r84.Zone } : Ac) r81).bind fun r92 => some (r92.2.1, r92.2.2)))).bind fun j71 => ((Ds N ).bind fun r139 => ((Md N ({ Report := r139.Report, Serial := r139.Serial, Zone := r139.Zone } : Ac) ([67, 65, 76, 76, 32, 68, 76, 49, 88, 89, 10, 67, 65, 84, 69, 71, 79, 82, 89, 32, 49, 10, 67, 76, 65, 73, 77, 69, 68, 32, 50, 48, 10, 74, 85, 77, 80, 83, 10, 81, 83, 79, 32, 55, 32, 49, 52, 48, 50, 53, 32, 77, 32, 49, 32, 48, 49, 49, 53, 32, 75, 49, 65, 66, 67, 32, 62, 32, 53, 57, 57, 32, 48, 49, 50, 32, 60, 32, 53, 57, 57, 32, 48, 48, 51, 10, 101, 110, 100, 10] : Wn)).bind fun r147 => ((Ds N ).bind fun r155 => ((En N ).bind fun r163 => ((Mf N ({ Report := r155.Report, Serial := r155.Serial, Zone := r155.Zone } : Ac) r163 ([({ Kind := 1, Num := 7, Line := ({ Num := 0, Khz := 0, Mode := 0, Minute := 0, Call := ([] : Wn), Sent := ({ Report := 0, Serial := 0, Zone := 0 } : Ad), Got := ({ Report := 0, Serial := 0, Zone := 0 } : Ad) } : Line) } : Fix)])).bind fun r180 => (bif ((r37.2 != 0) || ((r53.2.1 != 0) || ((j71.1 != 20) || ((r147.2.2.2 != 0) || ((r180.2 != 0) || ((j71.2 != 7) || ((r180.1.length : Int) != 1))))))) then some false else ((bif (r37.1 == ([67, 65, 76, 76, 32, 68, 76, 49, 88, 89, 10, 67, 65, 84, 69, 71, 79, 82, 89, 32, 49, 10, 80, 79, 87, 69, 82, 32, 49, 48, 48, 10, 67, 76, 65, 73, 77, 69, 68, 32, 50, 48, 10, 74, 85, 77, 80, 83, 10, 81, 83, 79, 32, 55, 32, 49, 52, 48, 50, 53, 32, 77, 32, 49, 32, 48, 49, 49, 53, 32, 75, 49, 65, 66, 67, 32, 62, 32, 53, 57, 57, 32, 48, 49, 50, 32, 60, 32, 53, 57, 57, 32, 48, 48, 51, 10, 69, 78, 68, 10] : Wn)) then ((En N ).bind fun r220 => ((Nb N r53.1 r220).bind fun r228 => (bif r228 then (bif (r147.2.2.1 == 7) then (bif ((r147.2.1.length : Int) == 7) then ((idx r180.1 0).bind fun x245 => ((En N ).bind fun r259 => ((idx r259.Lines 0).bind fun x267 => some ((x245.Line.Num == x267.Num) && ((x245.Line.Khz == x267.Khz) && ((x245.Line.Mode == x267.Mode) && ((x245.Line.Minute == x267.Minute) && ((x245.Line.Call == x267.Call) && (((x245.Line.Sent.Report == x267.Sent.Report) && ((x245.Line.Sent.Serial == x267.Sent.Serial) && ((x245.Line.Sent.Zone == x267.Sent.Zone) && true))) && (((x245.Line.Got.Report == x267.Got.Report) && ((x245.Line.Got.Serial == x267.Got.Serial) && ((x245.Line.Got.Zone == x267.Got.Zone) && true))) && true)))))))))) else some false) else some false) else some false))) else some false).bind fun j212 => some j212)))))))))))))
theorem MD : Af Tryz.prog 19 := fun _ _ => by kernel_rfl
theorem NZ (N : Nat) (w0 : World) (F0 : Mem) (hF : Wp w0 F0) (hG : Br F0)  (r : Bool) (h : Ku N  = some r) :
  Calls Tryz.prog 19 ([] : List Value).toArray w0 (AA w0 F0 fun F' v => v = (.bool r)) := by
 have hs0 := V4 hF
 refine Go 103 Tryz.func19 <| Sq (Rg [0] ?_)
 refine Vs 1 <| Nss (Rg (rG 8) ?_)
 obtain ⟨r21, hr22, h23⟩ := bind_some h
 refine Cl' Cc hs0 (CD N w0 F0 hs0.pers  _ hr22) ?_
 rintro _ F1 w25 hs26 le27 rfl
 obtain ⟨r29, hr30, h31⟩ := bind_some h23
 refine Cl' DV hs26 (Ez N w25 F1 hs26.pers  _ hr30) ?_
 rintro _ F2 w33 hs34 le35 ⟨ar29_0_4, nr29_0_4, ar29_0_5, nr29_0_5, rfl, hbr29_0_4, hsr29_0_4, hbr29_0_5, hsr29_0_5⟩
 obtain ⟨r37, hr38, h39⟩ := bind_some h31
 refine Cl' JJ hs34 (KW N w33 F2 hs34.pers (hG.mono (le27.t le35)) (({ Report := r21.Report, Serial := r21.Serial, Zone := r21.Zone } : Ac)) r29 ar29_0_4 nr29_0_4 hbr29_0_4 hsr29_0_4 ar29_0_5 nr29_0_5 hbr29_0_5 hsr29_0_5 _ hr38) ?_
 rintro _ F3 w41 hs42 le43 rfl
 refine Vs 5 <| Nss (Rg (rG 10) ?_)
 obtain ⟨r45, hr46, h47⟩ := bind_some h39
 refine Cl' Cc hs42 (CD N w41 F3 hs42.pers  _ hr46) ?_
 rintro _ F4 w49 hs50 le51 rfl
 obtain ⟨r53, hr54, h55⟩ := bind_some h47
 refine Cl' EZ hs50 (FB N w49 F4 hs50.pers (hG.mono (((le27.t le35).trans le43).trans le51)) (({ Report := r45.Report, Serial := r45.Serial, Zone := r45.Zone } : Ac)) (([67, 65, 76, 76, 32, 68, 76, 49, 88, 89, 10, 67, 65, 84, 69, 71, 79, 82, 89, 32, 49, 10, 80, 79, 87, 69, 82, 32, 49, 48, 48, 10, 67, 76, 65, 73, 77, 69, 68, 32, 50, 48, 10, 74, 85, 77, 80, 83, 10, 81, 83, 79, 32, 55, 32, 49, 52, 48, 50, 53, 32, 77, 32, 49, 32, 48, 49, 49, 53, 32, 75, 49, 65, 66, 67, 32, 62, 32, 53, 57, 57, 32, 48, 49, 50, 32, 60, 32, 53, 57, 57, 32, 48, 48, 51, 10, 69, 78, 68, 10] : Wn)) _ hr54) ?_
 rintro _ F5 w57 hs58 le59 ⟨ar53_0_4, nr53_0_4, ar53_0_5, nr53_0_5, rfl, hbr53_0_4, hsr53_0_4, hbr53_0_5, hsr53_0_5⟩
 refine Vs 4 <| Al' 27 #[(sv (([] : Wn))), (vi 0), (vi 0), (vi 0), (.slice none ([] : List Int).length 0), (.slice none ([] : List Line).length 0)] hs58 (fun b61 w62 hs63 => ?_)
 refine St0 (AF r53.1 ar53_0_4 nr53_0_4 ar53_0_5 nr53_0_5) hs63 (fun w64 hs65 => ?_)
 refine Vs 2 <| Nss ?_
 obtain ⟨j71, hj79, h80⟩ := bind_some h55
 refine RD 11 11 [(sb b61 (AF r53.1 ar53_0_4 nr53_0_4 ar53_0_5 nr53_0_5) 27)] [] hs65 (fun f w => ∃ (F6 : Mem), HS w0 F0 w F6 [(sb b61 (AF r53.1 ar53_0_4 nr53_0_4 ar53_0_5 nr53_0_5) 27)] /\ V2 F5 F6 /\ FI f [] [(1, (sv r37.1)), (2, (vi r37.2)), (3, (pt b61 0)), (4, (vi r53.2.1)), (7, (vi j71.1)), (8, (vi j71.2))]) (fun wd66 hw67 => ?_) ?_
 ·obtain ⟨r81, hr82, h83⟩ := bind_some hj79
  refine Dt 1 29 9 (sv r81) (fun _ hq => Ef (t := 9) (x := (.const (sv ([67, 65, 76, 76, 32, 68, 76, 49, 88, 89, 10, 67, 65, 84, 69, 71, 79, 82, 89, 32, 49, 10, 80, 79, 87, 69, 82, 32, 49, 48, 48, 10, 67, 76, 65, 73, 77, 69, 68, 32, 50, 48, 10, 74, 85, 77, 80, 83, 10, 81, 83, 79, 32, 55, 32, 49, 52, 48, 50, 53, 32, 77, 32, 49, 32, 48, 49, 49, 53, 32, 75, 49, 65, 66, 67, 32, 62, 32, 53, 57, 57, 32, 48, 49, 50, 32, 60, 32, 53, 57, 57, 32, 48, 48, 51, 10, 69, 78, 68, 10] : Wn)))) (lo := none) (hi := (some (.const (vi 96)))) (a := ([67, 65, 76, 76, 32, 68, 76, 49, 88, 89, 10, 67, 65, 84, 69, 71, 79, 82, 89, 32, 49, 10, 80, 79, 87, 69, 82, 32, 49, 48, 48, 10, 67, 76, 65, 73, 77, 69, 68, 32, 50, 48, 10, 74, 85, 77, 80, 83, 10, 81, 83, 79, 32, 55, 32, 49, 52, 48, 50, 53, 32, 77, 32, 49, 32, 48, 49, 49, 53, 32, 75, 49, 65, 66, 67, 32, 62, 32, 53, 57, 57, 32, 48, 49, 50, 32, 60, 32, 53, 57, 57, 32, 48, 48, 51, 10, 69, 78, 68, 10] : Wn)) (il := 0) (ih := 96) (v := r81) rfl (by kernel_rfl) rfl rfl hr82) <| Wb (i := 0) (j := 7) (by kernel_rfl) ?_ ?_
  ·obtain ⟨r84, hr85, h86⟩ := bind_some h83
   refine DCl Cc hw67 (CD N wd66 F5 hw67.pers  _ hr85) ?_
   rintro _ F7 w88 hs89 le90 rfl
   refine Wb (i := 2) (j := 7) (by kernel_rfl) ?_ ?_
   ·obtain ⟨r92, hr93, h94⟩ := bind_some h86
    refine DCl EZ hs89 (FB N w88 F7 hs89.pers (hG.mono (((((le27.t le35).trans le43).trans le51).trans le59).trans le90)) (({ Report := r84.Report, Serial := r84.Serial, Zone := r84.Zone } : Ac)) r81 _ hr93) ?_
    rintro _ F8 w96 hs97 le98 ⟨ar92_0_4, nr92_0_4, ar92_0_5, nr92_0_5, rfl, hbr92_0_4, hsr92_0_4, hbr92_0_5, hsr92_0_5⟩
    refine Dv [3, 4, 5, 6] <| D1 7 <| DAl 27 #[(sv (([] : Wn))), (vi 0), (vi 0), (vi 0), (.slice none ([] : List Int).length 0), (.slice none ([] : List Line).length 0)] hs97 (le90.t le98) (fun b100 w101 hs102 => ?_)
    refine D1 8 <| GW (AF r92.1 ar92_0_4 nr92_0_4 ar92_0_5 nr92_0_5) hs102 (le90.t le98) (fun w103 hs104 => ?_)
    refine Dv [9, 10] ?_
    obtain rfl := Aa h94
    exact Wf (by kernel_rfl) ⟨F8, hs104.dr0, (le90.t le98), fI⟩
   ·refine DAl 27 #[(sv (([] : Wn))), (vi 0), (vi 0), (vi 0), (.slice none ([] : List Int).length 0), (.slice none ([] : List Line).length 0)] hs89 le90 (fun b105 w106 hs107 => ?_)
    refine D1 2 ?_
    obtain ⟨r108, hr109, h110⟩ := bind_some h86
    refine DCl EZ hs107 (FB N w106 F7 hs107.pers (hG.mono (((((le27.t le35).trans le43).trans le51).trans le59).trans le90)) (({ Report := r84.Report, Serial := r84.Serial, Zone := r84.Zone } : Ac)) r81 _ hr109) ?_
    rintro _ F9 w112 hs113 le114 ⟨ar108_0_4, nr108_0_4, ar108_0_5, nr108_0_5, rfl, hbr108_0_4, hsr108_0_4, hbr108_0_5, hsr108_0_5⟩
    refine Dv [3, 4, 5, 6] <| D1 8 <| GW (AF r108.1 ar108_0_4 nr108_0_4 ar108_0_5 nr108_0_5) hs113 (le90.t le114) (fun w116 hs117 => ?_)
    refine Dv [9, 10] ?_
    obtain rfl := Aa h110
    exact Wf (by kernel_rfl) ⟨F9, hs117.dr0, (le90.t le114), fI⟩
  ·refine DAl 27 #[(sv (([] : Wn))), (vi 0), (vi 0), (vi 0), (.slice none ([] : List Int).length 0), (.slice none ([] : List Line).length 0)] hw67 (V3 _) (fun b118 w119 hs120 => ?_)
   refine D1 0 ?_
   obtain ⟨r121, hr122, h123⟩ := bind_some h83
   refine DCl Cc hs120 (CD N w119 F5 hs120.pers  _ hr122) ?_
   rintro _ F10 w125 hs126 le127 rfl
   refine D1 2 ?_
   obtain ⟨r129, hr130, h131⟩ := bind_some h123
   refine DCl EZ hs126 (FB N w125 F10 hs126.pers (hG.mono (((((le27.t le35).trans le43).trans le51).trans le59).trans le127)) (({ Report := r121.Report, Serial := r121.Serial, Zone := r121.Zone } : Ac)) r81 _ hr130) ?_
   rintro _ F11 w133 hs134 le135 ⟨ar129_0_4, nr129_0_4, ar129_0_5, nr129_0_5, rfl, hbr129_0_4, hsr129_0_4, hbr129_0_5, hsr129_0_5⟩
   refine Dv [3, 4, 5, 6] <| D1 8 <| GW (AF r129.1 ar129_0_4 nr129_0_4 ar129_0_5 nr129_0_5) hs134 (le127.t le135) (fun w137 hs138 => ?_)
   refine Dv [9, 10] ?_
   obtain rfl := Aa h131
   exact Wf (by kernel_rfl) ⟨F11, hs138.dr0, (le127.t le135), fI⟩
 ·rintro f w68 ⟨F6, hs69, le70, ⟨_, rfl⟩⟩
  refine Ab <| Sq (Rg (rG 11) ?_)
  obtain ⟨r139, hr140, h141⟩ := bind_some h80
  refine Cl' Cc hs69 (CD N w68 F6 hs69.pers  _ hr140) ?_
  rintro _ F12 w143 hs144 le145 rfl
  obtain ⟨r147, hr148, h149⟩ := bind_some h141
  refine Cl' NH hs144 (Ov N w143 F12 hs144.pers (hG.mono ((((((le27.t le35).trans le43).trans le51).trans le59).trans le70).trans le145)) (({ Report := r139.Report, Serial := r139.Serial, Zone := r139.Zone } : Ac)) (([67, 65, 76, 76, 32, 68, 76, 49, 88, 89, 10, 67, 65, 84, 69, 71, 79, 82, 89, 32, 49, 10, 67, 76, 65, 73, 77, 69, 68, 32, 50, 48, 10, 74, 85, 77, 80, 83, 10, 81, 83, 79, 32, 55, 32, 49, 52, 48, 50, 53, 32, 77, 32, 49, 32, 48, 49, 49, 53, 32, 75, 49, 65, 66, 67, 32, 62, 32, 53, 57, 57, 32, 48, 49, 50, 32, 60, 32, 53, 57, 57, 32, 48, 48, 51, 10, 101, 110, 100, 10] : Wn)) _ hr148) ?_
  rintro _ F13 w151 hs152 le153 ⟨ar147_1_0, nr147_1_0, rfl, hbr147_1_0, hsr147_1_0⟩
  refine Vs 9 <| Nss (Rg (rG 10) ?_)
  obtain ⟨r155, hr156, h157⟩ := bind_some h149
  refine Cl' Cc hs152 (CD N w151 F13 hs152.pers  _ hr156) ?_
  rintro _ F14 w159 hs160 le161 rfl
  obtain ⟨r163, hr164, h165⟩ := bind_some h157
  refine Cl' DV hs160 (Ez N w159 F14 hs160.pers  _ hr164) ?_
  rintro _ F15 w167 hs168 le169 ⟨ar163_0_4, nr163_0_4, ar163_0_5, nr163_0_5, rfl, hbr163_0_4, hsr163_0_4, hbr163_0_5, hsr163_0_5⟩
  refine Vs 1 <| Bs 64 [(vi 1), (vi 7), (vi 0), (vi 0), (vi 0), (vi 0), (sv (([] : Wn))), (vi 0), (vi 0), (vi 0), (vi 0), (vi 0), (vi 0)] hs168 (fun b171 w172 hs173 => ?_)
  have hr175 : Ar Kh 64 F15 (some ⟨b171, 0, none⟩) 1 [({ Kind := 1, Num := 7, Line := ({ Num := 0, Khz := 0, Mode := 0, Minute := 0, Call := ([] : Wn), Sent := ({ Report := 0, Serial := 0, Zone := 0 } : Ad), Got := ({ Report := 0, Serial := 0, Zone := 0 } : Ad) } : Line) } : Fix)] (some b171, .cells ([(vi 1), (vi 7), (vi 0), (vi 0), (vi 0), (vi 0), (sv (([] : Wn))), (vi 0), (vi 0), (vi 0), (vi 0), (vi 0), (vi 0)] : List Value).toArray 64 (0, 0)) := Wi ⟨rfl, rfl⟩ (by simp)
  have hb179 := Wg hr175
  obtain ⟨F16, hs176, le177, hs178⟩ := hs173.fr0 hr175
  obtain ⟨r180, hr181, h182⟩ := bind_some h165
  refine Cl' NJ hs176 (Ox N w172 F16 hs176.pers (hG.mono ((((((((((le27.t le35).trans le43).trans le51).trans le59).trans le70).trans le145).trans le153).trans le161).trans le169).trans le177)) (({ Report := r155.Report, Serial := r155.Serial, Zone := r155.Zone } : Ac)) r163 ar163_0_4 nr163_0_4 hbr163_0_4 (V5 hsr163_0_4 le177) ar163_0_5 nr163_0_5 hbr163_0_5 (V5 hsr163_0_5 le177) ([({ Kind := 1, Num := 7, Line := ({ Num := 0, Khz := 0, Mode := 0, Minute := 0, Call := ([] : Wn), Sent := ({ Report := 0, Serial := 0, Zone := 0 } : Ad), Got := ({ Report := 0, Serial := 0, Zone := 0 } : Ad) } : Line) } : Fix)]) (some ⟨b171, 0, none⟩) 1 hb179 hs178 _ hr181) ?_
  rintro _ F17 w184 hs185 le186 ⟨ar180_0_0, nr180_0_0, rfl, hbr180_0_0, hsr180_0_0⟩
  refine Vs 5 <| Nss <| Sq (Rg (rG 27) ?_)
  refine V8 (fun f w => ∃ (F18 : Mem), HS w0 F0 w F18 [(sb b61 (AF r53.1 ar53_0_4 nr53_0_4 ar53_0_5 nr53_0_5) 27)] /\ V2 F17 F18 /\ FI f [] [(1, (sv r37.1)), (3, (pt b61 0)), (10, (.slice ar147_1_0 r147.2.1.length nr147_1_0)), (11, (vi r147.2.2.1)), (13, (.slice ar180_0_0 r180.1.length nr180_0_0)), (75, (.bool ((r37.2 != 0) || ((r53.2.1 != 0) || ((j71.1 != 20) || ((r147.2.2.2 != 0) || ((r180.2 != 0) || ((j71.2 != 7) || ((r180.1.length : Int) != 1)))))))))]) ?_ ?_
  ·refine Vs 3 ?_
   refine V7 (r37.2 != 0) (fun hb198 => ?_) (fun hb198 => ?_)
   ·refine Ss hb198 2 ?_
    refine Pk1 hb198 <| Vs 1 <| Ss (rfl : true = true) 2 <| Pk1 (rfl : true = true) <| Vs 1 <| Ss (rfl : true = true) 2 <| Pk1 (rfl : true = true) <| Vs 1 <| Ss (rfl : true = true) 2 <| Pk1 (rfl : true = true) <| Vs 1 <| Ss (rfl : true = true) 2 <| Pk1 (rfl : true = true) <| Vs 1 <| Ss (rfl : true = true) 3 <| Pk1 (rfl : true = true) ?_
    exact VY ⟨rfl, F17, hs185, (V3 _), (fJ ⟨rfl, rfl, rfl, rfl, rfl, (congrArg Value.bool (Fw hb198 rfl)), trivial⟩)⟩
   ·refine Vgs hb198 2 ?_
    refine Pk0 hb198 <| Vs 1 <| V7 (r53.2.1 != 0) (fun hb199 => ?_) (fun hb199 => ?_)
    ·refine Ss hb199 2 ?_
     refine Pk1 hb199 <| Vs 1 <| Ss (rfl : true = true) 2 <| Pk1 (rfl : true = true) <| Vs 1 <| Ss (rfl : true = true) 2 <| Pk1 (rfl : true = true) <| Vs 1 <| Ss (rfl : true = true) 2 <| Pk1 (rfl : true = true) <| Vs 1 <| Ss (rfl : true = true) 3 <| Pk1 (rfl : true = true) ?_
     exact VY ⟨rfl, F17, hs185, (V3 _), (fJ ⟨rfl, rfl, rfl, rfl, rfl, (congrArg Value.bool (Cr hb198 (Fw hb199 rfl))), trivial⟩)⟩
    ·refine Vgs hb199 2 ?_
     refine Pk0 hb199 <| Vs 1 <| V7 (j71.1 != 20) (fun hb200 => ?_) (fun hb200 => ?_)
     ·refine Ss hb200 2 ?_
      refine Pk1 hb200 <| Vs 1 <| Ss (rfl : true = true) 2 <| Pk1 (rfl : true = true) <| Vs 1 <| Ss (rfl : true = true) 2 <| Pk1 (rfl : true = true) <| Vs 1 <| Ss (rfl : true = true) 3 <| Pk1 (rfl : true = true) ?_
      exact VY ⟨rfl, F17, hs185, (V3 _), (fJ ⟨rfl, rfl, rfl, rfl, rfl, (congrArg Value.bool (Cr hb198 (Cr hb199 (Fw hb200 rfl)))), trivial⟩)⟩
     ·refine Vgs hb200 2 ?_
      refine Pk0 hb200 <| Vs 1 <| V7 (r147.2.2.2 != 0) (fun hb201 => ?_) (fun hb201 => ?_)
      ·refine Ss hb201 2 ?_
       refine Pk1 hb201 <| Vs 1 <| Ss (rfl : true = true) 2 <| Pk1 (rfl : true = true) <| Vs 1 <| Ss (rfl : true = true) 3 <| Pk1 (rfl : true = true) ?_
       exact VY ⟨rfl, F17, hs185, (V3 _), (fJ ⟨rfl, rfl, rfl, rfl, rfl, (congrArg Value.bool (Cr hb198 (Cr hb199 (Cr hb200 (Fw hb201 rfl))))), trivial⟩)⟩
      ·refine Vgs hb201 2 ?_
       refine Pk0 hb201 <| Vs 1 <| V7 (r180.2 != 0) (fun hb202 => ?_) (fun hb202 => ?_)
       ·refine Ss hb202 2 ?_
        refine Pk1 hb202 <| Vs 1 <| Ss (rfl : true = true) 3 <| Pk1 (rfl : true = true) ?_
        exact VY ⟨rfl, F17, hs185, (V3 _), (fJ ⟨rfl, rfl, rfl, rfl, rfl, (congrArg Value.bool (Cr hb198 (Cr hb199 (Cr hb200 (Cr hb201 (Fw hb202 rfl)))))), trivial⟩)⟩
       ·refine Vgs hb202 2 ?_
        refine Pk0 hb202 <| Vs 1 <| V7 (j71.2 != 7) (fun hb203 => ?_) (fun hb203 => ?_)
        ·refine Ss hb203 3 ?_
         refine Pk1 hb203 ?_
         exact VY ⟨rfl, F17, hs185, (V3 _), (fJ ⟨rfl, rfl, rfl, rfl, rfl, (congrArg Value.bool (Cr hb198 (Cr hb199 (Cr hb200 (Cr hb201 (Cr hb202 (Fw hb203 rfl))))))), trivial⟩)⟩
        ·refine Vgs hb203 3 ?_
         refine Pk0 hb203 ?_
         exact VY ⟨rfl, F17, hs185, (V3 _), (fJ ⟨rfl, rfl, rfl, rfl, rfl, (congrArg Value.bool (Cr hb198 (Cr hb199 (Cr hb200 (Cr hb201 (Cr hb202 (Cr hb203 rfl))))))), trivial⟩)⟩
  ·rintro f w188 ⟨F18, hs189, le190, ⟨_, rfl⟩⟩
   refine Ab <| Cd h182 (fun hb204 h205 => ?_) (fun hb204 h206 => ?_)
   ·refine Sq (Rg [0] ?_)
    refine Vs 1 <| Nt <| Rt <| Ae ?_
    obtain rfl := Aa h205
    exact Re [(.bool false)] hs189 rfl
   ·refine Sc ?_
    refine Ab <| Sq ?_
    obtain ⟨j212, hj215, h216⟩ := bind_some h206
    refine RD 28 28 [(sb b61 (AF r53.1 ar53_0_4 nr53_0_4 ar53_0_5 nr53_0_5) 27)] [] hs189 (fun f w => ∃ (F19 : Mem), HS w0 F0 w F19 [] /\ V2 F18 F19 /\ FI f [] [(0, (.bool j212))]) (fun wd207 hw208 => ?_) ?_
    ·refine Dvl [0, 1, 2] (tf 3 25) ?_
     refine Sd hj215 (fun hb217 h218 => ?_) (fun hb217 h219 => ?_)
     ·refine Dgl 3 79 27 _ (tf 4 24) 2 true 78 hb217 (fun _ hq => ld 27 3 b61 0 true 6 (.agg (AF r53.1 ar53_0_4 nr53_0_4 ar53_0_5 nr53_0_5)) (hq.1.2 0 _ _ rfl)) ?_
      refine D1 4 ?_
      obtain ⟨r220, hr221, h222⟩ := bind_some h218
      refine We (l' := [true, true, true, true, true, false, false, false, false, false, false, false, false, false, false, false, false, false, false, false, false, false, false, false, false, false, false, false]) (zd := true) (by kernel_rfl) (by kernel_rfl) (by kernel_rfl) (dst := (some 80)) (ty := 27) (g := (some (2, true))) (by kernel_rfl) (Hy (d := 78) (by kernel_rfl) rfl hb217) (f0 := (.func 72)) (aos := #[]) (ats := #[]) (fid := 72) (first := #[]) (cap := #[]) (args := []) rfl DV rfl hw208 (Ez N wd207 F18 hw208.pers  _ hr221) ?_
      rintro _ F20 w224 hs225 le226 ⟨ar220_0_4, nr220_0_4, ar220_0_5, nr220_0_5, rfl, hbr220_0_4, hsr220_0_4, hbr220_0_5, hsr220_0_5⟩
      refine D1 5 ?_
      obtain ⟨r228, hr229, h230⟩ := bind_some h222
      refine We (l' := [true, true, true, true, true, true, false, false, false, false, false, false, false, false, false, false, false, false, false, false, false, false, false, false, false, false, false, false]) (zd := true) (by kernel_rfl) (by kernel_rfl) (by kernel_rfl) (dst := (some 81)) (ty := 4) (g := (some (2, true))) (by kernel_rfl) (Hy (d := 78) (by kernel_rfl) rfl hb217) (f0 := (.func 35)) (aos := #[(.tmp 79), (.tmp 80)]) (ats := #[27, 27]) (fid := 35) (first := #[]) (cap := #[]) (args := [(.agg (AF r53.1 ar53_0_4 nr53_0_4 ar53_0_5 nr53_0_5)), (.agg (AF r220 ar220_0_4 nr220_0_4 ar220_0_5 nr220_0_5))]) rfl Oi rfl hs225 (PI N w224 F20 hs225.pers r53.1 ar53_0_4 nr53_0_4 hbr53_0_4 (V5 hsr53_0_4 ((((((((le70.t le145).trans le153).trans le161).trans le169).trans le177).trans le186).trans le190).trans le226)) ar53_0_5 nr53_0_5 hbr53_0_5 (V5 hsr53_0_5 ((((((((le70.t le145).trans le153).trans le161).trans le169).trans le177).trans le186).trans le190).trans le226)) r220 ar220_0_4 nr220_0_4 hbr220_0_4 hsr220_0_4 ar220_0_5 nr220_0_5 hbr220_0_5 hsr220_0_5 _ hr229) ?_
      rintro _ F21 w232 hs233 le234 rfl
      refine Dtl 6 82 4 _ (tf 7 21) (fun _ hq => p1 78 (.tmp 81) (.const (.bool false)) (.bool r228) hb217) <| Dvl [7] (tf 8 20) <| Sd h230 (fun hb236 h237 => ?_) (fun hb236 h238 => ?_)
      ·refine Dgl 8 84 3 _ (tf 9 19) 7 true 83 hb236 (fun _ hq => mv 11 (vi r147.2.2.1)) ?_
       refine Dgl 9 85 4 (.bool (r147.2.2.1 == 7)) (tf 10 18) 7 true 83 hb236 (fun _ hq => Hq (t := 3) (t' := 3) (x := (.tmp 84)) (y := (.const (vi 7))) (k := .i64) (a := r147.2.2.1) (b := 7) rfl rfl) <| Dtl 10 86 4 _ (tf 11 17) (fun _ hq => p1 83 (.tmp 85) (.const (.bool false)) (.bool (r147.2.2.1 == 7)) hb236) <| Dvl [11] (tf 12 16) <| Sd h237 (fun hb239 h240 => ?_) (fun hb239 h241 => ?_)
       ·refine Dgl 12 88 48 _ (tf 13 15) 11 true 87 hb239 (fun _ hq => mv 10 (.slice ar147_1_0 r147.2.1.length nr147_1_0)) ?_
        refine Dgl 13 89 3 (vi (r147.2.1.length : Int)) (tf 14 14) 11 true 87 hb239 (fun _ hq => ln 88 48 ar147_1_0 r147.2.1.length nr147_1_0 150 3 32) <| Dgl 14 90 4 (.bool ((r147.2.1.length : Int) == 7)) (tf 15 13) 11 true 87 hb239 (fun _ hq => Hq (t := 3) (t' := 3) (x := (.tmp 89)) (y := (.const (vi 7))) (k := .i64) (a := (r147.2.1.length : Int)) (b := 7) rfl rfl) <| Dtl 15 91 4 _ (tf 16 12) (fun _ hq => p1 87 (.tmp 90) (.const (.bool false)) (.bool ((r147.2.1.length : Int) == 7)) hb239) <| Dvl [16] (tf 17 11) <| Sd h240 (fun hb242 h243 => ?_) (fun hb242 h244 => ?_)
        ·refine Dgl 17 93 60 _ (tf 18 10) 16 true 92 hb242 (fun _ hq => mv 13 (.slice ar180_0_0 r180.1.length nr180_0_0)) ?_
         obtain ⟨x245, hx246, h248⟩ := bind_some h243
         obtain ⟨hi247, hx246'⟩ := Aj hx246
         obtain ⟨b249, o250, C251, E252, fz253, rfl, hF255, hE256⟩ := Wa (V5 hsr180_0_0 le190) hx246'
         have hc258 := hE256 _ _ hx246'
         refine Dgl 18 94 0 (.pointer (some ⟨b249, (o250 + (0 : Int).toNat * 13), none⟩)) (tf 19 9) 16 true 92 hb242 (fun _ hq => BE (t := 60) (x := (.tmp 93)) (y := (.const (vi 0))) (b := b249) (o := o250) (E := 64) (s := 13) (by_ := 112) rfl rfl (by kernel_rfl) hi247) <| Dgl 19 95 0 (.pointer (some ⟨b249, ((o250 + (0 : Int).toNat * 13) + 2), none⟩)) (tf 20 8) 16 true 92 hb242 (fun _ hq => fa 64 94 2 2 11 b249 (o250 + (0 : Int).toNat * 13) ((o250 + (0 : Int).toNat * 13) + 2)) <| Dgl 20 96 34 _ (tf 21 7) 16 true 92 hb242 (fun _ hq => lx 34 95 2 13 true 11 (.agg (BL x245.Line)) (hq.1.1 _ _ hF255) hc258) <| D1 21 ?_
         obtain ⟨r259, hr260, h261⟩ := bind_some h248
         refine We (l' := [true, true, true, true, true, true, true, true, true, true, true, true, true, true, true, true, true, true, true, true, true, true, false, false, false, false, false, false]) (zd := true) (by kernel_rfl) (by kernel_rfl) (by kernel_rfl) (dst := (some 97)) (ty := 27) (g := (some (16, true))) (by kernel_rfl) (Hy (d := 92) (by kernel_rfl) rfl hb242) (f0 := (.func 72)) (aos := #[]) (ats := #[]) (fid := 72) (first := #[]) (cap := #[]) (args := []) rfl DV rfl hs233 (Ez N w232 F21 hs233.pers  _ hr260) ?_
         rintro _ F22 w263 hs264 le265 ⟨ar259_0_4, nr259_0_4, ar259_0_5, nr259_0_5, rfl, hbr259_0_4, hsr259_0_4, hbr259_0_5, hsr259_0_5⟩
         refine Dgl 22 98 25 _ (tf 23 5) 16 true 92 hb242 (fun _ hq => M6 (s := 27) (x := (.tmp 97)) (i := 5) (o := 5) (k := 1) (t := 25) (gg := false) (cs := (AF r259 ar259_0_4 nr259_0_4 ar259_0_5 nr259_0_5)) (v := (.slice ar259_0_5 r259.Lines.length nr259_0_5)) rfl (by kernel_rfl) (by kernel_rfl) rfl rfl rfl) ?_
         obtain ⟨x267, hx268, h270⟩ := bind_some h261
         obtain ⟨hi269, hx268'⟩ := Aj hx268
         obtain ⟨b271, o272, C273, E274, fz275, rfl, hF277, hE278⟩ := Wa hsr259_0_5 hx268'
         have hc280 := hE278 _ _ hx268'
         refine Dgl 23 99 0 (.pointer (some ⟨b271, (o272 + (0 : Int).toNat * 11), none⟩)) (tf 24 4) 16 true 92 hb242 (fun _ hq => BE (t := 25) (x := (.tmp 98)) (y := (.const (vi 0))) (b := b271) (o := o272) (E := 34) (s := 11) (by_ := 96) rfl rfl (by kernel_rfl) hi269) <| D1 24 <| Wc (l' := [true, true, true, true, true, true, true, true, true, true, true, true, true, true, true, true, true, true, true, true, true, true, true, true, true, false, false, false]) (zd := true) (by kernel_rfl) (by kernel_rfl) (dst := (some 100)) (ty := 34) (g := (some (16, true))) (by kernel_rfl) (Hy (d := 92) (by kernel_rfl) rfl hb242) (K7 (t := 34) (x := (.tmp 99)) (b := b271) (o := (o272 + (0 : Int).toNat * 11)) (j := 0) (C := C273) (kk := 11) (cs := [(vi x267.Num), (vi x267.Khz), (vi x267.Mode), (vi x267.Minute), (sv x267.Call), (vi x267.Sent.Report), (vi x267.Sent.Serial), (vi x267.Sent.Zone), (vi x267.Got.Report), (vi x267.Got.Serial), (vi x267.Got.Zone)]) (gg := true) (s := 11) (v := (.agg (BL x267))) rfl (by kernel_rfl) (hs264.pers _ _ hF277) hc280 (by decide) (by exact ⟨rfl, trivial⟩) rfl rfl) (Bd hs264 ((le226.t le234).trans le265) (by simp) (fun e => by cases e)) <| Dgl 25 101 4 (.bool ((x245.Line.Num == x267.Num) && ((x245.Line.Khz == x267.Khz) && ((x245.Line.Mode == x267.Mode) && ((x245.Line.Minute == x267.Minute) && ((x245.Line.Call == x267.Call) && (((x245.Line.Sent.Report == x267.Sent.Report) && ((x245.Line.Sent.Serial == x267.Sent.Serial) && ((x245.Line.Sent.Zone == x267.Sent.Zone) && true))) && (((x245.Line.Got.Report == x267.Got.Report) && ((x245.Line.Got.Serial == x267.Got.Serial) && ((x245.Line.Got.Zone == x267.Got.Zone) && true))) && true)))))))) (tf 26 2) 16 true 92 hb242 (fun _ hq => Ra (t := 34) (t' := 34) (x := (.tmp 96)) (y := (.tmp 100)) (xs := (BL x245.Line)) (ys := (BL x267)) (b := ((x245.Line.Num == x267.Num) && ((x245.Line.Khz == x267.Khz) && ((x245.Line.Mode == x267.Mode) && ((x245.Line.Minute == x267.Minute) && ((x245.Line.Call == x267.Call) && (((x245.Line.Sent.Report == x267.Sent.Report) && ((x245.Line.Sent.Serial == x267.Sent.Serial) && ((x245.Line.Sent.Zone == x267.Sent.Zone) && true))) && (((x245.Line.Got.Report == x267.Got.Report) && ((x245.Line.Got.Serial == x267.Got.Serial) && ((x245.Line.Got.Zone == x267.Got.Zone) && true))) && true)))))))) rfl rfl (by kernel_rfl) (by kernel_rfl)) <| Dtl 26 102 4 _ (tf 27 1) (fun _ hq => p1 92 (.tmp 101) (.const (.bool false)) (.bool ((x245.Line.Num == x267.Num) && ((x245.Line.Khz == x267.Khz) && ((x245.Line.Mode == x267.Mode) && ((x245.Line.Minute == x267.Minute) && ((x245.Line.Call == x267.Call) && (((x245.Line.Sent.Report == x267.Sent.Report) && ((x245.Line.Sent.Serial == x267.Sent.Serial) && ((x245.Line.Sent.Zone == x267.Sent.Zone) && true))) && (((x245.Line.Got.Report == x267.Got.Report) && ((x245.Line.Got.Serial == x267.Got.Serial) && ((x245.Line.Got.Zone == x267.Got.Zone) && true))) && true)))))))) hb242) <| Dvl [27] (tf 28 0) ?_
         obtain rfl := Aa h270
         exact Wf (by kernel_rfl) ⟨F22, hs264.dr0, ((le226.t le234).trans le265), fI⟩
        ·refine Dkl [(17, 93), (18, 94), (19, 95), (20, 96), (21, 97), (22, 98)] 16 true 92 hb242 (tf 23 5) ?_
         refine Dkl [(23, 99), (24, 100), (25, 101)] 16 true 92 hb242 (tf 26 2) <| Dtl 26 102 4 _ (tf 27 1) (fun _ hq => p0 92 (.tmp 101) (.const (.bool false)) (.bool false) hb242) <| Dvl [27] (tf 28 0) ?_
         obtain rfl := Aa h244
         exact Wf (by kernel_rfl) ⟨F21, hs233.dr0, (le226.t le234), fI⟩
       ·refine Dkl [(12, 88), (13, 89), (14, 90)] 11 true 87 hb239 (tf 15 13) ?_
        refine Dtl 15 91 4 _ (tf 16 12) (fun _ hq => p0 87 (.tmp 90) (.const (.bool false)) (.bool false) hb239) <| Dvl [16] (tf 17 11) <| Dkl [(17, 93), (18, 94), (19, 95), (20, 96), (21, 97), (22, 98)] 16 true 92 rfl (tf 23 5) <| Dkl [(23, 99), (24, 100), (25, 101)] 16 true 92 rfl (tf 26 2) <| Dtl 26 102 4 _ (tf 27 1) (fun _ hq => p0 92 (.tmp 101) (.const (.bool false)) (.bool false) rfl) <| Dvl [27] (tf 28 0) ?_
        obtain rfl := Aa h241
        exact Wf (by kernel_rfl) ⟨F21, hs233.dr0, (le226.t le234), fI⟩
      ·refine Dkl [(8, 84), (9, 85)] 7 true 83 hb236 (tf 10 18) ?_
       refine Dtl 10 86 4 _ (tf 11 17) (fun _ hq => p0 83 (.tmp 85) (.const (.bool false)) (.bool false) hb236) <| Dvl [11] (tf 12 16) <| Dkl [(12, 88), (13, 89), (14, 90)] 11 true 87 rfl (tf 15 13) <| Dtl 15 91 4 _ (tf 16 12) (fun _ hq => p0 87 (.tmp 90) (.const (.bool false)) (.bool false) rfl) <| Dvl [16] (tf 17 11) <| Dkl [(17, 93), (18, 94), (19, 95), (20, 96), (21, 97), (22, 98)] 16 true 92 rfl (tf 23 5) <| Dkl [(23, 99), (24, 100), (25, 101)] 16 true 92 rfl (tf 26 2) <| Dtl 26 102 4 _ (tf 27 1) (fun _ hq => p0 92 (.tmp 101) (.const (.bool false)) (.bool false) rfl) <| Dvl [27] (tf 28 0) ?_
       obtain rfl := Aa h238
       exact Wf (by kernel_rfl) ⟨F21, hs233.dr0, (le226.t le234), fI⟩
     ·refine Dkl [(3, 79), (4, 80), (5, 81)] 2 true 78 hb217 (tf 6 22) ?_
      refine Dtl 6 82 4 _ (tf 7 21) (fun _ hq => p0 78 (.tmp 81) (.const (.bool false)) (.bool false) hb217) <| Dvl [7] (tf 8 20) <| Dkl [(8, 84), (9, 85)] 7 true 83 rfl (tf 10 18) <| Dtl 10 86 4 _ (tf 11 17) (fun _ hq => p0 83 (.tmp 85) (.const (.bool false)) (.bool false) rfl) <| Dvl [11] (tf 12 16) <| Dkl [(12, 88), (13, 89), (14, 90)] 11 true 87 rfl (tf 15 13) <| Dtl 15 91 4 _ (tf 16 12) (fun _ hq => p0 87 (.tmp 90) (.const (.bool false)) (.bool false) rfl) <| Dvl [16] (tf 17 11) <| Dkl [(17, 93), (18, 94), (19, 95), (20, 96), (21, 97), (22, 98)] 16 true 92 rfl (tf 23 5) <| Dkl [(23, 99), (24, 100), (25, 101)] 16 true 92 rfl (tf 26 2) <| Dtl 26 102 4 _ (tf 27 1) (fun _ hq => p0 92 (.tmp 101) (.const (.bool false)) (.bool false) rfl) <| Dvl [27] (tf 28 0) ?_
      obtain rfl := Aa h219
      exact Wf (by kernel_rfl) ⟨F18, hw208.dr0, (V3 _), fI⟩
    ·rintro f w209 ⟨F19, hs210, le211, ⟨_, rfl⟩⟩
     refine Ab <| Rt ?_
     obtain rfl := Aa h216
     exact Re [(.bool j212)] hs210 rfl
set_option maxRecDepth 100000 in
theorem Sk : Ku 9223372036854775808 = some true := by kernel_rfl
def IA (_N : Nat) : Option Bool := some true
theorem NK : Af Tryz.prog 19 := MD
theorem Oy (N : Nat) (w0 : World) (F0 : Mem) (hF : Wp w0 F0) (hG : Br F0) (r : Bool) (h : IA N = some r) :
  Calls Tryz.prog 19 ([] : List Value).toArray w0 (AA w0 F0 fun F' v => v = (.bool r)) := by
 cases h
 exact NZ 9223372036854775808 w0 F0 hF hG true Sk

section
variable {N : Nat}
theorem Rr (l : List Line) (hl : l.length < 4000000000) (hN : 4294967300 < N) : Fa N l = some (l.all fun x => decide (x.Call.length <= 40)) := by
 unfold Fa
 rw [Jc (l := l) (fun x => decide (x.Call.length <= 40)) false (fun i hi => by
  unfold Eo
  rw [DC hi, cond_true, CM hi, Option.bind_some, FJ i (by omega), show decide ((l[i].Call.length : Int) > 40) = !decide (l[i].Call.length <= 40) by rw [<- decide_not, decide_eq_decide]; omega]
  cases decide (l[i].Call.length <= 40) <;> rfl) (by
  unfold Eo
  rw [Cs, cond_false]) (by omega)]
 cases l.all fun x => decide (x.Call.length <= 40) <;> rfl
structure Few (l : Log) : Prop where
 n : l.Lines.length <= 800
 j : l.Jumps.length <= 40
 c : l.Call.length <= 40
 x : ∀ x, x ∈ l.Lines -> x.Call.length <= 40
 s : l.Lines.length <= 60 \/ 400 < l.Lines.length
theorem Few.fit {l : Log} (h : Few l) : Sn l := ⟨by have := h.j; omega, by have := h.n; omega, fun x hx => by have := h.x x hx; unfold Sg; omega⟩
theorem U2 (l : Log) (hN : 4294967300 < N) : ∃ b, Ja N l = some b /\ (b = true -> Few l) := by
 unfold Ja
 by_cases h1 : l.Lines.length <= 60
 ·rw [decide_eq_true (show (l.Lines.length : Int) <= 60 by omega), cond_true]
  by_cases h2 : l.Jumps.length <= 40
  ·rw [decide_eq_true (show (l.Jumps.length : Int) <= 40 by omega), cond_true]
   by_cases h3 : l.Call.length <= 40
   ·rw [decide_eq_true (show (l.Call.length : Int) <= 40 by omega), cond_true, Rr _ (by omega) hN]
    refine ⟨_, rfl, fun h => ⟨by omega, h2, h3, fun x hx => ?_, .inl h1⟩⟩
    rw [List.all_eq_true] at h
    simpa using h x hx
   ·rw [decide_eq_false (show ¬ (l.Call.length : Int) <= 40 by omega)]
    exact ⟨_, rfl, fun h => by cases h⟩
  ·rw [decide_eq_false (show ¬ (l.Jumps.length : Int) <= 40 by omega)]
   exact ⟨_, rfl, fun h => by cases h⟩
 ·rw [decide_eq_false (show ¬ (l.Lines.length : Int) <= 60 by omega), cond_false]
  by_cases h4 : l.Lines.length > 400
  ·rw [decide_eq_true (show (l.Lines.length : Int) > 400 by omega), cond_true]
   by_cases h5 : l.Lines.length <= 800
   ·rw [decide_eq_true (show (l.Lines.length : Int) <= 800 by omega), cond_true]
    by_cases h2 : l.Jumps.length <= 40
    ·rw [decide_eq_true (show (l.Jumps.length : Int) <= 40 by omega), cond_true]
     by_cases h3 : l.Call.length <= 40
     ·rw [decide_eq_true (show (l.Call.length : Int) <= 40 by omega), cond_true, Rr _ (by omega) hN]
      refine ⟨_, rfl, fun h => ⟨by omega, h2, h3, fun x hx => ?_, .inr (by omega)⟩⟩
      rw [List.all_eq_true] at h
      simpa using h x hx
     ·rw [decide_eq_false (show ¬ (l.Call.length : Int) <= 40 by omega)]
      exact ⟨_, rfl, fun h => by cases h⟩
    ·rw [decide_eq_false (show ¬ (l.Jumps.length : Int) <= 40 by omega)]
     exact ⟨_, rfl, fun h => by cases h⟩
   ·rw [decide_eq_false (show ¬ (l.Lines.length : Int) <= 800 by omega)]
    exact ⟨_, rfl, fun h => by cases h⟩
  ·rw [decide_eq_false (show ¬ (l.Lines.length : Int) > 400 by omega)]
   exact ⟨_, rfl, fun h => by cases h⟩
theorem R7 {ρ : Type} {body : Int -> Option (A4 ρ Int)} (k : Nat) (hb : ∀ i, i < k -> body (i : Int) = some (.next ((i + 1 : Nat) : Int))) (he : body (k : Int) = some (.done (k : Int))) (hN : k < N) : AJ body N 0 = some (.done (k : Int)) :=
 Hx (fun i => (i : Int)) k hb he (fun _ h => by cases h) hN
theorem RH (i n : Nat) : (decide ((i : Int) < (n : Int)) && decide ((i : Int) < 60)) = decide (i < min n 60) := by
 rw [<- Bool.decide_and, decide_eq_decide]; omega
end
def Hs (N : Nat) (x0 : Int) : Option Wn :=
 ((H8 ([77, 86, 68] : Wn) (W64 (x0 - 1)) x0).bind fun r21 => some r21)
theorem MA : Af Tryz.prog 88 := fun _ _ => by kernel_rfl
theorem NT (N : Nat) (w0 : World) (F0 : Mem) (hF : Wp w0 F0) (x0 : Int) (r : Wn) (h : Hs N x0 = some r) :
  Calls Tryz.prog 88 ([(vi x0)] : List Value).toArray w0 (AA w0 F0 fun F' v => v = (sv r)) := by
 have hs0 := V4 hF
 refine Go 7 Tryz.func88 <| Sq (Rg [0] ?_)
 refine Vs 1 <| Nss (Rg (rG 5) ?_)
 refine Vs 3 ?_
 obtain ⟨r21, hr22, h23⟩ := bind_some h
 refine V 6 9 (Ef (t := 9) (x := (.const (sv ([77, 86, 68] : Wn)))) (lo := (some (.tmp 4))) (hi := (some (.tmp 5))) (a := ([77, 86, 68] : Wn)) (il := (W64 (x0 - 1))) (ih := x0) (v := r21) rfl (by kernel_rfl) rfl rfl hr22) <| Vs 1 <| Nt <| Rt ?_
 obtain rfl := Aa h23
 exact Re [(sv r21)] hs0 rfl
def BW (N : Nat) (x0 : Ac) (x1 : Line) : Option (Wn × Int) :=
 ((B8 N ({ Report := x0.Report, Serial := x0.Serial, Zone := x0.Zone } : Ac) x1).bind fun r27 => (bif (!r27) then some (([] : Wn), 1) else ((CQ N x1.Minute).bind fun r38 => ((Bm N ({ Report := x0.Report, Serial := x0.Serial, Zone := x0.Zone } : Ac) ({ Report := x1.Sent.Report, Serial := x1.Sent.Serial, Zone := x1.Sent.Zone } : Ad)).bind fun r46 => ((Bm N ({ Report := x0.Report, Serial := x0.Serial, Zone := x0.Zone } : Ac) ({ Report := x1.Got.Report, Serial := x1.Got.Serial, Zone := x1.Got.Zone } : Ad)).bind fun r54 => (((strconv_Itoa N x1.Num).bind fun r73 => ((AZ ([81, 83, 79, 32] : Wn) r73).bind fun r81 => ((AZ r81 ([32] : Wn)).bind fun r84 => ((strconv_Itoa N x1.Khz).bind fun r87 => ((AZ r84 r87).bind fun r95 => ((AZ r95 ([32] : Wn)).bind fun r98 => ((Hs N x1.Mode).bind fun r101 => ((AZ r98 r101).bind fun r109 => ((AZ r109 ([32] : Wn)).bind fun r112 => ((AZ r112 r38.1).bind fun r115 => ((AZ r115 ([32] : Wn)).bind fun r118 => ((AZ r118 x1.Call).bind fun r121 => ((AZ r121 ([32, 62, 32] : Wn)).bind fun r124 => ((AZ r124 r46.1).bind fun r127 => ((AZ r127 ([32, 60, 32] : Wn)).bind fun r130 => ((AZ r130 r54.1).bind fun r133 => some r133)))))))))))))))).bind fun j67 => some (j67, 0)))))))
theorem FU : Af Tryz.prog 28 := fun _ _ => by kernel_rfl
theorem GH (N : Nat) (w0 : World) (F0 : Mem) (hF : Wp w0 F0) (hG : Br F0) (x0 : Ac) (x1 : Line) (r : (Wn × Int)) (h : BW N x0 x1 = some r) :
  Calls Tryz.prog 28 ([(.agg (Ag x0)), (.agg (BL x1))] : List Value).toArray w0 (AA w0 F0 fun F' v => v = (.tuple #[(sv r.1), (vi r.2)])) := by
 have hs0 := V4 hF
 refine Go 63 Tryz.func28 <| Sq (Rg (rG 4) ?_)
 refine Bx' 23 (Ag x0) hs0 (fun b21 w22 hs23 => ?_)
 refine Bx' 34 (BL x1) hs23 (fun b24 w25 hs26 => ?_)
 refine Vs 2 <| Nss <| Sq (Rg (rG 4) ?_)
 refine Ld hs26.at1 <| Ld hs26.at0 ?_
 obtain ⟨r27, hr28, h29⟩ := bind_some h
 refine Cl' FT hs26 (GG N w25 F0 hs26.pers (({ Report := x0.Report, Serial := x0.Serial, Zone := x0.Zone } : Ac)) x1 _ hr28) ?_
 rintro _ F1 w31 hs32 le33 rfl
 refine Vs 1 <| Nt <| Cd h29 (fun hb35 h36 => ?_) (fun hb35 h37 => ?_)
 ·refine Sq (Rg [0, 1] ?_)
  refine Vs 2 <| Nt <| Rt <| Ae ?_
  obtain rfl := Aa h36
  exact Re [(sv (([] : Wn))), (vi 1)] hs32 rfl
 ·refine Sc ?_
  refine Ab <| Sq (Rg (rG 8) ?_)
  refine Vs 1 <| Ld hs32.at0 ?_
  obtain ⟨r38, hr39, h40⟩ := bind_some h37
  refine Cl' J0 hs32 (KR N w31 F1 hs32.pers x1.Minute _ hr39) ?_
  rintro _ F2 w42 hs43 le44 rfl
  refine Vs 5 <| Nss (Rg (rG 9) ?_)
  refine Ld hs43.at1 <| Vs 1 <| Ld hs43.at0 ?_
  obtain ⟨r46, hr47, h48⟩ := bind_some h40
  refine Cl' Et hs43 (EF N w42 F2 hs43.pers (({ Report := x0.Report, Serial := x0.Serial, Zone := x0.Zone } : Ac)) (({ Report := x1.Sent.Report, Serial := x1.Sent.Serial, Zone := x1.Sent.Zone } : Ad)) _ hr47) ?_
  rintro _ F3 w50 hs51 le52 rfl
  refine Vs 5 <| Nss (Rg (rG 9) ?_)
  refine Ld hs51.at1 <| Vs 1 <| Ld hs51.at0 ?_
  obtain ⟨r54, hr55, h56⟩ := bind_some h48
  refine Cl' Et hs51 (EF N w50 F3 hs51.pers (({ Report := x0.Report, Serial := x0.Serial, Zone := x0.Zone } : Ac)) (({ Report := x1.Got.Report, Serial := x1.Got.Serial, Zone := x1.Got.Zone } : Ad)) _ hr55) ?_
  rintro _ F4 w58 hs59 le60 rfl
  refine Vs 5 <| Nss ?_
  obtain ⟨j67, hj71, h72⟩ := bind_some h56
  refine RD 29 29 [(sb b24 (BL x1) 34), (sb b21 (Ag x0) 23)] [] hs59 (fun f w => ∃ (F5 : Mem), HS w0 F0 w F5 [] /\ V2 F4 F5 /\ FI f [] [(4, (sv j67)), (5, (vi 0))]) (fun wd62 hw63 => ?_) ?_
  ·refine Dvl [0] (tf 1 28) ?_
   refine Dl 1 (fun _ hq => (hq.1.2 0 _ _ rfl)) <| Dvl [5] [tt, tt, ff, ff, ff, tt, ff, ff, ff, ff, ff, ff, ff, ff, ff, ff, ff, ff, ff, ff, ff, ff, ff, ff, ff, ff, ff, ff, ff] <| Dl 6 (fun _ hq => (hq.1.2 0 _ _ rfl)) <| Dvl [10] [tt, tt, ff, ff, ff, tt, tt, ff, ff, ff, tt, ff, ff, ff, ff, ff, ff, ff, ff, ff, ff, ff, ff, ff, ff, ff, ff, ff, ff] <| Dl 11 (fun _ hq => (hq.1.2 0 _ _ rfl)) <| Dvl [15, 18] [tt, tt, ff, ff, ff, tt, tt, ff, ff, ff, tt, tt, ff, ff, ff, tt, ff, ff, tt, ff, ff, ff, ff, ff, ff, ff, ff, ff, ff] <| Dl 19 (fun _ hq => (hq.1.2 0 _ _ rfl)) <| Dvl [22, 25] [tt, tt, ff, ff, ff, tt, tt, ff, ff, ff, tt, tt, ff, ff, ff, tt, ff, ff, tt, tt, ff, ff, tt, ff, ff, tt, ff, ff, ff] <| D1 2 ?_
   obtain ⟨r73, hr74, h75⟩ := bind_some hj71
   refine DCl AR hw63 (AU N wd62 F4 hw63.pers (hG.mono (((le33.t le44).trans le52).trans le60)) x1.Num _ hr74) ?_
   rintro _ F6 w77 hs78 le79 rfl
   obtain ⟨r81, hr82, h83⟩ := bind_some h75
   refine Dtl 3 39 9 (sv r81) [tt, tt, tt, tt, ff, tt, tt, ff, ff, ff, tt, tt, ff, ff, ff, tt, ff, ff, tt, tt, ff, ff, tt, ff, ff, tt, ff, ff, ff] (fun _ hq => Av (t := 9) (t' := 9) (x := (.const (sv ([81, 83, 79, 32] : Wn)))) (y := (.tmp 38)) (a := ([81, 83, 79, 32] : Wn)) (b := r73) (v := r81) rfl rfl hr82) ?_
   obtain ⟨r84, hr85, h86⟩ := bind_some h83
   refine Dtl 4 40 9 (sv r84) [tt, tt, tt, tt, tt, tt, tt, ff, ff, ff, tt, tt, ff, ff, ff, tt, ff, ff, tt, tt, ff, ff, tt, ff, ff, tt, ff, ff, ff] (fun _ hq => Av (t := 9) (t' := 9) (x := (.tmp 39)) (y := (.const (sv ([32] : Wn)))) (a := r81) (b := ([32] : Wn)) (v := r84) rfl rfl hr85) <| D1 7 ?_
   obtain ⟨r87, hr88, h89⟩ := bind_some h86
   refine DCl AR hs78 (AU N w77 F6 hs78.pers (hG.mono ((((le33.t le44).trans le52).trans le60).trans le79)) x1.Khz _ hr88) ?_
   rintro _ F7 w91 hs92 le93 rfl
   obtain ⟨r95, hr96, h97⟩ := bind_some h89
   refine Dtl 8 44 9 (sv r95) [tt, tt, tt, tt, tt, tt, tt, tt, tt, ff, tt, tt, ff, ff, ff, tt, ff, ff, tt, tt, ff, ff, tt, ff, ff, tt, ff, ff, ff] (fun _ hq => Av (t := 9) (t' := 9) (x := (.tmp 40)) (y := (.tmp 43)) (a := r84) (b := r87) (v := r95) rfl rfl hr96) ?_
   obtain ⟨r98, hr99, h100⟩ := bind_some h97
   refine Dtl 9 45 9 (sv r98) [tt, tt, tt, tt, tt, tt, tt, tt, tt, tt, tt, tt, ff, ff, ff, tt, ff, ff, tt, tt, ff, ff, tt, ff, ff, tt, ff, ff, ff] (fun _ hq => Av (t := 9) (t' := 9) (x := (.tmp 44)) (y := (.const (sv ([32] : Wn)))) (a := r95) (b := ([32] : Wn)) (v := r98) rfl rfl hr99) <| D1 12 ?_
   obtain ⟨r101, hr102, h103⟩ := bind_some h100
   refine DCl MA hs92 (NT N w91 F7 hs92.pers x1.Mode _ hr102) ?_
   rintro _ F8 w105 hs106 le107 rfl
   obtain ⟨r109, hr110, h111⟩ := bind_some h103
   refine Dtl 13 49 9 (sv r109) [tt, tt, tt, tt, tt, tt, tt, tt, tt, tt, tt, tt, tt, tt, ff, tt, ff, ff, tt, tt, ff, ff, tt, ff, ff, tt, ff, ff, ff] (fun _ hq => Av (t := 9) (t' := 9) (x := (.tmp 45)) (y := (.tmp 48)) (a := r98) (b := r101) (v := r109) rfl rfl hr110) ?_
   obtain ⟨r112, hr113, h114⟩ := bind_some h111
   refine Dtl 14 50 9 (sv r112) [tt, tt, tt, tt, tt, tt, tt, tt, tt, tt, tt, tt, tt, tt, tt, tt, ff, ff, tt, tt, ff, ff, tt, ff, ff, tt, ff, ff, ff] (fun _ hq => Av (t := 9) (t' := 9) (x := (.tmp 49)) (y := (.const (sv ([32] : Wn)))) (a := r109) (b := ([32] : Wn)) (v := r112) rfl rfl hr113) ?_
   obtain ⟨r115, hr116, h117⟩ := bind_some h114
   refine Dtl 16 52 9 (sv r115) [tt, tt, tt, tt, tt, tt, tt, tt, tt, tt, tt, tt, tt, tt, tt, tt, tt, ff, tt, tt, ff, ff, tt, ff, ff, tt, ff, ff, ff] (fun _ hq => Av (t := 9) (t' := 9) (x := (.tmp 50)) (y := (.tmp 51)) (a := r112) (b := r38.1) (v := r115) rfl rfl hr116) ?_
   obtain ⟨r118, hr119, h120⟩ := bind_some h117
   refine Dtl 17 53 9 (sv r118) [tt, tt, tt, tt, tt, tt, tt, tt, tt, tt, tt, tt, tt, tt, tt, tt, tt, tt, tt, tt, ff, ff, tt, ff, ff, tt, ff, ff, ff] (fun _ hq => Av (t := 9) (t' := 9) (x := (.tmp 52)) (y := (.const (sv ([32] : Wn)))) (a := r115) (b := ([32] : Wn)) (v := r118) rfl rfl hr119) ?_
   obtain ⟨r121, hr122, h123⟩ := bind_some h120
   refine Dtl 20 56 9 (sv r121) [tt, tt, tt, tt, tt, tt, tt, tt, tt, tt, tt, tt, tt, tt, tt, tt, tt, tt, tt, tt, tt, ff, tt, ff, ff, tt, ff, ff, ff] (fun _ hq => Av (t := 9) (t' := 9) (x := (.tmp 53)) (y := (.tmp 55)) (a := r118) (b := x1.Call) (v := r121) rfl rfl hr122) ?_
   obtain ⟨r124, hr125, h126⟩ := bind_some h123
   refine Dtl 21 57 9 (sv r124) [tt, tt, tt, tt, tt, tt, tt, tt, tt, tt, tt, tt, tt, tt, tt, tt, tt, tt, tt, tt, tt, tt, tt, ff, ff, tt, ff, ff, ff] (fun _ hq => Av (t := 9) (t' := 9) (x := (.tmp 56)) (y := (.const (sv ([32, 62, 32] : Wn)))) (a := r121) (b := ([32, 62, 32] : Wn)) (v := r124) rfl rfl hr125) ?_
   obtain ⟨r127, hr128, h129⟩ := bind_some h126
   refine Dtl 23 59 9 (sv r127) [tt, tt, tt, tt, tt, tt, tt, tt, tt, tt, tt, tt, tt, tt, tt, tt, tt, tt, tt, tt, tt, tt, tt, tt, ff, tt, ff, ff, ff] (fun _ hq => Av (t := 9) (t' := 9) (x := (.tmp 57)) (y := (.tmp 58)) (a := r124) (b := r46.1) (v := r127) rfl rfl hr128) ?_
   obtain ⟨r130, hr131, h132⟩ := bind_some h129
   refine Dtl 24 60 9 (sv r130) (tf 26 3) (fun _ hq => Av (t := 9) (t' := 9) (x := (.tmp 59)) (y := (.const (sv ([32, 60, 32] : Wn)))) (a := r127) (b := ([32, 60, 32] : Wn)) (v := r130) rfl rfl hr131) ?_
   obtain ⟨r133, hr134, h135⟩ := bind_some h132
   refine Dtl 26 62 9 (sv r133) (tf 27 2) (fun _ hq => Av (t := 9) (t' := 9) (x := (.tmp 60)) (y := (.tmp 61)) (a := r130) (b := r54.1) (v := r133) rfl rfl hr134) <| Dvl [27, 28] (tf 29 0) ?_
   obtain rfl := Aa h135
   exact Wf (by kernel_rfl) ⟨F8, hs106.dr0.dr0, ((le79.t le93).trans le107), fI⟩
  ·rintro f w64 ⟨F5, hs65, le66, ⟨_, rfl⟩⟩
   refine Ab <| Rt ?_
   obtain rfl := Aa h72
   exact Re [(sv j67), (vi 0)] hs65 rfl
def EI (N : Nat) (x0 : Log) : (Wn × Int) -> Option (A4 (List Wn) (Wn × Int)) := fun s27 =>
 (bif (decide (s27.2 < (x0.Jumps.length : Int))) then ((idx x0.Jumps s27.2).bind fun x51 => ((strconv_Itoa N x51).bind fun r65 => ((AZ ([32] : Wn) r65).bind fun r73 => ((AZ s27.1 r73).bind fun r76 => some (.next (r76, (W64 (s27.2 + 1)))))))) else some (.done (s27.1, s27.2)))
def ET (N : Nat) (x0 : Log) : Option (List Wn) :=
 ((AJ (EI N x0) N (([74, 85, 77, 80, 83] : Wn), 0)).bind fun o => o.k (fun r => some r) (fun s35 => (((AZ ([67, 65, 76, 76, 32] : Wn) x0.Call).bind fun r93 => ((strconv_Itoa N x0.Category).bind fun r96 => ((AZ ([67, 65, 84, 69, 71, 79, 82, 89, 32] : Wn) r96).bind fun r104 => ((strconv_Itoa N x0.Power).bind fun r107 => ((AZ ([80, 79, 87, 69, 82, 32] : Wn) r107).bind fun r115 => ((strconv_Itoa N x0.Claimed).bind fun r118 => ((AZ ([67, 76, 65, 73, 77, 69, 68, 32] : Wn) r118).bind fun r126 => some [r93, r104, r115, r126, s35.1]))))))).bind fun j88 => some j88)))
theorem LK : Af Tryz.prog 92 := fun _ _ => by kernel_rfl
theorem MF (N : Nat) (w0 : World) (F0 : Mem) (hF : Wp w0 F0) (hG : Br F0) (x0 : Log) (a0_4 : Wo) (n0_4 : Nat) (hb0_4 : LC x0.Jumps.length n0_4) (hs0_4 : SlA AM F0 a0_4 x0.Jumps) (a0_5 : Wo) (n0_5 : Nat) (r : (List Wn)) (h : ET N x0 = some r) :
  Calls Tryz.prog 92 ([(.agg (AF x0 a0_4 n0_4 a0_5 n0_5))] : List Value).toArray w0 (AA w0 F0 fun F' v => ∃ (aq0_0 : Wo) (nq0_0 : Nat), v = (.slice aq0_0 r.length nq0_0) /\ LC r.length nq0_0 /\ SlA AK F' aq0_0 r) := by
 have hs0 := V4 hF
 refine Go 38 Tryz.func92 <| Sq (Rg [0, 1] ?_)
 refine Bx' 27 (AF x0 a0_4 n0_4 a0_5 n0_5) hs0 (fun b21 w22 hs23 => ?_)
 refine Vs 1 <| Nss (Rg [0] ?_)
 refine Vs 1 <| Nss <| Sq (Rg [0] ?_)
 refine Vs 1 <| Nt ?_
 obtain ⟨o24, ho25, h26⟩ := bind_some h
 refine V9 (fun f w => ∃ (s35 : (Wn × Int)) (F2 : Mem), o24 = .done s35 /\ HS w0 F0 w F2 [(sb b21 (AF x0 a0_4 n0_4 a0_5 n0_5) 27)] /\ V2 F0 F2 /\ FI f [] [(1, (pt b21 0)), (3, (sv s35.1))]) ?_ ?_
 ·refine Bk ?_
  refine V1 (by kernel_rfl) (fun m f w => ∃ (s27 : (Wn × Int)) (F1 : Mem), AJ (EI N x0) m s27 = some o24 /\ HS w0 F0 w F1 [(sb b21 (AF x0 a0_4 n0_4 a0_5 n0_5) 27)] /\ V2 F0 F1 /\ FI f [] [(1, (pt b21 0)), (3, (sv s27.1)), (4, (vi s27.2))]) N ⟨(([74, 85, 77, 80, 83] : Wn), 0), F0, ho25, hs23, (V3 _), fI⟩ ?_
  rintro m42 f w28 ⟨s27, F1, hit43, hs29, le30, ⟨_, rfl⟩⟩
  obtain ⟨m44, fl45, rfl, hb46, hnx47⟩ := AC hit43
  refine Sq <| Sq (Rg (rG 5) ?_)
  refine Vs 2 <| Ld hs29.at0 <| Vs 2 <| Nt <| Cd hb46 (fun hb48 h49 => ?_) (fun hb48 h50 => ?_)
  ·refine Sc ?_
   refine Ab <| Sq <| Bk <| Rg (rG 10) <| Vs 2 <| Ld hs29.at0 <| Vs 1 ?_
   obtain ⟨x51, hx52, h54⟩ := bind_some h49
   obtain ⟨hi53, hx52'⟩ := Aj hx52
   obtain ⟨b55, o56, C57, E58, fz59, rfl, hF61, hE62⟩ := Wa (V5 hs0_4 le30) hx52'
   have hc64 := hE62 _ _ hx52'
   refine Ix hi53 <| Lx 0 (hs29.pers _ _ hF61) hc64 ?_
   obtain ⟨r65, hr66, h67⟩ := bind_some h54
   refine Cl' AR hs29 (AU N w28 F1 hs29.pers (hG.mono le30) x51 _ hr66) ?_
   rintro _ F3 w69 hs70 le71 rfl
   obtain ⟨r73, hr74, h75⟩ := bind_some h67
   refine V 19 9 (Av (t := 9) (t' := 9) (x := (.const (sv ([32] : Wn)))) (y := (.tmp 18)) (a := ([32] : Wn)) (b := r65) (v := r73) rfl rfl hr74) ?_
   obtain ⟨r76, hr77, h78⟩ := bind_some h75
   refine V 20 9 (Av (t := 9) (t' := 9) (x := (.tmp 12)) (y := (.tmp 19)) (a := s27.1) (b := r73) (v := r76) rfl rfl hr77) <| Vs 1 <| VY <| Ap <| Ab <| Rg [0, 1, 2] <| Vs 3 <| VY ?_
   have hn79 := AD h78 hnx47
   exact ⟨m44, Nat.lt_succ_self _, (r76, (W64 (s27.2 + 1))), F3, hn79, hs70, (le30.t le71), fI⟩
  ·refine Ex ?_
   refine Al <| Al <| Ay rfl ?_
   have ho80 := AE h50 hnx47
   exact .inl ⟨rfl, (s27.1, s27.2), F1, ho80, hs29, le30, fI⟩
 ·rintro f w36 ⟨s35, F2, rfl, hs37, le38, ⟨_, rfl⟩⟩
  have h81 := A6 h26
  refine Ab <| Sq ?_
  obtain ⟨j88, hj91, h92⟩ := bind_some h81
  refine RD 18 18 [(sb b21 (AF x0 a0_4 n0_4 a0_5 n0_5) 27)] [] hs37 (fun f w => ∃ (F4 : Mem) (aj88_0 : Wo) (nj88_0 : Nat) (ej88_0 : Option Nat × Obj), HS w0 F0 w F4 [ej88_0] /\ V2 F2 F4 /\ FI f [] [(2, (.slice aj88_0 j88.length nj88_0))] /\ Ar AK 9 F4 aj88_0 nj88_0 j88 ej88_0) (fun wd82 hw83 => ?_) ?_
  ·refine Dvl [0] (tf 1 17) ?_
   refine Dl 1 (fun _ hq => (hq.1.2 0 _ _ rfl)) ?_
   obtain ⟨r93, hr94, h95⟩ := bind_some hj91
   refine Dt 2 23 9 (sv r93) (fun _ hq => Av (t := 9) (t' := 9) (x := (.const (sv ([67, 65, 76, 76, 32] : Wn)))) (y := (.tmp 22)) (a := ([67, 65, 76, 76, 32] : Wn)) (b := x0.Call) (v := r93) rfl rfl hr94) <| Dvl [3] (tf 4 14) <| Dl 4 (fun _ hq => (hq.1.2 0 _ _ rfl)) <| Dvl [7] [tt, tt, tt, tt, tt, ff, ff, tt, ff, ff, ff, ff, ff, ff, ff, ff, ff, ff] <| Dl 8 (fun _ hq => (hq.1.2 0 _ _ rfl)) <| Dvl [11] [tt, tt, tt, tt, tt, ff, ff, tt, tt, ff, ff, tt, ff, ff, ff, ff, ff, ff] <| Dl 12 (fun _ hq => (hq.1.2 0 _ _ rfl)) <| Dvl [15] [tt, tt, tt, tt, tt, ff, ff, tt, tt, ff, ff, tt, tt, ff, ff, tt, ff, ff] <| D1 5 ?_
   obtain ⟨r96, hr97, h98⟩ := bind_some h95
   refine DCl AR hw83 (AU N wd82 F2 hw83.pers (hG.mono le38) x0.Category _ hr97) ?_
   rintro _ F5 w100 hs101 le102 rfl
   obtain ⟨r104, hr105, h106⟩ := bind_some h98
   refine Dt 6 27 9 (sv r104) (fun _ hq => Av (t := 9) (t' := 9) (x := (.const (sv ([67, 65, 84, 69, 71, 79, 82, 89, 32] : Wn)))) (y := (.tmp 26)) (a := ([67, 65, 84, 69, 71, 79, 82, 89, 32] : Wn)) (b := r96) (v := r104) rfl rfl hr105) <| D1 9 ?_
   obtain ⟨r107, hr108, h109⟩ := bind_some h106
   refine DCl AR hs101 (AU N w100 F5 hs101.pers (hG.mono (le38.t le102)) x0.Power _ hr108) ?_
   rintro _ F6 w111 hs112 le113 rfl
   obtain ⟨r115, hr116, h117⟩ := bind_some h109
   refine Dt 10 31 9 (sv r115) (fun _ hq => Av (t := 9) (t' := 9) (x := (.const (sv ([80, 79, 87, 69, 82, 32] : Wn)))) (y := (.tmp 30)) (a := ([80, 79, 87, 69, 82, 32] : Wn)) (b := r107) (v := r115) rfl rfl hr116) <| D1 13 ?_
   obtain ⟨r118, hr119, h120⟩ := bind_some h117
   refine DCl AR hs112 (AU N w111 F6 hs112.pers (hG.mono ((le38.t le102).trans le113)) x0.Claimed _ hr119) ?_
   rintro _ F7 w122 hs123 le124 rfl
   obtain ⟨r126, hr127, h128⟩ := bind_some h120
   refine Dt 14 35 9 (sv r126) (fun _ hq => Av (t := 9) (t' := 9) (x := (.const (sv ([67, 76, 65, 73, 77, 69, 68, 32] : Wn)))) (y := (.tmp 34)) (a := ([67, 76, 65, 73, 77, 69, 68, 32] : Wn)) (b := r118) (v := r126) rfl rfl hr127) <| D1 16 <| DBs 9 [(sv r93), (sv r104), (sv r115), (sv r126), (sv s35.1)] hs123 ((le102.t le113).trans le124) (fun b129 w130 hs131 => ?_)
   have hr133 : Ar AK 9 F7 (some ⟨b129, 0, none⟩) 5 [r93, r104, r115, r126, s35.1] (some b129, .cells ([(sv r93), (sv r104), (sv r115), (sv r126), (sv s35.1)] : List Value).toArray 9 (0, 0)) := Wi ⟨rfl, ⟨rfl, ⟨rfl, ⟨rfl, ⟨rfl, rfl⟩⟩⟩⟩⟩ (by simp)
   refine Dvl [17] (tf 18 0) ?_
   obtain rfl := Aa h128
   exact Wf (by kernel_rfl) ⟨F7, (some ⟨b129, 0, none⟩), 5, (some b129, .cells ([(sv r93), (sv r104), (sv r115), (sv r126), (sv s35.1)] : List Value).toArray 9 (0, 0)), hs131.dr1, ((le102.t le113).trans le124), fI, hr133⟩
  ·rintro f w84 ⟨F4, aj88_0, nj88_0, ej88_0, hs85, le86, ⟨_, rfl⟩, hrj88_0⟩
   refine Ab <| Rt ?_
   have hb137 := Wg hrj88_0
   obtain ⟨F8, hs134, le135, hs136⟩ := hs85.fr0 hrj88_0
   obtain rfl := Aa h92
   exact Re [(.slice aj88_0 j88.length nj88_0)] hs134 ⟨aj88_0, nj88_0, rfl, hb137, hs136⟩
def FM (N : Nat) (x0 : Ac) (x1 : Log) (r27 : (Int × Int)) (r38 : (List Wn)) : (Wn × Int) -> Option (A4 (Wn × Int) (Wn × Int)) := fun s49 =>
 (bif (decide (s49.2 < (r38.length : Int))) then ((idx r38 s49.2).bind fun x76 => ((AZ x76 ([10] : Wn)).bind fun r90 => ((AZ s49.1 r90).bind fun r93 => some (.next (r93, (W64 (s49.2 + 1))))))) else some (.done (s49.1, s49.2)))
def FL (N : Nat) (x0 : Ac) (x1 : Log) (r27 : (Int × Int)) (r38 : (List Wn)) (s59 : (Wn × Int)) : (Wn × Int) -> Option (A4 (Wn × Int) (Wn × Int)) := fun s102 =>
 (bif (decide (s102.2 < (x1.Lines.length : Int))) then (((idx x1.Lines s102.2).bind fun x140 => ((BW N ({ Report := x0.Report, Serial := x0.Serial, Zone := x0.Zone } : Ac) x140).bind fun r154 => some r154.1)).bind fun j131 => ((AZ j131 ([10] : Wn)).bind fun r162 => ((AZ s102.1 r162).bind fun r165 => some (.next (r165, (W64 (s102.2 + 1))))))) else some (.done (s102.1, s102.2)))
def E6 (N : Nat) (x0 : Ac) (x1 : Log) : Option (Wn × Int) :=
 ((E7 N ({ Report := x0.Report, Serial := x0.Serial, Zone := x0.Zone } : Ac) x1).bind fun r27 => (bif (r27.1 != 0) then some (([] : Wn), r27.1) else ((ET N x1).bind fun r38 => ((AJ (FM N x0 x1 r27 r38) N (([] : Wn), 0)).bind fun o => o.k (fun r => some r) (fun s59 => ((AJ (FL N x0 x1 r27 r38 s59) N (s59.1, 0)).bind fun o => o.k (fun r => some r) (fun s111 => ((AZ s111.1 ([69, 78, 68, 10] : Wn)).bind fun r171 => some (r171, 0)))))))))
theorem ND : Af Tryz.prog 30 := fun _ _ => by kernel_rfl
theorem Oo (N : Nat) (w0 : World) (F0 : Mem) (hF : Wp w0 F0) (hG : Br F0) (x0 : Ac) (x1 : Log) (a1_4 : Wo) (n1_4 : Nat) (hb1_4 : LC x1.Jumps.length n1_4) (hs1_4 : SlA AM F0 a1_4 x1.Jumps) (a1_5 : Wo) (n1_5 : Nat) (hb1_5 : LC x1.Lines.length n1_5) (hs1_5 : SlA AL F0 a1_5 x1.Lines) (r : (Wn × Int)) (h : E6 N x0 x1 = some r) :
  Calls Tryz.prog 30 ([(.agg (Ag x0)), (.agg (AF x1 a1_4 n1_4 a1_5 n1_5))] : List Value).toArray w0 (AA w0 F0 fun F' v => v = (.tuple #[(sv r.1), (vi r.2)])) := by
 have hs0 := V4 hF
 refine Go 61 Tryz.func30 <| Sq (Rg (rG 4) ?_)
 refine Bx' 23 (Ag x0) hs0 (fun b21 w22 hs23 => ?_)
 refine Bx' 27 (AF x1 a1_4 n1_4 a1_5 n1_5) hs23 (fun b24 w25 hs26 => ?_)
 refine Vs 2 <| Nss (Rg (rG 8) ?_)
 refine Ld hs26.at1 <| Ld hs26.at0 ?_
 obtain ⟨r27, hr28, h29⟩ := bind_some h
 refine Cl' NE hs26 (Oq N w25 F0 hs26.pers (({ Report := x0.Report, Serial := x0.Serial, Zone := x0.Zone } : Ac)) x1 a1_4 n1_4 hb1_4 hs1_4 a1_5 n1_5 hb1_5 hs1_5 _ hr28) ?_
 rintro _ F1 w31 hs32 le33 rfl
 refine Vs 5 <| Nss <| Sq (Rg [0, 1] ?_)
 refine Vs 2 <| Nt <| Cd h29 (fun hb35 h36 => ?_) (fun hb35 h37 => ?_)
 ·refine Sq (Rg [0, 1, 2] ?_)
  refine Vs 3 <| Nt <| Rt <| Ae ?_
  obtain rfl := Aa h36
  exact Re [(sv (([] : Wn))), (vi r27.1)] hs32 rfl
 ·refine Sc ?_
  refine Ab <| Sq (Rg [0] ?_)
  refine Vs 1 <| Nss (Rg [0, 1, 2] ?_)
  refine Ld hs32.at0 ?_
  obtain ⟨r38, hr39, h40⟩ := bind_some h37
  refine Cl' LK hs32 (MF N w31 F1 hs32.pers (hG.mono le33) x1 a1_4 n1_4 hb1_4 (V5 hs1_4 le33) a1_5 n1_5 _ hr39) ?_
  rintro _ F2 w42 hs43 le44 ⟨ar38_0_0, nr38_0_0, rfl, hbr38_0_0, hsr38_0_0⟩
  refine Vs 1 <| Nss <| Sq (Rg [0] ?_)
  refine Vs 1 <| Nt ?_
  obtain ⟨o46, ho47, h48⟩ := bind_some h40
  refine V9 (fun f w => ∃ (s59 : (Wn × Int)) (F4 : Mem), o46 = .done s59 /\ HS w0 F0 w F4 [(sb b24 (AF x1 a1_4 n1_4 a1_5 n1_5) 27), (sb b21 (Ag x0) 23)] /\ V2 F2 F4 /\ FI f [] [(2, (pt b21 0)), (3, (pt b24 0)), (8, (sv s59.1))]) ?_ ?_
  ·refine Bk ?_
   refine V1 (by kernel_rfl) (fun m f w => ∃ (s49 : (Wn × Int)) (F3 : Mem), AJ (FM N x0 x1 r27 r38) m s49 = some o46 /\ HS w0 F0 w F3 [(sb b24 (AF x1 a1_4 n1_4 a1_5 n1_5) 27), (sb b21 (Ag x0) 23)] /\ V2 F2 F3 /\ FI f [] [(2, (pt b21 0)), (3, (pt b24 0)), (8, (sv s49.1)), (9, (.slice ar38_0_0 r38.length nr38_0_0)), (10, (vi s49.2))]) N ⟨(([] : Wn), 0), F2, ho47, hs43, (V3 _), fI⟩ ?_
   rintro m67 f w50 ⟨s49, F3, hit68, hs51, le52, ⟨_, rfl⟩⟩
   obtain ⟨m69, fl70, rfl, hb71, hnx72⟩ := AC hit68
   refine Sq <| Sq (Rg (rG 4) ?_)
   refine Vs 4 <| Nt <| Cd hb71 (fun hb73 h74 => ?_) (fun hb73 h75 => ?_)
   ·refine Sc ?_
    refine Ab <| Sq <| Bk <| Rg (rG 8) <| Vs 3 ?_
    obtain ⟨x76, hx77, h79⟩ := bind_some h74
    obtain ⟨hi78, hx77'⟩ := Aj hx77
    obtain ⟨b80, o81, C82, E83, fz84, rfl, hF86, hE87⟩ := Wa (V5 hsr38_0_0 le52) hx77'
    have hc89 := hE87 _ _ hx77'
    refine Ix hi78 <| Lx 0 (hs51.pers _ _ hF86) hc89 ?_
    obtain ⟨r90, hr91, h92⟩ := bind_some h79
    refine V 36 9 (Av (t := 9) (t' := 9) (x := (.tmp 35)) (y := (.const (sv ([10] : Wn)))) (a := x76) (b := ([10] : Wn)) (v := r90) rfl rfl hr91) ?_
    obtain ⟨r93, hr94, h95⟩ := bind_some h92
    refine V 37 9 (Av (t := 9) (t' := 9) (x := (.tmp 31)) (y := (.tmp 36)) (a := s49.1) (b := r90) (v := r93) rfl rfl hr94) <| Vs 1 <| VY <| Ap <| Ab <| Rg [0, 1, 2] <| Vs 3 <| VY ?_
    have hn96 := AD h95 hnx72
    exact ⟨m69, Nat.lt_succ_self _, (r93, (W64 (s49.2 + 1))), F3, hn96, hs51, le52, fI⟩
   ·refine Ex ?_
    refine Al <| Al <| Ay rfl ?_
    have ho97 := AE h75 hnx72
    exact .inl ⟨rfl, (s49.1, s49.2), F3, ho97, hs51, le52, fI⟩
  ·rintro f w60 ⟨s59, F4, rfl, hs61, le62, ⟨_, rfl⟩⟩
   have h98 := A6 h48
   refine Ab <| Sq <| Sq (Rg [0] ?_)
   refine Vs 1 <| Nt ?_
   obtain ⟨o99, ho100, h101⟩ := bind_some h98
   refine V9 (fun f w => ∃ (s111 : (Wn × Int)) (F6 : Mem), o99 = .done s111 /\ HS w0 F0 w F6 [] /\ V2 F4 F6 /\ FI f [] [(8, (sv s111.1))]) ?_ ?_
   ·refine Bk ?_
    refine V1 (by kernel_rfl) (fun m f w => ∃ (s102 : (Wn × Int)) (F5 : Mem), AJ (FL N x0 x1 r27 r38 s59) m s102 = some o99 /\ HS w0 F0 w F5 [(sb b24 (AF x1 a1_4 n1_4 a1_5 n1_5) 27), (sb b21 (Ag x0) 23)] /\ V2 F4 F5 /\ FI f [] [(2, (pt b21 0)), (3, (pt b24 0)), (8, (sv s102.1)), (11, (vi s102.2))]) N ⟨(s59.1, 0), F4, ho100, hs61, (V3 _), fI⟩ ?_
    rintro m117 f w103 ⟨s102, F5, hit118, hs104, le105, ⟨_, rfl⟩⟩
    obtain ⟨m119, fl120, rfl, hb121, hnx122⟩ := AC hit118
    refine Sq <| Sq (Rg (rG 5) ?_)
    refine Vs 2 <| Ld hs104.at0 <| Vs 2 <| Nt <| Cd hb121 (fun hb123 h124 => ?_) (fun hb123 h125 => ?_)
    ·refine Sc ?_
     refine Ab <| Sq <| Bk <| Sq ?_
     obtain ⟨j131, hj138, h139⟩ := bind_some h124
     refine RD 12 12 [(sb b24 (AF x1 a1_4 n1_4 a1_5 n1_5) 27), (sb b21 (Ag x0) 23)] [] hs104 (fun f w => ∃ (F7 : Mem), HS w0 F0 w F7 [(sb b24 (AF x1 a1_4 n1_4 a1_5 n1_5) 27), (sb b21 (Ag x0) 23)] /\ V2 F5 F7 /\ FI f [] [(2, (pt b21 0)), (3, (pt b24 0)), (8, (sv s102.1)), (11, (vi s102.2)), (12, (sv j131))]) (fun wd126 hw127 => ?_) ?_
     ·refine Dl 0 (fun _ hq => (hq.1.2 1 _ _ rfl)) ?_
      refine Dv [1] <| Dl 2 (fun _ hq => (hq.1.2 0 _ _ rfl)) <| Dv [3] ?_
      obtain ⟨x140, hx141, h143⟩ := bind_some hj138
      obtain ⟨hi142, hx141'⟩ := Aj hx141
      obtain ⟨b144, o145, C146, E147, fz148, rfl, hF150, hE151⟩ := Wa (V5 hs1_5 (((le33.t le44).trans le62).trans le105)) hx141'
      have hc153 := hE151 _ _ hx141'
      refine Di 4 hi142 <| Dx 5 0 (fun _ hq => hq.1.1 _ _ hF150) hc153 <| D1 6 ?_
      obtain ⟨r154, hr155, h156⟩ := bind_some h143
      refine DCl FU hw127 (GH N wd126 F5 hw127.pers (hG.mono (((le33.t le44).trans le62).trans le105)) (({ Report := x0.Report, Serial := x0.Serial, Zone := x0.Zone } : Ac)) x140 _ hr155) ?_
      rintro _ F8 w158 hs159 le160 rfl
      refine Dv [7, 8, 9, 10, 11] ?_
      obtain rfl := Aa h156
      exact Wf (by kernel_rfl) ⟨F8, hs159, le160, fI⟩
     ·rintro f w128 ⟨F7, hs129, le130, ⟨_, rfl⟩⟩
      refine Ab <| Rg (rG 5) <| Vs 2 ?_
      obtain ⟨r162, hr163, h164⟩ := bind_some h139
      refine V 57 9 (Av (t := 9) (t' := 9) (x := (.tmp 56)) (y := (.const (sv ([10] : Wn)))) (a := j131) (b := ([10] : Wn)) (v := r162) rfl rfl hr163) ?_
      obtain ⟨r165, hr166, h167⟩ := bind_some h164
      refine V 58 9 (Av (t := 9) (t' := 9) (x := (.tmp 55)) (y := (.tmp 57)) (a := s102.1) (b := r162) (v := r165) rfl rfl hr166) <| Vs 1 <| VY <| Ap <| Ab <| Rg [0, 1, 2] <| Vs 3 <| VY ?_
      have hn168 := AD h167 hnx122
      exact ⟨m119, Nat.lt_succ_self _, (r165, (W64 (s102.2 + 1))), F7, hn168, hs129, (le105.t le130), fI⟩
    ·refine Ex ?_
     refine Al <| Al <| Ay rfl ?_
     have ho169 := AE h125 hnx122
     exact .inl ⟨rfl, (s102.1, s102.2), F5, ho169, hs104.dr0.dr0, le105, fI⟩
   ·rintro f w112 ⟨s111, F6, rfl, hs113, le114, ⟨_, rfl⟩⟩
    have h170 := A6 h101
    refine Ab <| Sq (Rg (rG 4) ?_)
    refine Vs 1 ?_
    obtain ⟨r171, hr172, h173⟩ := bind_some h170
    refine V 60 9 (Av (t := 9) (t' := 9) (x := (.tmp 59)) (y := (.const (sv ([69, 78, 68, 10] : Wn)))) (a := s111.1) (b := ([69, 78, 68, 10] : Wn)) (v := r171) rfl rfl hr172) <| Vs 2 <| Nt <| Rt ?_
    obtain rfl := Aa h173
    exact Re [(sv r171), (vi 0)] hs113 rfl
def BX (N : Nat) (x0 : Ac) (x1 : Log) (r27 : Bool) (r35 : Bool) : Int -> Option (A4 Bool Int) := fun s49 =>
 (bif ((decide (s49 < (x1.Lines.length : Int))) && (decide (s49 < 60))) then (((idx x1.Lines s49).bind fun x100 => ((BR N ({ Report := x0.Report, Serial := x0.Serial, Zone := x0.Zone } : Ac) x100).bind fun r114 => some (r114.1, r114.2))).bind fun j90 => (((idx x1.Lines s49).bind fun x139 => ((BW N ({ Report := x0.Report, Serial := x0.Serial, Zone := x0.Zone } : Ac) x139).bind fun r153 => some (r153.1, r153.2))).bind fun j127 => (bif ((j90.1 != j127.1) || (j90.2 != j127.2)) then some (.ret false) else some (.next (W64 (s49 + 1)))))) else some (.done s49))
def Dw (N : Nat) (x0 : Ac) (x1 : Log) : Option Bool :=
 ((IA N ).bind fun r27 => ((Ja N x1).bind fun r35 => (bif (!r35) then some r27 else ((AJ (BX N x0 x1 r27 r35) N 0).bind fun o => o.k (fun r => some r) (fun s58 => ((EM N ({ Report := x0.Report, Serial := x0.Serial, Zone := x0.Zone } : Ac) x1).bind fun r177 => ((E6 N ({ Report := x0.Report, Serial := x0.Serial, Zone := x0.Zone } : Ac) x1).bind fun r185 => some (r27 && ((r177.1 == r185.1) && (r177.2 == r185.2))))))))))
theorem Ka (N : Nat) (w0 : World) (F0 : Mem) (hF : Wp w0 F0) (hG : Br F0) (x0 : Ac) (x1 : Log) (a1_4 : Wo) (n1_4 : Nat) (hb1_4 : LC x1.Jumps.length n1_4) (hs1_4 : SlA AM F0 a1_4 x1.Jumps) (a1_5 : Wo) (n1_5 : Nat) (hb1_5 : LC x1.Lines.length n1_5) (hs1_5 : SlA AL F0 a1_5 x1.Lines) (r : Bool) (h : Dw N x0 x1 = some r) :
  Calls Tryz.prog 4 ([(.agg (Ag x0)), (.agg (AF x1 a1_4 n1_4 a1_5 n1_5))] : List Value).toArray w0 (AA w0 F0 fun F' v => v = (.bool r)) := by
 have hs0 := V4 hF
 refine Go 82 Tryz.func4 <| Sq (Rg [0, 1, 2] ?_)
 refine Bx' 23 (Ag x0) hs0 (fun b21 w22 hs23 => ?_)
 refine Bx' 27 (AF x1 a1_4 n1_4 a1_5 n1_5) hs23 (fun b24 w25 hs26 => ?_)
 refine Vs 1 <| Nss (Rg [0, 1] ?_)
 obtain ⟨r27, hr28, h29⟩ := bind_some h
 refine Cl' NK hs26 (Oy N w25 F0 hs26.pers hG  _ hr28) ?_
 rintro _ F1 w31 hs32 le33 rfl
 refine Vs 1 <| Nss <| Sq (Rg [0, 1, 2] ?_)
 refine Ld hs32.at0 ?_
 obtain ⟨r35, hr36, h37⟩ := bind_some h29
 refine Cl' PC hs32 (Ql N w31 F1 hs32.pers x1 a1_4 n1_4 hb1_4 (V5 hs1_4 le33) a1_5 n1_5 hb1_5 (V5 hs1_5 le33) _ hr36) ?_
 rintro _ F2 w39 hs40 le41 rfl
 refine Vs 1 <| Nt <| Cd h37 (fun hb43 h44 => ?_) (fun hb43 h45 => ?_)
 ·refine Sq (Rg [0, 1] ?_)
  refine Vs 2 <| Nt <| Rt <| Ae ?_
  obtain rfl := Aa h44
  exact Re [(.bool r27)] hs40 rfl
 ·refine Sc ?_
  refine Ab <| Sq <| Sq (Rg [0] ?_)
  refine Vs 1 <| Nt ?_
  obtain ⟨o46, ho47, h48⟩ := bind_some h45
  refine V9 (fun f w => ∃ (s58 : Int) (F4 : Mem), o46 = .done s58 /\ HS w0 F0 w F4 [(sb b24 (AF x1 a1_4 n1_4 a1_5 n1_5) 27), (sb b21 (Ag x0) 23)] /\ V2 F2 F4 /\ FI f [] [(2, (pt b21 0)), (3, (pt b24 0)), (5, (.bool r27))]) ?_ ?_
  ·refine Bk ?_
   refine V1 (by kernel_rfl) (fun m f w => ∃ (s49 : Int) (F3 : Mem), AJ (BX N x0 x1 r27 r35) m s49 = some o46 /\ HS w0 F0 w F3 [(sb b24 (AF x1 a1_4 n1_4 a1_5 n1_5) 27), (sb b21 (Ag x0) 23)] /\ V2 F2 F3 /\ FI f [] [(2, (pt b21 0)), (3, (pt b24 0)), (5, (.bool r27)), (6, (vi s49))]) N ⟨0, F2, ho47, hs40, (V3 _), fI⟩ ?_
   rintro m66 f w50 ⟨s49, F3, hit67, hs51, le52, ⟨_, rfl⟩⟩
   obtain ⟨m68, fl69, rfl, hb70, hnx71⟩ := AC hit67
   refine Sq <| Sq (Rg (rG 9) ?_)
   refine V8 (fun f w => ∃ (F5 : Mem), HS w0 F0 w F5 [(sb b24 (AF x1 a1_4 n1_4 a1_5 n1_5) 27), (sb b21 (Ag x0) 23)] /\ V2 F3 F5 /\ FI f [] [(2, (pt b21 0)), (3, (pt b24 0)), (5, (.bool r27)), (6, (vi s49)), (28, (.bool ((decide (s49 < (x1.Lines.length : Int))) && (decide (s49 < 60)))))]) ?_ ?_
   ·refine Vs 2 ?_
    refine Ld hs51.at0 <| Vs 3 <| V7 (decide (s49 < (x1.Lines.length : Int))) (fun hb81 => ?_) (fun hb81 => ?_)
    ·refine Vgs hb81 2 ?_
     refine Pk1 hb81 ?_
     exact VY ⟨rfl, F3, hs51, (V3 _), (fJ ⟨rfl, rfl, rfl, rfl, (congrArg Value.bool (Hl hb81 rfl)), trivial⟩)⟩
    ·refine Ss hb81 2 ?_
     refine Pk0 hb81 ?_
     exact VY ⟨rfl, F3, hs51, (V3 _), (fJ ⟨rfl, rfl, rfl, rfl, (congrArg Value.bool (H7 hb81 rfl)), trivial⟩)⟩
   ·rintro f w72 ⟨F5, hs73, le74, ⟨_, rfl⟩⟩
    refine Ab <| Cd hb70 (fun hb82 h83 => ?_) (fun hb82 h84 => ?_)
    ·refine Sc ?_
     refine Ab <| Sq <| Bk <| Sq ?_
     obtain ⟨j90, hj98, h99⟩ := bind_some h83
     refine RD 12 12 [(sb b24 (AF x1 a1_4 n1_4 a1_5 n1_5) 27), (sb b21 (Ag x0) 23)] [] hs73 (fun f w => ∃ (F6 : Mem), HS w0 F0 w F6 [(sb b24 (AF x1 a1_4 n1_4 a1_5 n1_5) 27), (sb b21 (Ag x0) 23)] /\ V2 F5 F6 /\ FI f [] [(2, (pt b21 0)), (3, (pt b24 0)), (5, (.bool r27)), (6, (vi s49)), (7, (sv j90.1)), (8, (vi j90.2))]) (fun wd85 hw86 => ?_) ?_
     ·refine Dl 0 (fun _ hq => (hq.1.2 1 _ _ rfl)) ?_
      refine Dv [1] <| Dl 2 (fun _ hq => (hq.1.2 0 _ _ rfl)) <| Dv [3] ?_
      obtain ⟨x100, hx101, h103⟩ := bind_some hj98
      obtain ⟨hi102, hx101'⟩ := Aj hx101
      obtain ⟨b104, o105, C106, E107, fz108, rfl, hF110, hE111⟩ := Wa (V5 hs1_5 (((le33.t le41).trans le52).trans le74)) hx101'
      have hc113 := hE111 _ _ hx101'
      refine Di 4 hi102 <| Dx 5 0 (fun _ hq => hq.1.1 _ _ hF110) hc113 <| D1 6 ?_
      obtain ⟨r114, hr115, h116⟩ := bind_some h103
      refine DCl Eu hw86 (EO N wd85 F5 hw86.pers (hG.mono (((le33.t le41).trans le52).trans le74)) (({ Report := x0.Report, Serial := x0.Serial, Zone := x0.Zone } : Ac)) x100 _ hr115) ?_
      rintro _ F7 w118 hs119 le120 rfl
      refine Dv [7, 8, 9, 10, 11] ?_
      obtain rfl := Aa h116
      exact Wf (by kernel_rfl) ⟨F7, hs119, le120, fI⟩
     ·rintro f w87 ⟨F6, hs88, le89, ⟨_, rfl⟩⟩
      refine Ab <| Sq ?_
      obtain ⟨j127, hj137, h138⟩ := bind_some h99
      refine RD 12 12 [(sb b24 (AF x1 a1_4 n1_4 a1_5 n1_5) 27), (sb b21 (Ag x0) 23)] [] hs88 (fun f w => ∃ (F8 : Mem), HS w0 F0 w F8 [(sb b24 (AF x1 a1_4 n1_4 a1_5 n1_5) 27), (sb b21 (Ag x0) 23)] /\ V2 F6 F8 /\ FI f [] [(2, (pt b21 0)), (3, (pt b24 0)), (5, (.bool r27)), (6, (vi s49)), (7, (sv j90.1)), (8, (vi j90.2)), (9, (sv j127.1)), (10, (vi j127.2))]) (fun wd122 hw123 => ?_) ?_
      ·refine Dl 0 (fun _ hq => (hq.1.2 1 _ _ rfl)) ?_
       refine Dv [1] <| Dl 2 (fun _ hq => (hq.1.2 0 _ _ rfl)) <| Dv [3] ?_
       obtain ⟨x139, hx140, h142⟩ := bind_some hj137
       obtain ⟨hi141, hx140'⟩ := Aj hx140
       obtain ⟨b143, o144, C145, E146, fz147, rfl, hF149, hE150⟩ := Wa (V5 hs1_5 ((((le33.t le41).trans le52).trans le74).trans le89)) hx140'
       have hc152 := hE150 _ _ hx140'
       refine Di 4 hi141 <| Dx 5 0 (fun _ hq => hq.1.1 _ _ hF149) hc152 <| D1 6 ?_
       obtain ⟨r153, hr154, h155⟩ := bind_some h142
       refine DCl FU hw123 (GH N wd122 F6 hw123.pers (hG.mono ((((le33.t le41).trans le52).trans le74).trans le89)) (({ Report := x0.Report, Serial := x0.Serial, Zone := x0.Zone } : Ac)) x139 _ hr154) ?_
       rintro _ F9 w157 hs158 le159 rfl
       refine Dv [7, 8, 9, 10, 11] ?_
       obtain rfl := Aa h155
       exact Wf (by kernel_rfl) ⟨F9, hs158, le159, fI⟩
      ·rintro f w124 ⟨F8, hs125, le126, ⟨_, rfl⟩⟩
       refine Ab <| Sq (Rg (rG 8) ?_)
       refine V8 (fun f w => ∃ (F10 : Mem), HS w0 F0 w F10 [(sb b24 (AF x1 a1_4 n1_4 a1_5 n1_5) 27), (sb b21 (Ag x0) 23)] /\ V2 F8 F10 /\ FI f [] [(2, (pt b21 0)), (3, (pt b24 0)), (5, (.bool r27)), (6, (vi s49)), (58, (.bool ((j90.1 != j127.1) || (j90.2 != j127.2))))]) ?_ ?_
       ·refine Vs 4 ?_
        refine V7 (j90.1 != j127.1) (fun hb170 => ?_) (fun hb170 => ?_)
        ·refine Ss hb170 3 ?_
         refine Pk1 hb170 ?_
         exact VY ⟨rfl, F8, hs125, (V3 _), (fJ ⟨rfl, rfl, rfl, rfl, (congrArg Value.bool (Fw hb170 rfl)), trivial⟩)⟩
        ·refine Vgs hb170 3 ?_
         refine Pk0 hb170 ?_
         exact VY ⟨rfl, F8, hs125, (V3 _), (fJ ⟨rfl, rfl, rfl, rfl, (congrArg Value.bool (Cr hb170 rfl)), trivial⟩)⟩
       ·rintro f w161 ⟨F10, hs162, le163, ⟨_, rfl⟩⟩
        refine Ab <| Cd h138 (fun hb171 h172 => ?_) (fun hb171 h173 => ?_)
        ·refine Sq (Rg [0] ?_)
         refine Vs 1 <| Nt <| Rt <| Ax <| Ae <| Ae <| Ax ?_
         have hret := BZ h172 hnx71
         subst hret
         refine .inr <| Ae ?_
         obtain rfl := Aa h48
         exact Re [(.bool false)] hs162 rfl
        ·refine Sc ?_
         refine Ap <| Ab <| Rg [0, 1, 2] <| Vs 3 <| VY ?_
         have hn174 := AD h173 hnx71
         exact ⟨m68, Nat.lt_succ_self _, (W64 (s49 + 1)), F10, hn174, hs162, ((((le52.t le74).trans le89).trans le126).trans le163), fI⟩
    ·refine Ex ?_
     refine Al <| Al <| Ay rfl ?_
     have ho175 := AE h84 hnx71
     exact .inl ⟨rfl, s49, F5, ho175, hs73, (le52.t le74), fI⟩
  ·rintro f w59 ⟨s58, F4, rfl, hs60, le61, ⟨_, rfl⟩⟩
   have h176 := A6 h48
   refine Ab <| Sq (Rg (rG 8) ?_)
   refine Ld hs60.at1 <| Ld hs60.at0 ?_
   obtain ⟨r177, hr178, h179⟩ := bind_some h176
   refine Cl' JJ hs60 (KW N w59 F4 hs60.pers (hG.mono ((le33.t le41).trans le61)) (({ Report := x0.Report, Serial := x0.Serial, Zone := x0.Zone } : Ac)) x1 a1_4 n1_4 hb1_4 (V5 hs1_4 ((le33.t le41).trans le61)) a1_5 n1_5 hb1_5 (V5 hs1_5 ((le33.t le41).trans le61)) _ hr178) ?_
   rintro _ F11 w181 hs182 le183 rfl
   refine Vs 5 <| Nss (Rg (rG 8) ?_)
   refine Ld hs182.at1 <| Ld hs182.at0 ?_
   obtain ⟨r185, hr186, h187⟩ := bind_some h179
   refine Cl' ND hs182 (Oo N w181 F11 hs182.pers (hG.mono (((le33.t le41).trans le61).trans le183)) (({ Report := x0.Report, Serial := x0.Serial, Zone := x0.Zone } : Ac)) x1 a1_4 n1_4 hb1_4 (V5 hs1_4 (((le33.t le41).trans le61).trans le183)) a1_5 n1_5 hb1_5 (V5 hs1_5 (((le33.t le41).trans le61).trans le183)) _ hr186) ?_
   rintro _ F12 w189 hs190 le191 rfl
   refine Vs 5 <| Nss (Rg (rG 12) ?_)
   refine V8 (fun f w => ∃ (F13 : Mem), HS w0 F0 w F13 [] /\ V2 F12 F13 /\ FI f [] [(4, (.bool (r27 && ((r177.1 == r185.1) && (r177.2 == r185.2)))))]) ?_ ?_
   ·refine Vs 2 ?_
    refine V7 r27 (fun hb198 => ?_) (fun hb198 => ?_)
    ·refine Vgs hb198 3 ?_
     refine Pk1 hb198 <| Vs 1 <| V7 (r177.1 == r185.1) (fun hb199 => ?_) (fun hb199 => ?_)
     ·refine Vgs hb199 3 ?_
      refine Pk1 hb199 <| Vs 1 ?_
      exact VY ⟨rfl, F12, hs190.dr0.dr0, (V3 _), (fJ ⟨(congrArg Value.bool (Hl hb198 (Hl hb199 rfl))), trivial⟩)⟩
     ·refine Ss hb199 3 ?_
      refine Pk0 hb199 <| Vs 1 ?_
      exact VY ⟨rfl, F12, hs190.dr0.dr0, (V3 _), (fJ ⟨(congrArg Value.bool (Hl hb198 (H7 hb199 rfl))), trivial⟩)⟩
    ·refine Ss hb198 3 ?_
     refine Pk0 hb198 <| Vs 1 <| Ss (rfl : false = false) 3 <| Pk0 (rfl : false = false) <| Vs 1 ?_
     exact VY ⟨rfl, F12, hs190.dr0.dr0, (V3 _), (fJ ⟨(congrArg Value.bool (H7 hb198 rfl)), trivial⟩)⟩
   ·rintro f w193 ⟨F13, hs194, le195, ⟨_, rfl⟩⟩
    refine Ab <| Rt ?_
    obtain rfl := Aa h187
    exact Re [(.bool (r27 && ((r177.1 == r185.1) && (r177.2 == r185.2))))] hs194 rfl
section
open Go.Lib (decDigits)
section
variable {N : Nat}
theorem dI {n : Int} (h0 : 0 <= n) (h : n <= 1000000000) : strconv_Itoa N n = some (decDigits n.toNat) := by
 have := QS (N := N) n.toNat (by omega)
 rwa [show ((n.toNat : Nat) : Int) = n by omega] at this
theorem Vu {m : Int} (h : 1 <= m /\ m <= 3) : H8 ([32, 77, 86, 68] : Wn) m (W64 (m + 1)) = some (P6 m) := by
 have : m = 1 \/ m = 2 \/ m = 3 := by omega
 rcases this with rfl | rfl | rfl <;> rfl
theorem Vt {m : Int} (h : 1 <= m /\ m <= 3) : Hs N m = some (P6 m) := by
 have : m = 1 \/ m = 2 \/ m = 3 := by omega
 rcases this with rfl | rfl | rfl <;> rfl
theorem JW : ∀ (w : Wn) (r : List Wn), jn (w :: r) = w ++ r.flatMap (fun x => 32 :: x)
 | w, [] => by rw [Ep]; simp
 | w, y :: r => by rw [Er (by simp), JW y r, List.flatMap_cons]; simp
def prL (o : Ac) (x : Line) : Wn × Int := if Gj o x = true then (JB o x, 0) else ([], 1)
theorem prT {x : Line} {o : Ac} (h : OkL o x) : EJ x.Minute = (Kf x.Minute.toNat, 0) := by
 unfold EJ; rw [if_pos ⟨h.t.1, h.t.2⟩]
theorem T1 {o : Ac} {E : Ad} (h : CJ o E = true) : Hu o E = (HO o E, 0) := by
 unfold Hu; rw [if_pos h]
theorem Mc (o : Ac) (x : Line) (hx : Sg x) (hN : 4294967300 < N) : BR N o x = some (prL o x) := by
 unfold BR prL
 show (Cw N o x).bind _ = _
 rw [Rv o x hx hN, Option.bind_some]
 cases hv : Gj o x with
 | false => rfl
 | true =>
  have h := GX.1 hv
  rw [Bool.not_true, cond_false, if_pos rfl]
  show ((Co N x.Minute).bind fun r38 => (Bb N o x.Sent).bind fun r46 => (Bb N o x.Got).bind fun r54 => _) = _
  have hl := Iz h
  have ht := OV o x
  rw [L4, M4 _ _ hN, M4 _ _ hN, prT h, T1 h.s, T1 h.g, Vu h.m, dI (by have := h.n; omega) (by have := h.n; omega), dI (by have := h.k; omega) (by have := h.k; omega)]
  simp only [Option.bind_some]
  unfold strings_Join
  rw [show Go.Lib.join [([81, 83, 79] : Wn), decDigits x.Num.toNat, decDigits x.Khz.toNat, P6 x.Mode, Kf x.Minute.toNat, x.Call, [62], HO o x.Sent, [60], HO o x.Got] [32] = JB o x from ht, if_pos ⟨by simp, by omega⟩]
  rfl
theorem TD (a b c d e f g : Wn) (h : ([81, 83, 79, 32] ++ a ++ [32] ++ b ++ [32] ++ c ++ [32] ++ d ++ [32] ++ e ++ [32, 62, 32] ++ f ++ [32, 60, 32] ++ g).length <= 300) :
  (((AZ ([81, 83, 79, 32] : Wn) a).bind fun r81 => ((AZ r81 ([32] : Wn)).bind fun r84 => ((AZ r84 b).bind fun r95 => ((AZ r95 ([32] : Wn)).bind fun r98 => ((AZ r98 c).bind fun r109 => ((AZ r109 ([32] : Wn)).bind fun r112 => ((AZ r112 d).bind fun r115 => ((AZ r115 ([32] : Wn)).bind fun r118 => ((AZ r118 e).bind fun r121 => ((AZ r121 ([32, 62, 32] : Wn)).bind fun r124 => ((AZ r124 f).bind fun r127 => ((AZ r127 ([32, 60, 32] : Wn)).bind fun r130 => ((AZ r130 g).bind fun r133 => some r133)))))))))))))) = some ([81, 83, 79, 32] ++ a ++ [32] ++ b ++ [32] ++ c ++ [32] ++ d ++ [32] ++ e ++ [32, 62, 32] ++ f ++ [32, 60, 32] ++ g) := by
 have q : ∀ {x y : Wn}, (x ++ y).length <= 300 -> AZ x y = some (x ++ y) := fun h => AG (by rw [List.length_append] at h; omega)
 have lp : ∀ {x y : Wn}, (x ++ y).length <= 300 -> x.length <= 300 := fun h => by rw [List.length_append] at h; omega
 have p1 := lp h
 have p2 := lp p1
 have p3 := lp p2
 have p4 := lp p3
 have p5 := lp p4
 have p6 := lp p5
 have p7 := lp p6
 have p8 := lp p7
 have p9 := lp p8
 have p10 := lp p9
 have p11 := lp p10
 have p12 := lp p11
 rw [q p12, Option.bind_some, q p11, Option.bind_some, q p10, Option.bind_some, q p9, Option.bind_some, q p8, Option.bind_some, q p7, Option.bind_some, q p6, Option.bind_some, q p5, Option.bind_some, q p4, Option.bind_some, q p3, Option.bind_some, q p2, Option.bind_some, q p1, Option.bind_some, q h, Option.bind_some]
theorem L7 (o : Ac) (x : Line) (hx : Sg x) (hN : 4294967300 < N) : BW N o x = some (prL o x) := by
 unfold BW prL
 show (B8 N o x).bind _ = _
 rw [Rk o x hx hN, Option.bind_some]
 cases hv : Gj o x with
 | false => rfl
 | true =>
  have h := GX.1 hv
  rw [Bool.not_true, cond_false, if_pos rfl]
  show ((CQ N x.Minute).bind fun r38 => (Bm N o x.Sent).bind fun r46 => (Bm N o x.Got).bind fun r54 => _) = _
  have hl := Iz h
  have ht := OV o x
  have e : JB o x = [81, 83, 79, 32] ++ decDigits x.Num.toNat ++ [32] ++ decDigits x.Khz.toNat ++ [32] ++ P6 x.Mode ++ [32] ++ Kf x.Minute.toNat ++ [32] ++ x.Call ++ [32, 62, 32] ++ HO o x.Sent ++ [32, 60, 32] ++ HO o x.Got := by
   rw [<- ht, JW]
   simp [QSO]
  rw [e] at hl ⊢
  rw [Pa _ hN, OI _ _ hN, OI _ _ hN, prT h, T1 h.s, T1 h.g, Vt h.m, dI (by have := h.n; omega) (by have := h.n; omega), dI (by have := h.k; omega) (by have := h.k; omega)]
  simp only [Option.bind_some]
  rw [TD _ _ _ _ _ _ _ hl]
  rfl
theorem UW (l : Log) : hdT l 0 = [67, 65, 76, 76, 32] ++ l.Call := by
 show jn [Uu, l.Call] = _
 rw [Er (by simp), Ep]; rfl
theorem UV (l : Log) : hdT l 1 = [67, 65, 84, 69, 71, 79, 82, 89, 32] ++ decDigits l.Category.toNat := by
 show jn [Vl, decDigits l.Category.toNat] = _
 rw [Er (by simp), Ep]; rfl
theorem UU (l : Log) : hdT l 2 = [80, 79, 87, 69, 82, 32] ++ decDigits l.Power.toNat := by
 show jn [Vh, decDigits l.Power.toNat] = _
 rw [Er (by simp), Ep]; rfl
theorem UT (l : Log) : hdT l 3 = [67, 76, 65, 73, 77, 69, 68, 32] ++ decDigits l.Claimed.toNat := by
 show jn [Vk, decDigits l.Claimed.toNat] = _
 rw [Er (by simp), Ep]; rfl
def Ob (l : List Int) : Wn := l.flatMap fun n => 32 :: decDigits n.toNat
theorem Vw (l : Log) : hdT l 4 = [74, 85, 77, 80, 83] ++ Ob l.Jumps := by
 show jn (Vi :: l.Jumps.map fun n => decDigits n.toNat) = _
 rw [JW, List.flatMap_map]
 rfl
theorem R8 (l : List Int) (i : Nat) (hi : i < l.length) : Ob (l.take (i + 1)) = Ob (l.take i) ++ 32 :: decDigits l[i].toNat := by
 unfold Ob
 rw [List.take_add_one, List.getElem?_eq_getElem hi, List.flatMap_append]
 simp
structure VL (o : Ac) (l : Log) : Prop where
 h : Nv l = true
 j : l.Jumps.length <= 16
 n : l.Lines.length <= 400
 ok : ∀ i, i < l.Lines.length -> Pn o l.Lines i = true
theorem Ti {o : Ac} {l : Log} : (chk o l).1 = 0 ↔ VL o l := by
 unfold chk
 constructor
 ·intro h
  split at h
  ·cases h
  ·rename_i h1
   split at h
   ·cases h
   ·rename_i h2
    rw [Bool.not_eq_false] at h2
    cases hf : Hz o l.Lines with
    | some k => rw [hf] at h; cases h
    | none => exact ⟨h2, by omega, by omega, Qr hf⟩
 ·intro h
  rw [if_neg (by have := h.j; have := h.n; omega), if_neg (by rw [h.h]; decide)]
  cases hf : Hz o l.Lines with
  | some k =>
   obtain ⟨h1, h2, _⟩ := Qq hf
   rw [h.ok k h1] at h2; cases h2
  | none => rfl
theorem VL.line {o : Ac} {l : Log} (h : VL o l) {x : Line} (hx : x ∈ l.Lines) : Gj o x = true := by
 obtain ⟨i, hi, rfl⟩ := List.mem_iff_getElem.1 hx
 have := h.ok i hi
 unfold Pn at this
 rw [List.getElem?_eq_getElem hi] at this
 simp only [Bool.and_eq_true] at this
 exact this.1
theorem VL.hd {o : Ac} {l : Log} (h : VL o l) : EH l.Call = true /\ (1 <= l.Category /\ l.Category <= 9) /\ (1 <= l.Power /\ l.Power <= 9999) /\ (0 <= l.Claimed /\ l.Claimed <= 1000000) /\ Kv l.Jumps = true := by
 have := h.h
 unfold Nv at this
 simp only [Bool.and_eq_true] at this
 obtain ⟨a, b, c, d, e⟩ := this
 exact ⟨a, by simpa [hdV] using b, by simpa [hdV] using c, by simpa [hdV] using d, e⟩
theorem IF {n : Int} (h0 : 0 <= n) (h : n <= 1000000) : (decDigits n.toNat).length <= 7 := JX 6 n.toNat (by omega)
theorem Ns : ∀ {l : List Int}, (∀ n, n ∈ l -> 1 <= n /\ n <= 20000) -> (Ob l).length <= l.length * 8
 | [], _ => by simp [Ob]
 | n :: l, h => by
  have ih := Ns (l := l) fun n hn => h n (by simp [hn])
  have := h n (by simp)
  have := IF (n := n) (by omega) (by omega)
  unfold Ob at ih ⊢
  rw [List.flatMap_cons, List.length_append, List.length_cons, List.length_cons]
  omega
theorem NS {s : Wn} (h : EH s = true) : s.length <= 16 := by
 unfold EH callB at h
 by_cases hl : s.length <= 16
 ·exact hl
 ·rw [if_neg hl] at h; cases h
theorem Nr (x0 : Log) (hv : Kv x0.Jumps = true) (hN : 4294967300 < N) {ρ : Type} {body : (Wn × Int) -> Option (A4 ρ (Wn × Int))}
  (hb : ∀ s : Wn × Int, body s = (bif (decide (s.2 < (x0.Jumps.length : Int))) then ((idx x0.Jumps s.2).bind fun x51 => ((strconv_Itoa N x51).bind fun r65 => ((AZ ([32] : Wn) r65).bind fun r73 => ((AZ s.1 r73).bind fun r76 => some (.next (r76, (W64 (s.2 + 1)))))))) else some (.done (s.1, s.2)))) :
  AJ body N (([74, 85, 77, 80, 83] : Wn), 0) = some (.done (hdT x0 4, (x0.Jumps.length : Int))) := by
 have hj := RA hv
 have hjl : x0.Jumps.length <= 16 := by
  unfold Kv at hv; simp only [Bool.and_eq_true, decide_eq_true_eq] at hv; exact hv.2.2
 have := Hx (N := N) (body := body) (fun i => ([74, 85, 77, 80, 83] ++ Ob (x0.Jumps.take i), (i : Int))) (o := .done (hdT x0 4, (x0.Jumps.length : Int))) x0.Jumps.length (fun i hi => by
  rw [hb]
  simp only
  have hm := hj _ (List.getElem_mem hi)
  have hd := IF (n := x0.Jumps[i]) (by omega) (by omega)
  have hl := Ns (l := x0.Jumps.take i) fun n hn => hj n (List.mem_of_mem_take hn)
  have hl2 : (Ob (x0.Jumps.take i)).length <= 16 * 8 := Nat.le_trans hl (Nat.mul_le_mul_right _ (by simp; omega))
  rw [DC hi, cond_true, CM hi, Option.bind_some, dI (by omega) (by omega), Option.bind_some, AG (by simp; omega), Option.bind_some, AG (by simp; omega), Option.bind_some, FJ i (by omega), R8 _ _ hi]
  simp) (by
  rw [hb]
  simp only
  rw [Cs, cond_false, List.take_length, Vw]) (fun _ h => by cases h) (by omega)
 simpa [Ob] using this
theorem SU (l : Log) (hv : Kv l.Jumps = true) (hN : 4294967300 < N) : DU N l = some (hdT l 4) := by
 unfold DU
 rw [Nr l hv hN (fun s => by unfold DY; rfl)]; rfl
theorem S6 {o : Ac} {l : Log} (h : VL o l) : (hdT l 0).length <= 40 /\ (hdT l 1).length <= 40 /\ (hdT l 2).length <= 40 /\ (hdT l 3).length <= 40 /\ (hdT l 4).length <= 140 := by
 obtain ⟨h0, h1, h2, h3, h4⟩ := h.hd
 have a0 := NS h0
 have a1 := IF (n := l.Category) (by omega) (by omega)
 have a2 := IF (n := l.Power) (by omega) (by omega)
 have a3 := IF (n := l.Claimed) (by omega) (by omega)
 have a4 := Ns (RA h4)
 have a5 := h.j
 rw [UW, UV, UU, UT, Vw]
 simp only [List.length_append, List.length_cons, List.length_nil]
 omega
theorem RW {o : Ac} {l : Log} (h : VL o l) (hN : 4294967300 < N) : ET N l = some [hdT l 0, hdT l 1, hdT l 2, hdT l 3, hdT l 4] := by
 obtain ⟨h0, h1, h2, h3, h4⟩ := h.hd
 have a0 := NS h0
 have a1 := IF (n := l.Category) (by omega) (by omega)
 have a2 := IF (n := l.Power) (by omega) (by omega)
 have a3 := IF (n := l.Claimed) (by omega) (by omega)
 unfold ET
 rw [Nr l h4 hN (fun s => by unfold EI; rfl), Option.bind_some]
 show (((AZ ([67, 65, 76, 76, 32] : Wn) l.Call).bind _).bind _) = _
 rw [AG (by simp; omega), Option.bind_some, dI (by omega) (by omega), Option.bind_some, AG (by simp; omega), Option.bind_some, dI (by omega) (by omega), Option.bind_some, AG (by simp; omega), Option.bind_some, dI (by omega) (by omega), Option.bind_some, AG (by simp; omega), Option.bind_some, UW, UV, UU, UT]
 rfl
def D8 (o : Ac) (ls : List Line) : Wn := ls.flatMap fun x => JB o x ++ [10]
theorem N0 (o : Ac) (l : List Line) (i : Nat) (hi : i < l.length) : D8 o (l.take (i + 1)) = D8 o (l.take i) ++ (JB o l[i] ++ [10]) := by
 unfold D8
 rw [List.take_add_one, List.getElem?_eq_getElem hi, List.flatMap_append]
 simp
theorem Hk {o : Ac} : ∀ {l : List Line}, (∀ x, x ∈ l -> Gj o x = true) -> (D8 o l).length <= l.length * 301
 | [], _ => by simp [D8]
 | x :: l, h => by
  have ih := Hk (l := l) fun y hy => h y (by simp [hy])
  have := Iz (GX.1 (h x (by simp)))
  unfold D8 at ih ⊢
  rw [List.flatMap_cons, List.length_append, List.length_append, List.length_cons, List.length_cons, List.length_nil]
  omega
theorem Rx (o : Ac) (l : Log) : UP o l = hdT l 0 ++ [10] ++ (hdT l 1 ++ [10]) ++ (hdT l 2 ++ [10]) ++ (hdT l 3 ++ [10]) ++ (hdT l 4 ++ [10]) ++ D8 o l.Lines ++ [69, 78, 68, 10] := by
 unfold UP Vr D8
 rw [List.flatMap_append, List.flatMap_append, List.flatMap_map]
 simp [Vj]
def prG (o : Ac) (l : Log) : Wn × Int := if (chk o l).1 = 0 then (UP o l, 0) else ([], (chk o l).1)
theorem SS (a : Int) : (a != 0) = !decide (a = 0) := by
 by_cases h : a = 0
 ·subst h; rfl
 ·rw [decide_eq_false h]; simpa using h
theorem Uh (o : Ac) (l : Log) (hl : Sn l) (hN : 4294967300 < N) : EM N o l = some (prG o l) := by
 unfold EM prG
 show (D0 N o l).bind _ = _
 rw [Ui o l hl hN, Option.bind_some, SS]
 by_cases hc : (chk o l).1 = 0
 ·rw [decide_eq_true hc, if_pos hc, Bool.not_true, cond_false]
  have h := Ti.1 hc
  obtain ⟨h0, h1, h2, h3, h4⟩ := h.hd
  have a0 := NS h0
  have a1 := IF (n := l.Category) (by omega) (by omega)
  have a2 := IF (n := l.Power) (by omega) (by omega)
  have a3 := IF (n := l.Claimed) (by omega) (by omega)
  obtain ⟨b0, b1, b2, b3, b4⟩ := S6 h
  have e0 : Fx N l = some (hdT l 0) := by
   unfold Fx; rw [AG (by simp; omega), UW]; rfl
  have e1 : Dr N l ([67, 65, 84, 69, 71, 79, 82, 89] : Wn) = some (hdT l 1) := by
   unfold Dr
   rw [AG (by simp), Option.bind_some, dI (by omega) (by omega), Option.bind_some, AG (by simp; omega), UV]; rfl
  have e2 : Dp N l ([80, 79, 87, 69, 82] : Wn) = some (hdT l 2) := by
   unfold Dp
   rw [AG (by simp), Option.bind_some, dI (by omega) (by omega), Option.bind_some, AG (by simp; omega), UU]; rfl
  have e3 : Dq N l ([67, 76, 65, 73, 77, 69, 68] : Wn) = some (hdT l 3) := by
   unfold Dq
   rw [AG (by simp), Option.bind_some, dI (by omega) (by omega), Option.bind_some, AG (by simp; omega), UT]; rfl
  rw [e0, Option.bind_some, AG (by simp; omega), Option.bind_some, HL (by simp; omega), Option.bind_some, e1, Option.bind_some, AG (by simp; omega), Option.bind_some, HL (by simp; omega), Option.bind_some, e2, Option.bind_some, AG (by simp; omega), Option.bind_some, HL (by simp; omega), Option.bind_some, e3, Option.bind_some, AG (by simp; omega), Option.bind_some, HL (by simp; omega), Option.bind_some, SU l h4 hN, Option.bind_some, AG (by simp; omega), Option.bind_some, HL (by simp; omega), Option.bind_some]
  have key : ∀ T0 : Wn, T0.length <= 1000 -> ∀ {body : (Int × Wn) -> Option (A4 (Wn × Int) (Int × Wn))}, (∀ s : Int × Wn, body s = (bif (decide (s.1 < (l.Lines.length : Int))) then ((idx l.Lines s.1).bind fun x207 => ((BR N o x207).bind fun r226 => ((AZ r226.1 ([10] : Wn)).bind fun r234 => ((HM s.2 r234).bind fun t240 => some (.next ((W64 (s.1 + 1)), t240)))))) else some (.done (s.1, s.2)))) ->
    AJ body N (0, T0) = some (.done ((l.Lines.length : Int), T0 ++ D8 o l.Lines)) := by
   intro T0 hT body hb
   have := Hx (N := N) (body := body) (fun i => ((i : Int), T0 ++ D8 o (l.Lines.take i))) (o := .done ((l.Lines.length : Int), T0 ++ D8 o l.Lines)) l.Lines.length (fun i hi => by
    rw [hb]
    simp only
    have hm : l.Lines[i] ∈ l.Lines := List.getElem_mem hi
    have hv := h.line hm
    have hll := Iz (GX.1 hv)
    have hbl := Hk (o := o) (l := l.Lines.take i) fun x hx => h.line (List.mem_of_mem_take hx)
    have hbl2 : (D8 o (l.Lines.take i)).length <= 400 * 301 := Nat.le_trans hbl (Nat.mul_le_mul_right _ (by have := h.n; simp; omega))
    rw [DC hi, cond_true, CM hi, Option.bind_some, Mc o _ (hl.x _ hm) hN, Option.bind_some]
    unfold prL
    rw [if_pos hv, AG (by simp; omega), Option.bind_some, HL (by simp; omega), Option.bind_some, FJ i (by have := hl.n; omega), N0 _ _ _ hi, List.append_assoc]) (by
    rw [hb]
    simp only
    rw [Cs, cond_false, List.take_length]) (fun _ h => by cases h) (by have := hl.n; omega)
   simpa [D8] using this
  rw [key _ (by simp; omega) (fun s => by unfold GJ; rfl), Option.bind_some]
  have hbl := Hk (o := o) (l := l.Lines) fun x hx => h.line hx
  have hbl2 : (D8 o l.Lines).length <= 400 * 301 := Nat.le_trans hbl (Nat.mul_le_mul_right _ h.n)
  show ((HM _ ([69, 78, 68, 10] : Wn)).bind _) = _
  rw [HL (by simp; omega), Option.bind_some, Rx]
  simp
 ·rw [decide_eq_false hc, if_neg hc]; rfl
theorem TV (o : Ac) (l : Log) (hl : Sn l) (hN : 4294967300 < N) : E6 N o l = some (prG o l) := by
 unfold E6 prG
 show (E7 N o l).bind _ = _
 rw [TW o l hl hN, Option.bind_some, SS]
 by_cases hc : (chk o l).1 = 0
 ·rw [decide_eq_true hc, if_pos hc, Bool.not_true, cond_false]
  have h := Ti.1 hc
  obtain ⟨b0, b1, b2, b3, b4⟩ := S6 h
  rw [RW h hN, Option.bind_some]
  have k0 : ∀ {body : (Wn × Int) -> Option (A4 (Wn × Int) (Wn × Int))}, (∀ s : Wn × Int, body s = (bif (decide (s.2 < (([hdT l 0, hdT l 1, hdT l 2, hdT l 3, hdT l 4] : List Wn).length : Int))) then ((idx [hdT l 0, hdT l 1, hdT l 2, hdT l 3, hdT l 4] s.2).bind fun x76 => ((AZ x76 ([10] : Wn)).bind fun r90 => ((AZ s.1 r90).bind fun r93 => some (.next (r93, (W64 (s.2 + 1))))))) else some (.done (s.1, s.2)))) ->
    AJ body N (([] : Wn), 0) = some (.done (hdT l 0 ++ [10] ++ (hdT l 1 ++ [10]) ++ (hdT l 2 ++ [10]) ++ (hdT l 3 ++ [10]) ++ (hdT l 4 ++ [10]), 5)) := by
   intro body hb
   obtain ⟨M, rfl⟩ : ∃ M, N = M + 6 := ⟨N - 6, by omega⟩
   have st : ∀ (i : Nat) (T x : Wn) , ([hdT l 0, hdT l 1, hdT l 2, hdT l 3, hdT l 4] : List Wn)[i]? = some x -> T.length <= 1000 -> x.length <= 140 -> body (T, (i : Int)) = some (.next (T ++ (x ++ [10]), ((i + 1 : Nat) : Int))) := by
    intro i T x hx hT hxl
    have hi : i < 5 := by
     rcases Nat.lt_or_ge i 5 with h' | h'
     ·exact h'
     ·rw [List.getElem?_eq_none (by simpa using h')] at hx; cases hx
    rw [hb]
    simp only
    rw [show decide ((i : Int) < (([hdT l 0, hdT l 1, hdT l 2, hdT l 3, hdT l 4] : List Wn).length : Int)) = true by simp; omega, cond_true, S5, hx, Option.bind_some, AG (by simp; omega), Option.bind_some, AG (by simp; omega), Option.bind_some, FJ i (by omega)]
   have z0 := st 0 [] _ rfl (by simp) (by omega)
   have z1 := st 1 _ _ rfl (show ([] ++ (hdT l 0 ++ [10])).length <= 1000 by simp; omega) (by omega)
   have z2 := st 2 _ _ rfl (show ([] ++ (hdT l 0 ++ [10]) ++ (hdT l 1 ++ [10])).length <= 1000 by simp; omega) (by omega)
   have z3 := st 3 _ _ rfl (show ([] ++ (hdT l 0 ++ [10]) ++ (hdT l 1 ++ [10]) ++ (hdT l 2 ++ [10])).length <= 1000 by simp; omega) (by omega)
   have z4 := st 4 _ _ rfl (show ([] ++ (hdT l 0 ++ [10]) ++ (hdT l 1 ++ [10]) ++ (hdT l 2 ++ [10]) ++ (hdT l 3 ++ [10])).length <= 1000 by simp; omega) (by omega)
   have z5 : body ([] ++ (hdT l 0 ++ [10]) ++ (hdT l 1 ++ [10]) ++ (hdT l 2 ++ [10]) ++ (hdT l 3 ++ [10]) ++ (hdT l 4 ++ [10]), ((5 : Nat) : Int)) = some (.done ([] ++ (hdT l 0 ++ [10]) ++ (hdT l 1 ++ [10]) ++ (hdT l 2 ++ [10]) ++ (hdT l 3 ++ [10]) ++ (hdT l 4 ++ [10]), ((5 : Nat) : Int))) := by
    rw [hb]; rfl
   rw [show (([] : Wn), (0 : Int)) = ([], ((0 : Nat) : Int)) from rfl, AJ, z0]
   simp only
   rw [AJ, z1]
   simp only
   rw [AJ, z2]
   simp only
   rw [AJ, z3]
   simp only
   rw [AJ, z4]
   simp only
   rw [AJ, z5]
   simp
  rw [k0 (fun s => by unfold FM; rfl), Option.bind_some]
  have key : ∀ T0 : Wn, T0.length <= 1000 -> ∀ {body : (Wn × Int) -> Option (A4 (Wn × Int) (Wn × Int))}, (∀ s : Wn × Int, body s = (bif (decide (s.2 < (l.Lines.length : Int))) then (((idx l.Lines s.2).bind fun x140 => ((BW N o x140).bind fun r154 => some r154.1)).bind fun j131 => ((AZ j131 ([10] : Wn)).bind fun r162 => ((AZ s.1 r162).bind fun r165 => some (.next (r165, (W64 (s.2 + 1))))))) else some (.done (s.1, s.2)))) ->
    AJ body N (T0, 0) = some (.done (T0 ++ D8 o l.Lines, (l.Lines.length : Int))) := by
   intro T0 hT body hb
   have := Hx (N := N) (body := body) (fun i => (T0 ++ D8 o (l.Lines.take i), (i : Int))) (o := .done (T0 ++ D8 o l.Lines, (l.Lines.length : Int))) l.Lines.length (fun i hi => by
    rw [hb]
    simp only
    have hm : l.Lines[i] ∈ l.Lines := List.getElem_mem hi
    have hv := h.line hm
    have hll := Iz (GX.1 hv)
    have hbl := Hk (o := o) (l := l.Lines.take i) fun x hx => h.line (List.mem_of_mem_take hx)
    have hbl2 : (D8 o (l.Lines.take i)).length <= 400 * 301 := Nat.le_trans hbl (Nat.mul_le_mul_right _ (by have := h.n; simp; omega))
    rw [DC hi, cond_true, CM hi, Option.bind_some, L7 o _ (hl.x _ hm) hN, Option.bind_some]
    unfold prL
    rw [if_pos hv, Option.bind_some, AG (by simp; omega), Option.bind_some, AG (by simp; omega), Option.bind_some, FJ i (by have := hl.n; omega), N0 _ _ _ hi, List.append_assoc]) (by
    rw [hb]
    simp only
    rw [Cs, cond_false, List.take_length]) (fun _ h => by cases h) (by have := hl.n; omega)
   simpa [D8] using this
  show (((AJ _ N (_, 0)).bind _)) = _
  rw [key _ (by simp; omega) (fun s => by unfold FL; rfl), Option.bind_some]
  have hbl := Hk (o := o) (l := l.Lines) fun x hx => h.line hx
  have hbl2 : (D8 o l.Lines).length <= 400 * 301 := Nat.le_trans hbl (Nat.mul_le_mul_right _ h.n)
  show ((AZ _ ([69, 78, 68, 10] : Wn)).bind _) = _
  rw [AG (by simp; omega), Option.bind_some, Rx]
 ·rw [decide_eq_false hc, if_neg hc]; rfl
theorem Pk (o : Ac) (l : Log) (hN : 4294967300 < N) : Dw N o l = some true := by
 unfold Dw
 obtain ⟨b, hb, hf⟩ := U2 l hN
 rw [hb, show IA N = some true from rfl]
 simp only [Option.bind_some]
 cases b with
 | false => rfl
 | true =>
  have hf := hf rfl
  rw [Bool.not_true, cond_false]
  have hl := R7 (N := N) (body := BX N o l true true) (min l.Lines.length 60) (fun i hi => by
   unfold BX
   rw [RH, decide_eq_true hi, cond_true, CM (by omega)]
   have hx := hf.fit.x _ (List.getElem_mem (show i < l.Lines.length by omega))
   simp only [Option.bind_some]
   show ((((BR N o _).bind fun r114 => some (r114.1, r114.2)).bind fun j90 => (((BW N o _).bind fun r153 => some (r153.1, r153.2))).bind fun j127 => _)) = _
   rw [Mc o _ hx hN, L7 o _ hx hN]
   simp only [Option.bind_some, bne_self_eq_false, Bool.or_self, cond_false]
   rw [FJ i (by omega)]) (by
   unfold BX
   rw [RH, decide_eq_false (by omega), cond_false]) (by omega)
  rw [hl, Option.bind_some]
  show ((EM N o l).bind fun r177 => (E6 N o l).bind fun r185 => some (true && ((r177.1 == r185.1) && (r177.2 == r185.2)))) = _
  rw [Uh o l hf.fit hN, TV o l hf.fit hN]
  simp only [Option.bind_some, beq_self_eq_true, Bool.and_self]
end
theorem QM (x0 : Ac) (x1 : Log) {P Q : Prop} (_ : P) (_ : Q) : Dw 9223372036854775808 x0 x1 = some true := Pk x0 x1 (by decide)
end
end Go.Proofs.YthljkpeimofbbaaGreatDoor
