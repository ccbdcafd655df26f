/- Lemmas of the claim LogsBack, printed by a program of the claimant and by hand. No statement of the seat is proved here. -/
import Derived.Test.YthljkpeimofbbaaGreatDoorE11x3
set_option linter.unusedVariables false
set_option linter.unusedSimpArgs false
set_option linter.unusedSectionVars false
set_option maxHeartbeats 4000000
set_option maxRecDepth 100000
namespace Go.Proofs.YthljkpeimofbbaaGreatDoor
def AQ (N : Nat) (x0 : Ai) (x1 : WE) : Option (Ai × Bool × Bool) :=
 (bif x0.ended_ then some (x0, false, false) else (bif (decide (x0.done_ < 5)) then ((bif (decide (x0.done_ = 0)) then ((Eg N x0 x1).bind fun r41 => some (r41.2, r41.1.o_.Report, r41.1.o_.Serial, r41.1.o_.Zone, r41.1.l_.Call, r41.1.l_.Category, r41.1.l_.Power, r41.1.l_.Claimed, r41.1.l_.Jumps, r41.1.l_.Lines, r41.1.done_, r41.1.ended_)) else (bif (decide (x0.done_ = 1)) then ((C4 N x0 x1 ([67, 65, 84, 69, 71, 79, 82, 89] : WE) 1 9).bind fun r51 => some (r51.2, r51.1.o_.Report, r51.1.o_.Serial, r51.1.o_.Zone, r51.1.l_.Call, r51.1.l_.Category, r51.1.l_.Power, r51.1.l_.Claimed, r51.1.l_.Jumps, r51.1.l_.Lines, r51.1.done_, r51.1.ended_)) else (bif (decide (x0.done_ = 2)) then ((C2 N x0 x1 ([80, 79, 87, 69, 82] : WE) 1 9999).bind fun r61 => some (r61.2, r61.1.o_.Report, r61.1.o_.Serial, r61.1.o_.Zone, r61.1.l_.Call, r61.1.l_.Category, r61.1.l_.Power, r61.1.l_.Claimed, r61.1.l_.Jumps, r61.1.l_.Lines, r61.1.done_, r61.1.ended_)) else (bif (decide (x0.done_ = 3)) then ((C3 N x0 x1 ([67, 76, 65, 73, 77, 69, 68] : WE) 0 1000000).bind fun r71 => some (r71.2, r71.1.o_.Report, r71.1.o_.Serial, r71.1.o_.Zone, r71.1.l_.Call, r71.1.l_.Category, r71.1.l_.Power, r71.1.l_.Claimed, r71.1.l_.Jumps, r71.1.l_.Lines, r71.1.done_, r71.1.ended_)) else (bif (decide (x0.done_ = 4)) then ((DU N x0 x1).bind fun r81 => some (r81.2, r81.1.o_.Report, r81.1.o_.Serial, r81.1.o_.Zone, r81.1.l_.Call, r81.1.l_.Category, r81.1.l_.Power, r81.1.l_.Claimed, r81.1.l_.Jumps, r81.1.l_.Lines, r81.1.done_, r81.1.ended_)) else none))))).bind fun j32 => ((bif j32.1 then some (W64 (j32.2.2.2.2.2.2.2.2.2.2.1 + 1)) else some j32.2.2.2.2.2.2.2.2.2.2.1).bind fun j91 => some (({ o_ := ({ Report := j32.2.1, Serial := j32.2.2.1, Zone := j32.2.2.2.1 } : Ac), l_ := ({ Call := j32.2.2.2.2.1, Category := j32.2.2.2.2.2.1, Power := j32.2.2.2.2.2.2.1, Claimed := j32.2.2.2.2.2.2.2.1, Jumps := j32.2.2.2.2.2.2.2.2.1, Lines := j32.2.2.2.2.2.2.2.2.2.1 } : Log), done_ := j91, ended_ := j32.2.2.2.2.2.2.2.2.2.2.2 } : Ai), j32.1, false))) else (bif (x1 == ([69, 78, 68] : WE)) then some (({ o_ := ({ Report := x0.o_.Report, Serial := x0.o_.Serial, Zone := x0.o_.Zone } : Ac), l_ := x0.l_, done_ := x0.done_, ended_ := true } : Ai), true, false) else ((Dd N ({ Report := x0.o_.Report, Serial := x0.o_.Serial, Zone := x0.o_.Zone } : Ac) x1).bind fun r106 => ((bif (decide ((x0.l_.Lines.length : Int) > 0)) then ((idx x0.l_.Lines (W64 ((x0.l_.Lines.length : Int) - 1))).bind fun x134 => (bif (decide (r106.1.Num <= x134.Num)) then some true else ((idx x0.l_.Lines (W64 ((x0.l_.Lines.length : Int) - 1))).bind fun x149 => (bif (decide (r106.1.Minute < x149.Minute)) then some true else some (r106.2 != 0))))) else some (r106.2 != 0)).bind fun j124 => (bif j124 then some (x0, false, false) else (bif ((x0.l_.Lines.length : Int) == 400) then some (x0, false, true) else (((D3 x0.l_.Lines [r106.1]).bind fun r183 => some r183).bind fun j174 => some (({ o_ := ({ Report := x0.o_.Report, Serial := x0.o_.Serial, Zone := x0.o_.Zone } : Ac), l_ := ({ Call := x0.l_.Call, Category := x0.l_.Category, Power := x0.l_.Power, Claimed := x0.l_.Claimed, Jumps := x0.l_.Jumps, Lines := j174 } : Log), done_ := x0.done_, ended_ := x0.ended_ } : Ai), true, false)))))))))
theorem Ia : Af Tryz.prog 106 := fun _ _ => by kernel_rfl
theorem IQ (N : Nat) {wb w0 : World} {Fb F0 : Mem} {Lf : Own} (hG : Bz F0) (bp0 : Nat) (x0 : Ai) (a0_7 : WF) (n0_7 : Nat) (tb0_9_0 : Nat) (tb0_9_1 : Nat) (tb0_9_2 : Nat) (tb0_9_3 : Nat) (tb0_9_4 : Nat) (tb0_9_5 : Nat) (tb0_9_6 : Nat) (tb0_9_7 : Nat) (tb0_9_8 : Nat) (tb0_9_9 : Nat) (tb0_9_10 : Nat) (tb0_9_11 : Nat) (a0_8 : WF) (n0_8 : Nat) (e0_8 : Option Nat × Obj) (hb0_7 : LC x0.l_.Jumps.length n0_7) (hs0_7 : SlA AD F0 a0_7 x0.l_.Jumps) (htb0_9_0 : F0 tb0_9_0 = some (oc #[(sv (([67, 65, 84, 69, 71, 79, 82, 89] : WE)))] 9)) (htb0_9_1 : F0 tb0_9_1 = some (oc #[(vi 1)] 3)) (htb0_9_2 : F0 tb0_9_2 = some (oc #[(vi 9)] 3)) (htb0_9_3 : F0 tb0_9_3 = some (oc #[(fV 156 #[])] 195)) (htb0_9_4 : F0 tb0_9_4 = some (oc #[(sv (([80, 79, 87, 69, 82] : WE)))] 9)) (htb0_9_5 : F0 tb0_9_5 = some (oc #[(vi 1)] 3)) (htb0_9_6 : F0 tb0_9_6 = some (oc #[(vi 9999)] 3)) (htb0_9_7 : F0 tb0_9_7 = some (oc #[(fV 157 #[])] 195)) (htb0_9_8 : F0 tb0_9_8 = some (oc #[(sv (([67, 76, 65, 73, 77, 69, 68] : WE)))] 9)) (htb0_9_9 : F0 tb0_9_9 = some (oc #[(vi 0)] 3)) (htb0_9_10 : F0 tb0_9_10 = some (oc #[(vi 1000000)] 3)) (htb0_9_11 : F0 tb0_9_11 = some (oc #[(fV 158 #[])] 195)) (hr0_8 : Av AC 34 F0 a0_8 n0_8 x0.l_.Lines e0_8) (x1 : WE) (hs0 : HS wb Fb w0 F0 ((sb bp0 #[(.bool x0.o_.Report), (.bool x0.o_.Serial), (.bool x0.o_.Zone), (sv x0.l_.Call), (vi x0.l_.Category), (vi x0.l_.Power), (vi x0.l_.Claimed), (.slice a0_7 x0.l_.Jumps.length n0_7), (.slice a0_8 x0.l_.Lines.length n0_8), (fV 153 #[]), (fV 154 #[]), (fV 190 #[(pt tb0_9_0 0), (pt tb0_9_1 0), (pt tb0_9_2 0), (pt tb0_9_3 0)]), (fV 191 #[(pt tb0_9_0 0), (pt tb0_9_3 0)]), (fV 190 #[(pt tb0_9_4 0), (pt tb0_9_5 0), (pt tb0_9_6 0), (pt tb0_9_7 0)]), (fV 191 #[(pt tb0_9_4 0), (pt tb0_9_7 0)]), (fV 190 #[(pt tb0_9_8 0), (pt tb0_9_9 0), (pt tb0_9_10 0), (pt tb0_9_11 0)]), (fV 191 #[(pt tb0_9_8 0), (pt tb0_9_11 0)]), (fV 159 #[]), (fV 160 #[]), (vi x0.done_), (.bool x0.ended_)] 130) :: e0_8 :: Lf)) (r : (Ai × Bool × Bool)) (h : AQ N x0 x1 = some r) :
  Calls Tryz.prog 106 ([(pt bp0 0), (sv x1)] : List Value).toArray w0 (EE wb Fb F0 fun F' v L' => ∃ (aq0_7 : WF) (nq0_7 : Nat) (aq0_8 : WF) (nq0_8 : Nat) (eq0_8 : Option Nat × Obj), v = (.tuple #[(.bool r.2.1), (.bool r.2.2)]) /\ L' = (sb bp0 #[(.bool r.1.o_.Report), (.bool r.1.o_.Serial), (.bool r.1.o_.Zone), (sv r.1.l_.Call), (vi r.1.l_.Category), (vi r.1.l_.Power), (vi r.1.l_.Claimed), (.slice aq0_7 r.1.l_.Jumps.length nq0_7), (.slice aq0_8 r.1.l_.Lines.length nq0_8), (fV 153 #[]), (fV 154 #[]), (fV 190 #[(pt tb0_9_0 0), (pt tb0_9_1 0), (pt tb0_9_2 0), (pt tb0_9_3 0)]), (fV 191 #[(pt tb0_9_0 0), (pt tb0_9_3 0)]), (fV 190 #[(pt tb0_9_4 0), (pt tb0_9_5 0), (pt tb0_9_6 0), (pt tb0_9_7 0)]), (fV 191 #[(pt tb0_9_4 0), (pt tb0_9_7 0)]), (fV 190 #[(pt tb0_9_8 0), (pt tb0_9_9 0), (pt tb0_9_10 0), (pt tb0_9_11 0)]), (fV 191 #[(pt tb0_9_8 0), (pt tb0_9_11 0)]), (fV 159 #[]), (fV 160 #[]), (vi r.1.done_), (.bool r.1.ended_)] 130) :: eq0_8 :: Lf /\ LC r.1.l_.Jumps.length nq0_7 /\ SlA AD F' aq0_7 r.1.l_.Jumps /\ Av AC 34 F' aq0_8 nq0_8 r.1.l_.Lines eq0_8) := by
 refine Go 120 Tryz.func106 <| Sq (Rg [0, 1] ?_)
 refine Vs 2 <| Nss <| Bk <| Sq (Rg (rG 5) ?_)
 refine Vs 3 <| Ld hs0.at0 <| Vs 1 <| Nt <| Cd h (fun hb21 h22 => ?_) (fun hb21 h23 => ?_)
 ·refine Sq (Rg [0, 1] ?_)
  refine Vs 2 <| Nt <| Rt <| Ax <| Ae ?_
  obtain rfl := Aa h22
  exact ReB [(.bool false), (.bool false)] hs0 (Wk _) ⟨a0_7, n0_7, a0_8, n0_8, e0_8, rfl, rfl, hb0_7, hs0_7, hr0_8⟩
 ·refine Sq (Rg (rG 6) ?_)
  refine Vs 3 <| Ld hs0.at0 <| Vs 2 <| Nt <| Cd h23 (fun hb24 h25 => ?_) (fun hb24 h26 => ?_)
  ·refine Sq ?_
   refine Sq ?_
   obtain ⟨j32, hj36, h37⟩ := bind_some h25
   refine RD 16 16 [] [] hs0 (fun f w => ∃ (F1 : Mem) (aj32_8 : WF) (nj32_8 : Nat) (aj32_9 : WF) (nj32_9 : Nat) (ej32_9 : Option Nat × Obj), HS wb Fb w F1 ((sb bp0 #[(.bool j32.2.1), (.bool j32.2.2.1), (.bool j32.2.2.2.1), (sv j32.2.2.2.2.1), (vi j32.2.2.2.2.2.1), (vi j32.2.2.2.2.2.2.1), (vi j32.2.2.2.2.2.2.2.1), (.slice aj32_8 j32.2.2.2.2.2.2.2.2.1.length nj32_8), (.slice aj32_9 j32.2.2.2.2.2.2.2.2.2.1.length nj32_9), (fV 153 #[]), (fV 154 #[]), (fV 190 #[(pt tb0_9_0 0), (pt tb0_9_1 0), (pt tb0_9_2 0), (pt tb0_9_3 0)]), (fV 191 #[(pt tb0_9_0 0), (pt tb0_9_3 0)]), (fV 190 #[(pt tb0_9_4 0), (pt tb0_9_5 0), (pt tb0_9_6 0), (pt tb0_9_7 0)]), (fV 191 #[(pt tb0_9_4 0), (pt tb0_9_7 0)]), (fV 190 #[(pt tb0_9_8 0), (pt tb0_9_9 0), (pt tb0_9_10 0), (pt tb0_9_11 0)]), (fV 191 #[(pt tb0_9_8 0), (pt tb0_9_11 0)]), (fV 159 #[]), (fV 160 #[]), (vi j32.2.2.2.2.2.2.2.2.2.2.1), (.bool j32.2.2.2.2.2.2.2.2.2.2.2)] 130) :: ej32_9 :: Lf) /\ Wj F0 F1 /\ FI f [] [(0, (pt bp0 0)), (4, (.bool j32.1))] /\ LC j32.2.2.2.2.2.2.2.2.1.length nj32_8 /\ SlA AD F1 aj32_8 j32.2.2.2.2.2.2.2.2.1 /\ Av AC 34 F1 aj32_9 nj32_9 j32.2.2.2.2.2.2.2.2.2.1 ej32_9) (fun wd27 hw28 => ?_) ?_
   ·refine Dv [0, 1, 2, 3, 5, 6, 10, 11, 12, 13] ?_
    refine D1 4 <| Wt (l' := [true, true, true, true, true, true, true, false, false, false, true, true, true, true, false, false]) (zd := true) (by kernel_rfl) (by kernel_rfl) (dst := (some 24)) (ty := 3) (g := none) (by kernel_rfl) rfl (BF (t := 3) (x := (.tmp 23)) (b := bp0) (o := 19) (g := false) (s := 1) (C := #[(.bool x0.o_.Report), (.bool x0.o_.Serial), (.bool x0.o_.Zone), (sv x0.l_.Call), (vi x0.l_.Category), (vi x0.l_.Power), (vi x0.l_.Claimed), (.slice a0_7 x0.l_.Jumps.length n0_7), (.slice a0_8 x0.l_.Lines.length n0_8), (fV 153 #[]), (fV 154 #[]), (fV 190 #[(pt tb0_9_0 0), (pt tb0_9_1 0), (pt tb0_9_2 0), (pt tb0_9_3 0)]), (fV 191 #[(pt tb0_9_0 0), (pt tb0_9_3 0)]), (fV 190 #[(pt tb0_9_4 0), (pt tb0_9_5 0), (pt tb0_9_6 0), (pt tb0_9_7 0)]), (fV 191 #[(pt tb0_9_4 0), (pt tb0_9_7 0)]), (fV 190 #[(pt tb0_9_8 0), (pt tb0_9_9 0), (pt tb0_9_10 0), (pt tb0_9_11 0)]), (fV 191 #[(pt tb0_9_8 0), (pt tb0_9_11 0)]), (fV 159 #[]), (fV 160 #[]), (vi x0.done_), (.bool x0.ended_)]) (v := (vi x0.done_)) rfl (by kernel_rfl) hw28.at0 rfl rfl rfl) (Bd hw28 (Wk _) (by simp) (fun e => by cases e)) <| Sd hj36 (fun hb38 h39 => ?_) (fun hb38 h40 => ?_)
    ·refine Dt 7 27 0 (pt bp0 9) (fun _ hq => JI (t := 110) (E := 109) (len := 5) (s := 2) (g := true) (x := (.tmp 26)) (y := (.tmp 24)) (k := .i64) (b := bp0) (o0 := 9) (o1 := 9) (i := x0.done_) (n := 0) rfl rfl (by kernel_rfl) (by kernel_rfl) hb38 (by decide) rfl) ?_
     refine Dv [8] <| D1 9 <| Wt (l' := [true, true, true, true, true, true, true, true, true, true, true, true, true, true, false, false]) (zd := true) (by kernel_rfl) (by kernel_rfl) (dst := (some 29)) (ty := 106) (g := none) (by kernel_rfl) rfl (BF (t := 106) (x := (.tmp 28)) (b := bp0) (o := 9) (g := false) (s := 1) (C := #[(.bool x0.o_.Report), (.bool x0.o_.Serial), (.bool x0.o_.Zone), (sv x0.l_.Call), (vi x0.l_.Category), (vi x0.l_.Power), (vi x0.l_.Claimed), (.slice a0_7 x0.l_.Jumps.length n0_7), (.slice a0_8 x0.l_.Lines.length n0_8), (fV 153 #[]), (fV 154 #[]), (fV 190 #[(pt tb0_9_0 0), (pt tb0_9_1 0), (pt tb0_9_2 0), (pt tb0_9_3 0)]), (fV 191 #[(pt tb0_9_0 0), (pt tb0_9_3 0)]), (fV 190 #[(pt tb0_9_4 0), (pt tb0_9_5 0), (pt tb0_9_6 0), (pt tb0_9_7 0)]), (fV 191 #[(pt tb0_9_4 0), (pt tb0_9_7 0)]), (fV 190 #[(pt tb0_9_8 0), (pt tb0_9_9 0), (pt tb0_9_10 0), (pt tb0_9_11 0)]), (fV 191 #[(pt tb0_9_8 0), (pt tb0_9_11 0)]), (fV 159 #[]), (fV 160 #[]), (vi x0.done_), (.bool x0.ended_)]) (v := (fV 153 #[])) rfl (by kernel_rfl) hw28.at0 rfl rfl rfl) (Bd hw28 (Wk _) (by simp) (fun e => by cases e)) <| D1 14 ?_
     obtain ⟨r41, hr42, h43⟩ := bind_some h39
     refine DCB J5 (KI N hG bp0 x0 a0_7 n0_7 tb0_9_0 tb0_9_1 tb0_9_2 tb0_9_3 tb0_9_4 tb0_9_5 tb0_9_6 tb0_9_7 tb0_9_8 tb0_9_9 tb0_9_10 tb0_9_11 a0_8 n0_8 e0_8 hb0_7 hs0_7 htb0_9_0 htb0_9_1 htb0_9_2 htb0_9_3 htb0_9_4 htb0_9_5 htb0_9_6 htb0_9_7 htb0_9_8 htb0_9_9 htb0_9_10 htb0_9_11 hr0_8 x1 hw28 _ hr42) ?_
     rintro _ F2 w44 _ hs45 le46 ⟨ar41_0_7, nr41_0_7, ar41_0_8, nr41_0_8, er41_0_8, rfl, rfl, hbr41_0_7, hsr41_0_7, hrr41_0_8⟩
     refine ⟨Bd hs45 le46 (by simp) (zdT (by kernel_rfl)), ?_⟩
     refine Dv [15] ?_
     obtain rfl := Aa h43
     exact Ww (by kernel_rfl) ⟨F2, ar41_0_7, nr41_0_7, ar41_0_8, nr41_0_8, er41_0_8, hs45, le46, fI, hbr41_0_7, hsr41_0_7, hrr41_0_8⟩
    ·refine Sd h40 (fun hb48 h49 => ?_) (fun hb48 h50 => ?_)
     ·refine Dt 7 27 0 (pt bp0 11) (fun _ hq => JI (t := 110) (E := 109) (len := 5) (s := 2) (g := true) (x := (.tmp 26)) (y := (.tmp 24)) (k := .i64) (b := bp0) (o0 := 9) (o1 := 11) (i := x0.done_) (n := 1) rfl rfl (by kernel_rfl) (by kernel_rfl) hb48 (by decide) rfl) ?_
      refine Dv [8] <| D1 9 <| Wt (l' := [true, true, true, true, true, true, true, true, true, true, true, true, true, true, false, false]) (zd := true) (by kernel_rfl) (by kernel_rfl) (dst := (some 29)) (ty := 106) (g := none) (by kernel_rfl) rfl (BF (t := 106) (x := (.tmp 28)) (b := bp0) (o := 11) (g := false) (s := 1) (C := #[(.bool x0.o_.Report), (.bool x0.o_.Serial), (.bool x0.o_.Zone), (sv x0.l_.Call), (vi x0.l_.Category), (vi x0.l_.Power), (vi x0.l_.Claimed), (.slice a0_7 x0.l_.Jumps.length n0_7), (.slice a0_8 x0.l_.Lines.length n0_8), (fV 153 #[]), (fV 154 #[]), (fV 190 #[(pt tb0_9_0 0), (pt tb0_9_1 0), (pt tb0_9_2 0), (pt tb0_9_3 0)]), (fV 191 #[(pt tb0_9_0 0), (pt tb0_9_3 0)]), (fV 190 #[(pt tb0_9_4 0), (pt tb0_9_5 0), (pt tb0_9_6 0), (pt tb0_9_7 0)]), (fV 191 #[(pt tb0_9_4 0), (pt tb0_9_7 0)]), (fV 190 #[(pt tb0_9_8 0), (pt tb0_9_9 0), (pt tb0_9_10 0), (pt tb0_9_11 0)]), (fV 191 #[(pt tb0_9_8 0), (pt tb0_9_11 0)]), (fV 159 #[]), (fV 160 #[]), (vi x0.done_), (.bool x0.ended_)]) (v := (fV 190 #[(pt tb0_9_0 0), (pt tb0_9_1 0), (pt tb0_9_2 0), (pt tb0_9_3 0)])) rfl (by kernel_rfl) hw28.at0 rfl rfl rfl) (Bd hw28 (Wk _) (by simp) (fun e => by cases e)) <| D1 14 ?_
      obtain ⟨r51, hr52, h53⟩ := bind_some h49
      refine DCB Ie (IV N hG bp0 x0 a0_7 n0_7 tb0_9_0 tb0_9_1 tb0_9_2 tb0_9_3 tb0_9_4 tb0_9_5 tb0_9_6 tb0_9_7 tb0_9_8 tb0_9_9 tb0_9_10 tb0_9_11 a0_8 n0_8 e0_8 hb0_7 hs0_7 htb0_9_0 htb0_9_1 htb0_9_2 htb0_9_3 htb0_9_4 htb0_9_5 htb0_9_6 htb0_9_7 htb0_9_8 htb0_9_9 htb0_9_10 htb0_9_11 hr0_8 x1 tb0_9_0 ([67, 65, 84, 69, 71, 79, 82, 89] : WE) htb0_9_0 tb0_9_1 1 htb0_9_1 tb0_9_2 9 htb0_9_2 tb0_9_3 htb0_9_3 hw28 _ hr52) ?_
      rintro _ F3 w54 _ hs55 le56 ⟨ar51_0_7, nr51_0_7, ar51_0_8, nr51_0_8, er51_0_8, rfl, rfl, hbr51_0_7, hsr51_0_7, hrr51_0_8⟩
      refine ⟨Bd hs55 le56 (by simp) (zdT (by kernel_rfl)), ?_⟩
      refine Dv [15] ?_
      obtain rfl := Aa h53
      exact Ww (by kernel_rfl) ⟨F3, ar51_0_7, nr51_0_7, ar51_0_8, nr51_0_8, er51_0_8, hs55, le56, fI, hbr51_0_7, hsr51_0_7, hrr51_0_8⟩
     ·refine Sd h50 (fun hb58 h59 => ?_) (fun hb58 h60 => ?_)
      ·refine Dt 7 27 0 (pt bp0 13) (fun _ hq => JI (t := 110) (E := 109) (len := 5) (s := 2) (g := true) (x := (.tmp 26)) (y := (.tmp 24)) (k := .i64) (b := bp0) (o0 := 9) (o1 := 13) (i := x0.done_) (n := 2) rfl rfl (by kernel_rfl) (by kernel_rfl) hb58 (by decide) rfl) ?_
       refine Dv [8] <| D1 9 <| Wt (l' := [true, true, true, true, true, true, true, true, true, true, true, true, true, true, false, false]) (zd := true) (by kernel_rfl) (by kernel_rfl) (dst := (some 29)) (ty := 106) (g := none) (by kernel_rfl) rfl (BF (t := 106) (x := (.tmp 28)) (b := bp0) (o := 13) (g := false) (s := 1) (C := #[(.bool x0.o_.Report), (.bool x0.o_.Serial), (.bool x0.o_.Zone), (sv x0.l_.Call), (vi x0.l_.Category), (vi x0.l_.Power), (vi x0.l_.Claimed), (.slice a0_7 x0.l_.Jumps.length n0_7), (.slice a0_8 x0.l_.Lines.length n0_8), (fV 153 #[]), (fV 154 #[]), (fV 190 #[(pt tb0_9_0 0), (pt tb0_9_1 0), (pt tb0_9_2 0), (pt tb0_9_3 0)]), (fV 191 #[(pt tb0_9_0 0), (pt tb0_9_3 0)]), (fV 190 #[(pt tb0_9_4 0), (pt tb0_9_5 0), (pt tb0_9_6 0), (pt tb0_9_7 0)]), (fV 191 #[(pt tb0_9_4 0), (pt tb0_9_7 0)]), (fV 190 #[(pt tb0_9_8 0), (pt tb0_9_9 0), (pt tb0_9_10 0), (pt tb0_9_11 0)]), (fV 191 #[(pt tb0_9_8 0), (pt tb0_9_11 0)]), (fV 159 #[]), (fV 160 #[]), (vi x0.done_), (.bool x0.ended_)]) (v := (fV 190 #[(pt tb0_9_4 0), (pt tb0_9_5 0), (pt tb0_9_6 0), (pt tb0_9_7 0)])) rfl (by kernel_rfl) hw28.at0 rfl rfl rfl) (Bd hw28 (Wk _) (by simp) (fun e => by cases e)) <| D1 14 ?_
       obtain ⟨r61, hr62, h63⟩ := bind_some h59
       refine DCB Ib (IR N hG bp0 x0 a0_7 n0_7 tb0_9_0 tb0_9_1 tb0_9_2 tb0_9_3 tb0_9_4 tb0_9_5 tb0_9_6 tb0_9_7 tb0_9_8 tb0_9_9 tb0_9_10 tb0_9_11 a0_8 n0_8 e0_8 hb0_7 hs0_7 htb0_9_0 htb0_9_1 htb0_9_2 htb0_9_3 htb0_9_4 htb0_9_5 htb0_9_6 htb0_9_7 htb0_9_8 htb0_9_9 htb0_9_10 htb0_9_11 hr0_8 x1 tb0_9_4 ([80, 79, 87, 69, 82] : WE) htb0_9_4 tb0_9_5 1 htb0_9_5 tb0_9_6 9999 htb0_9_6 tb0_9_7 htb0_9_7 hw28 _ hr62) ?_
       rintro _ F4 w64 _ hs65 le66 ⟨ar61_0_7, nr61_0_7, ar61_0_8, nr61_0_8, er61_0_8, rfl, rfl, hbr61_0_7, hsr61_0_7, hrr61_0_8⟩
       refine ⟨Bd hs65 le66 (by simp) (zdT (by kernel_rfl)), ?_⟩
       refine Dv [15] ?_
       obtain rfl := Aa h63
       exact Ww (by kernel_rfl) ⟨F4, ar61_0_7, nr61_0_7, ar61_0_8, nr61_0_8, er61_0_8, hs65, le66, fI, hbr61_0_7, hsr61_0_7, hrr61_0_8⟩
      ·refine Sd h60 (fun hb68 h69 => ?_) (fun hb68 h70 => ?_)
       ·refine Dt 7 27 0 (pt bp0 15) (fun _ hq => JI (t := 110) (E := 109) (len := 5) (s := 2) (g := true) (x := (.tmp 26)) (y := (.tmp 24)) (k := .i64) (b := bp0) (o0 := 9) (o1 := 15) (i := x0.done_) (n := 3) rfl rfl (by kernel_rfl) (by kernel_rfl) hb68 (by decide) rfl) ?_
        refine Dv [8] <| D1 9 <| Wt (l' := [true, true, true, true, true, true, true, true, true, true, true, true, true, true, false, false]) (zd := true) (by kernel_rfl) (by kernel_rfl) (dst := (some 29)) (ty := 106) (g := none) (by kernel_rfl) rfl (BF (t := 106) (x := (.tmp 28)) (b := bp0) (o := 15) (g := false) (s := 1) (C := #[(.bool x0.o_.Report), (.bool x0.o_.Serial), (.bool x0.o_.Zone), (sv x0.l_.Call), (vi x0.l_.Category), (vi x0.l_.Power), (vi x0.l_.Claimed), (.slice a0_7 x0.l_.Jumps.length n0_7), (.slice a0_8 x0.l_.Lines.length n0_8), (fV 153 #[]), (fV 154 #[]), (fV 190 #[(pt tb0_9_0 0), (pt tb0_9_1 0), (pt tb0_9_2 0), (pt tb0_9_3 0)]), (fV 191 #[(pt tb0_9_0 0), (pt tb0_9_3 0)]), (fV 190 #[(pt tb0_9_4 0), (pt tb0_9_5 0), (pt tb0_9_6 0), (pt tb0_9_7 0)]), (fV 191 #[(pt tb0_9_4 0), (pt tb0_9_7 0)]), (fV 190 #[(pt tb0_9_8 0), (pt tb0_9_9 0), (pt tb0_9_10 0), (pt tb0_9_11 0)]), (fV 191 #[(pt tb0_9_8 0), (pt tb0_9_11 0)]), (fV 159 #[]), (fV 160 #[]), (vi x0.done_), (.bool x0.ended_)]) (v := (fV 190 #[(pt tb0_9_8 0), (pt tb0_9_9 0), (pt tb0_9_10 0), (pt tb0_9_11 0)])) rfl (by kernel_rfl) hw28.at0 rfl rfl rfl) (Bd hw28 (Wk _) (by simp) (fun e => by cases e)) <| D1 14 ?_
        obtain ⟨r71, hr72, h73⟩ := bind_some h69
        refine DCB Ic (IU N hG bp0 x0 a0_7 n0_7 tb0_9_0 tb0_9_1 tb0_9_2 tb0_9_3 tb0_9_4 tb0_9_5 tb0_9_6 tb0_9_7 tb0_9_8 tb0_9_9 tb0_9_10 tb0_9_11 a0_8 n0_8 e0_8 hb0_7 hs0_7 htb0_9_0 htb0_9_1 htb0_9_2 htb0_9_3 htb0_9_4 htb0_9_5 htb0_9_6 htb0_9_7 htb0_9_8 htb0_9_9 htb0_9_10 htb0_9_11 hr0_8 x1 tb0_9_8 ([67, 76, 65, 73, 77, 69, 68] : WE) htb0_9_8 tb0_9_9 0 htb0_9_9 tb0_9_10 1000000 htb0_9_10 tb0_9_11 htb0_9_11 hw28 _ hr72) ?_
        rintro _ F5 w74 _ hs75 le76 ⟨ar71_0_7, nr71_0_7, ar71_0_8, nr71_0_8, er71_0_8, rfl, rfl, hbr71_0_7, hsr71_0_7, hrr71_0_8⟩
        refine ⟨Bd hs75 le76 (by simp) (zdT (by kernel_rfl)), ?_⟩
        refine Dv [15] ?_
        obtain rfl := Aa h73
        exact Ww (by kernel_rfl) ⟨F5, ar71_0_7, nr71_0_7, ar71_0_8, nr71_0_8, er71_0_8, hs75, le76, fI, hbr71_0_7, hsr71_0_7, hrr71_0_8⟩
       ·refine Sd h70 (fun hb78 h79 => ?_) (fun hb78 h80 => ?_)
        ·refine Dt 7 27 0 (pt bp0 17) (fun _ hq => JI (t := 110) (E := 109) (len := 5) (s := 2) (g := true) (x := (.tmp 26)) (y := (.tmp 24)) (k := .i64) (b := bp0) (o0 := 9) (o1 := 17) (i := x0.done_) (n := 4) rfl rfl (by kernel_rfl) (by kernel_rfl) hb78 (by decide) rfl) ?_
         refine Dv [8] <| D1 9 <| Wt (l' := [true, true, true, true, true, true, true, true, true, true, true, true, true, true, false, false]) (zd := true) (by kernel_rfl) (by kernel_rfl) (dst := (some 29)) (ty := 106) (g := none) (by kernel_rfl) rfl (BF (t := 106) (x := (.tmp 28)) (b := bp0) (o := 17) (g := false) (s := 1) (C := #[(.bool x0.o_.Report), (.bool x0.o_.Serial), (.bool x0.o_.Zone), (sv x0.l_.Call), (vi x0.l_.Category), (vi x0.l_.Power), (vi x0.l_.Claimed), (.slice a0_7 x0.l_.Jumps.length n0_7), (.slice a0_8 x0.l_.Lines.length n0_8), (fV 153 #[]), (fV 154 #[]), (fV 190 #[(pt tb0_9_0 0), (pt tb0_9_1 0), (pt tb0_9_2 0), (pt tb0_9_3 0)]), (fV 191 #[(pt tb0_9_0 0), (pt tb0_9_3 0)]), (fV 190 #[(pt tb0_9_4 0), (pt tb0_9_5 0), (pt tb0_9_6 0), (pt tb0_9_7 0)]), (fV 191 #[(pt tb0_9_4 0), (pt tb0_9_7 0)]), (fV 190 #[(pt tb0_9_8 0), (pt tb0_9_9 0), (pt tb0_9_10 0), (pt tb0_9_11 0)]), (fV 191 #[(pt tb0_9_8 0), (pt tb0_9_11 0)]), (fV 159 #[]), (fV 160 #[]), (vi x0.done_), (.bool x0.ended_)]) (v := (fV 159 #[])) rfl (by kernel_rfl) hw28.at0 rfl rfl rfl) (Bd hw28 (Wk _) (by simp) (fun e => by cases e)) <| D1 14 ?_
         obtain ⟨r81, hr82, h83⟩ := bind_some h79
         refine DCB Jp (Kf N hG bp0 x0 a0_7 n0_7 tb0_9_0 tb0_9_1 tb0_9_2 tb0_9_3 tb0_9_4 tb0_9_5 tb0_9_6 tb0_9_7 tb0_9_8 tb0_9_9 tb0_9_10 tb0_9_11 a0_8 n0_8 e0_8 hb0_7 hs0_7 htb0_9_0 htb0_9_1 htb0_9_2 htb0_9_3 htb0_9_4 htb0_9_5 htb0_9_6 htb0_9_7 htb0_9_8 htb0_9_9 htb0_9_10 htb0_9_11 hr0_8 x1 hw28 _ hr82) ?_
         rintro _ F6 w84 _ hs85 le86 ⟨ar81_0_7, nr81_0_7, ar81_0_8, nr81_0_8, er81_0_8, rfl, rfl, hbr81_0_7, hsr81_0_7, hrr81_0_8⟩
         refine ⟨Bd hs85 le86 (by simp) (zdT (by kernel_rfl)), ?_⟩
         refine Dv [15] ?_
         obtain rfl := Aa h83
         exact Ww (by kernel_rfl) ⟨F6, ar81_0_7, nr81_0_7, ar81_0_8, nr81_0_8, er81_0_8, hs85, le86, fI, hbr81_0_7, hsr81_0_7, hrr81_0_8⟩
        ·cases h80
   ·rintro f w29 ⟨F1, aj32_8, nj32_8, aj32_9, nj32_9, ej32_9, hs30, le31, ⟨_, rfl⟩, hbj32_8, hsj32_8, hrj32_9⟩
    refine Ab <| Sq (Rg [0] ?_)
    refine Vs 1 <| Nt ?_
    obtain ⟨j91, hj94, h95⟩ := bind_some h37
    refine Wq (fun f w => ∃ (F7 : Mem), HS wb Fb w F7 ((sb bp0 #[(.bool j32.2.1), (.bool j32.2.2.1), (.bool j32.2.2.2.1), (sv j32.2.2.2.2.1), (vi j32.2.2.2.2.2.1), (vi j32.2.2.2.2.2.2.1), (vi j32.2.2.2.2.2.2.2.1), (.slice aj32_8 j32.2.2.2.2.2.2.2.2.1.length nj32_8), (.slice aj32_9 j32.2.2.2.2.2.2.2.2.2.1.length nj32_9), (fV 153 #[]), (fV 154 #[]), (fV 190 #[(pt tb0_9_0 0), (pt tb0_9_1 0), (pt tb0_9_2 0), (pt tb0_9_3 0)]), (fV 191 #[(pt tb0_9_0 0), (pt tb0_9_3 0)]), (fV 190 #[(pt tb0_9_4 0), (pt tb0_9_5 0), (pt tb0_9_6 0), (pt tb0_9_7 0)]), (fV 191 #[(pt tb0_9_4 0), (pt tb0_9_7 0)]), (fV 190 #[(pt tb0_9_8 0), (pt tb0_9_9 0), (pt tb0_9_10 0), (pt tb0_9_11 0)]), (fV 191 #[(pt tb0_9_8 0), (pt tb0_9_11 0)]), (fV 159 #[]), (fV 160 #[]), (vi j91), (.bool j32.2.2.2.2.2.2.2.2.2.2.2)] 130) :: ej32_9 :: Lf) /\ Wj F1 F7 /\ FI f [] [(4, (.bool j32.1))]) ?_ ?_
    ·refine Cd hj94 (fun hb96 h97 => ?_) (fun hb96 h98 => ?_)
     ·refine Rg (rG 8) ?_
      refine Vs 3 <| Ld hs30.at0 <| Vs 3 <| St0 #[(.bool j32.2.1), (.bool j32.2.2.1), (.bool j32.2.2.2.1), (sv j32.2.2.2.2.1), (vi j32.2.2.2.2.2.1), (vi j32.2.2.2.2.2.2.1), (vi j32.2.2.2.2.2.2.2.1), (.slice aj32_8 j32.2.2.2.2.2.2.2.2.1.length nj32_8), (.slice aj32_9 j32.2.2.2.2.2.2.2.2.2.1.length nj32_9), (fV 153 #[]), (fV 154 #[]), (fV 190 #[(pt tb0_9_0 0), (pt tb0_9_1 0), (pt tb0_9_2 0), (pt tb0_9_3 0)]), (fV 191 #[(pt tb0_9_0 0), (pt tb0_9_3 0)]), (fV 190 #[(pt tb0_9_4 0), (pt tb0_9_5 0), (pt tb0_9_6 0), (pt tb0_9_7 0)]), (fV 191 #[(pt tb0_9_4 0), (pt tb0_9_7 0)]), (fV 190 #[(pt tb0_9_8 0), (pt tb0_9_9 0), (pt tb0_9_10 0), (pt tb0_9_11 0)]), (fV 191 #[(pt tb0_9_8 0), (pt tb0_9_11 0)]), (fV 159 #[]), (fV 160 #[]), (vi (W64 (j32.2.2.2.2.2.2.2.2.2.2.1 + 1))), (.bool j32.2.2.2.2.2.2.2.2.2.2.2)] hs30 (fun w99 hs100 => ?_)
      refine Wf ?_
      obtain rfl := Aa h97
      exact .inl ⟨rfl, F1, hs100, (Wk _), fI⟩
     ·refine Sc ?_
      obtain rfl := Aa h98
      exact .inl ⟨rfl, F1, hs30, (Wk _), fI⟩
    ·rintro f w88 ⟨F7, hs89, le90, ⟨_, rfl⟩⟩
     refine Ab <| Sq (Rg [0, 1, 2] ?_)
     refine Vs 3 <| Nt <| Rt <| Ax <| Ae ?_
     obtain rfl := Aa h95
     exact ReB [(.bool j32.1), (.bool false)] hs89 (le31.t le90) ⟨aj32_8, nj32_8, aj32_9, nj32_9, ej32_9, rfl, rfl, hbj32_8, (Wm hsj32_8 le90), (hrj32_9.mono le90)⟩
  ·refine Sq (Rg [0, 1, 2] ?_)
   refine Vs 3 <| Nt <| Cd h26 (fun hb101 h102 => ?_) (fun hb101 h103 => ?_)
   ·refine Sq (Rg (rG 4) ?_)
    refine Vs 3 <| St0 #[(.bool x0.o_.Report), (.bool x0.o_.Serial), (.bool x0.o_.Zone), (sv x0.l_.Call), (vi x0.l_.Category), (vi x0.l_.Power), (vi x0.l_.Claimed), (.slice a0_7 x0.l_.Jumps.length n0_7), (.slice a0_8 x0.l_.Lines.length n0_8), (fV 153 #[]), (fV 154 #[]), (fV 190 #[(pt tb0_9_0 0), (pt tb0_9_1 0), (pt tb0_9_2 0), (pt tb0_9_3 0)]), (fV 191 #[(pt tb0_9_0 0), (pt tb0_9_3 0)]), (fV 190 #[(pt tb0_9_4 0), (pt tb0_9_5 0), (pt tb0_9_6 0), (pt tb0_9_7 0)]), (fV 191 #[(pt tb0_9_4 0), (pt tb0_9_7 0)]), (fV 190 #[(pt tb0_9_8 0), (pt tb0_9_9 0), (pt tb0_9_10 0), (pt tb0_9_11 0)]), (fV 191 #[(pt tb0_9_8 0), (pt tb0_9_11 0)]), (fV 159 #[]), (fV 160 #[]), (vi x0.done_), (.bool true)] hs0 (fun w104 hs105 => ?_)
    refine Nss (Rg [0, 1] ?_)
    refine Vs 2 <| Nt <| Rt <| Ax <| Ae ?_
    obtain rfl := Aa h102
    exact ReB [(.bool true), (.bool false)] hs105 (Wk _) ⟨a0_7, n0_7, a0_8, n0_8, e0_8, rfl, rfl, hb0_7, hs0_7, hr0_8⟩
   ·refine Sc ?_
    refine Au <| Ab <| Sq (Rg (rG 12) ?_)
    refine Vs 3 <| Ld hs0.at0 <| Vs 1 ?_
    obtain ⟨r106, hr107, h108⟩ := bind_some h103
    refine Cl' Gc hs0 (GM N w0 F0 hs0.pers hG (({ Report := x0.o_.Report, Serial := x0.o_.Serial, Zone := x0.o_.Zone } : Ac)) x1 _ hr107) ?_
    rintro _ F8 w110 hs111 le112 rfl
    refine Vs 3 <| Al' 34 #[(vi 0), (vi 0), (vi 0), (vi 0), (sv (([] : WE))), (vi 0), (vi 0), (vi 0), (vi 0), (vi 0), (vi 0)] hs111 (fun b114 w115 hs116 => ?_)
    refine St0 (Cf r106.1) hs116 (fun w117 hs118 => ?_)
    refine Vs 1 <| Nss <| Sq (Rg (rG 7) ?_)
    refine Vs 4 <| Ld hs118.at1 <| Vs 2 <| Nss ?_
    obtain ⟨j124, hj129, h130⟩ := bind_some h108
    refine RD 36 36 [(sb b114 (Cf r106.1) 34), (sb bp0 #[(.bool x0.o_.Report), (.bool x0.o_.Serial), (.bool x0.o_.Zone), (sv x0.l_.Call), (vi x0.l_.Category), (vi x0.l_.Power), (vi x0.l_.Claimed), (.slice a0_7 x0.l_.Jumps.length n0_7), (.slice a0_8 x0.l_.Lines.length n0_8), (fV 153 #[]), (fV 154 #[]), (fV 190 #[(pt tb0_9_0 0), (pt tb0_9_1 0), (pt tb0_9_2 0), (pt tb0_9_3 0)]), (fV 191 #[(pt tb0_9_0 0), (pt tb0_9_3 0)]), (fV 190 #[(pt tb0_9_4 0), (pt tb0_9_5 0), (pt tb0_9_6 0), (pt tb0_9_7 0)]), (fV 191 #[(pt tb0_9_4 0), (pt tb0_9_7 0)]), (fV 190 #[(pt tb0_9_8 0), (pt tb0_9_9 0), (pt tb0_9_10 0), (pt tb0_9_11 0)]), (fV 191 #[(pt tb0_9_8 0), (pt tb0_9_11 0)]), (fV 159 #[]), (fV 160 #[]), (vi x0.done_), (.bool x0.ended_)] 130), e0_8] [] hs118 (fun f w => ∃ (F9 : Mem), HS wb Fb w F9 ((sb b114 (Cf r106.1) 34) :: (sb bp0 #[(.bool x0.o_.Report), (.bool x0.o_.Serial), (.bool x0.o_.Zone), (sv x0.l_.Call), (vi x0.l_.Category), (vi x0.l_.Power), (vi x0.l_.Claimed), (.slice a0_7 x0.l_.Jumps.length n0_7), (.slice a0_8 x0.l_.Lines.length n0_8), (fV 153 #[]), (fV 154 #[]), (fV 190 #[(pt tb0_9_0 0), (pt tb0_9_1 0), (pt tb0_9_2 0), (pt tb0_9_3 0)]), (fV 191 #[(pt tb0_9_0 0), (pt tb0_9_3 0)]), (fV 190 #[(pt tb0_9_4 0), (pt tb0_9_5 0), (pt tb0_9_6 0), (pt tb0_9_7 0)]), (fV 191 #[(pt tb0_9_4 0), (pt tb0_9_7 0)]), (fV 190 #[(pt tb0_9_8 0), (pt tb0_9_9 0), (pt tb0_9_10 0), (pt tb0_9_11 0)]), (fV 191 #[(pt tb0_9_8 0), (pt tb0_9_11 0)]), (fV 159 #[]), (fV 160 #[]), (vi x0.done_), (.bool x0.ended_)] 130) :: e0_8 :: Lf) /\ Wj F8 F9 /\ FI f [] [(0, (pt bp0 0)), (6, (pt b114 0)), (100, (.bool j124))]) (fun wd119 hw120 => ?_) ?_
    ·refine Dvl [0, 1, 2] (tf 3 33) ?_
     refine Sd hj129 (fun hb131 h132 => ?_) (fun hb131 h133 => ?_)
     ·refine Dgl 3 68 0 (pt b114 0) (tf 4 32) 2 true 67 hb131 (fun _ hq => fa 34 6 0 0 1 b114 0 0) ?_
      refine Dgl 4 69 3 _ (tf 5 31) 2 true 67 hb131 (fun _ hq => ld 3 68 b114 0 false 1 (vi r106.1.Num) (hq.1.2 0 _ _ rfl)) <| Dgl 5 70 128 _ (tf 6 30) 2 true 67 hb131 (fun _ hq => mv 0 (pt bp0 0)) <| Dgl 6 71 0 (pt bp0 0) (tf 7 29) 2 true 67 hb131 (fun _ hq => Ef (x := (.tmp 70)) (a := ⟨bp0, 0, none⟩) rfl) <| Dgl 7 72 0 (pt bp0 3) (tf 8 28) 2 true 67 hb131 (fun _ hq => fa 130 71 1 3 6 bp0 0 3) <| Dgl 8 73 0 (pt bp0 8) (tf 9 27) 2 true 67 hb131 (fun _ hq => fa 27 72 5 5 1 bp0 3 8) <| Dgl 9 74 25 _ (tf 10 26) 2 true 67 hb131 (fun _ hq => ld 25 73 bp0 8 false 1 (.slice a0_8 x0.l_.Lines.length n0_8) (hq.1.2 1 _ _ rfl)) <| Dgl 10 75 3 _ (tf 11 25) 2 true 67 hb131 (fun _ hq => mv 8 (vi (x0.l_.Lines.length : Int))) <| Dgl 11 76 3 (vi (W64 ((x0.l_.Lines.length : Int) - 1))) (tf 12 24) 2 true 67 hb131 (fun _ hq => JF (t := 3) (t' := 3) (x := (.tmp 75)) (y := (.const (vi 1))) (k := .i64) (a := (x0.l_.Lines.length : Int)) (b := 1) rfl rfl) ?_
      obtain ⟨x134, hx135, h137⟩ := bind_some h132
      obtain ⟨hi136, hx135'⟩ := Ap hx135
      obtain ⟨b138, C139, rfl, rfl, hE142⟩ := Av.open (hr0_8.mono le112) hx135'
      have hr143 := (hr0_8.mono le112)
      have hc145 := hE142 _ _ hx135'
      refine Dgl 12 77 0 (.pointer (some ⟨b138, (((W64 ((x0.l_.Lines.length : Int) - 1)) : Int).toNat * 11), none⟩)) (tf 13 23) 2 true 67 hb131 (fun _ hq => DW (t := 25) (x := (.tmp 74)) (y := (.tmp 76)) (b := b138) (E := 34) (s := 11) (by_ := 96) rfl rfl (by kernel_rfl) hi136) <| Dgl 13 78 0 (.pointer (some ⟨b138, (((W64 ((x0.l_.Lines.length : Int) - 1)) : Int).toNat * 11), none⟩)) (tf 14 22) 2 true 67 hb131 (fun _ hq => fa 34 77 0 0 1 b138 (((W64 ((x0.l_.Lines.length : Int) - 1)) : Int).toNat * 11) (((W64 ((x0.l_.Lines.length : Int) - 1)) : Int).toNat * 11)) <| Dgl 14 79 3 _ (tf 15 21) 2 true 67 hb131 (fun _ hq => lx 3 78 0 11 false 1 (vi x134.Num) (hq.1.2 2 _ _ rfl) hc145) <| Dgl 15 80 4 (.bool (decide (r106.1.Num <= x134.Num))) (tf 16 20) 2 true 67 hb131 (fun _ hq => LB (t := 3) (t' := 3) (x := (.tmp 69)) (y := (.tmp 79)) (k := .i64) (a := r106.1.Num) (b := x134.Num) rfl rfl) <| Dgl 16 81 4 _ (tf 17 19) 2 true 67 hb131 (fun _ hq => mv 80 (.bool (decide (r106.1.Num <= x134.Num)))) <| Sd h137 (fun hb146 h147 => ?_) (fun hb146 h148 => ?_)
      ·refine Dkl [(17, 82), (18, 83), (19, 84), (20, 85), (21, 86), (22, 87)] 16 false 81 hb146 (tf 23 13) ?_
       refine Dkl [(23, 88), (24, 89), (25, 90), (26, 91), (27, 92), (28, 93)] 16 false 81 hb146 (tf 29 7) <| Dkl [(29, 94)] 16 false 81 hb146 (tf 30 6) <| Dgl 30 95 4 _ (tf 31 5) 2 true 67 hb131 (fun _ hq => p1 81 (.const (.bool true)) (.tmp 94) (.bool true) hb146) <| Dtl 31 96 4 _ (tf 32 4) (fun _ hq => p1 67 (.tmp 95) (.const (.bool false)) (.bool true) hb131) <| Dvl [32] (tf 33 3) <| Dkl [(33, 98), (34, 99)] 32 false 97 rfl (tf 35 1) <| Dtl 35 100 4 _ (tf 36 0) (fun _ hq => p1 97 (.const (.bool true)) (.tmp 99) (.bool true) rfl) ?_
       obtain rfl := Aa h147
       exact Ww (by kernel_rfl) ⟨F8, hw120, (Wk _), fI⟩
      ·refine Dgl 17 82 0 (pt b114 3) (tf 18 18) 16 false 81 hb146 (fun _ hq => fa 34 6 3 3 1 b114 0 3) ?_
       refine Dgl 18 83 3 _ (tf 19 17) 16 false 81 hb146 (fun _ hq => ld 3 82 b114 3 false 1 (vi r106.1.Minute) (hq.1.2 0 _ _ rfl)) <| Dgl 19 84 128 _ (tf 20 16) 16 false 81 hb146 (fun _ hq => mv 0 (pt bp0 0)) <| Dgl 20 85 0 (pt bp0 0) (tf 21 15) 16 false 81 hb146 (fun _ hq => Ef (x := (.tmp 84)) (a := ⟨bp0, 0, none⟩) rfl) <| Dgl 21 86 0 (pt bp0 3) (tf 22 14) 16 false 81 hb146 (fun _ hq => fa 130 85 1 3 6 bp0 0 3) <| Dgl 22 87 0 (pt bp0 8) (tf 23 13) 16 false 81 hb146 (fun _ hq => fa 27 86 5 5 1 bp0 3 8) <| Dgl 23 88 25 _ (tf 24 12) 16 false 81 hb146 (fun _ hq => ld 25 87 bp0 8 false 1 (.slice (some ⟨b138, 0, none⟩) x0.l_.Lines.length n0_8) (hq.1.2 1 _ _ rfl)) <| Dgl 24 89 3 _ (tf 25 11) 16 false 81 hb146 (fun _ hq => mv 8 (vi (x0.l_.Lines.length : Int))) <| Dgl 25 90 3 (vi (W64 ((x0.l_.Lines.length : Int) - 1))) (tf 26 10) 16 false 81 hb146 (fun _ hq => JF (t := 3) (t' := 3) (x := (.tmp 89)) (y := (.const (vi 1))) (k := .i64) (a := (x0.l_.Lines.length : Int)) (b := 1) rfl rfl) ?_
       obtain ⟨x149, hx150, h152⟩ := bind_some h148
       obtain ⟨hi151, hx150'⟩ := Ap hx150
       obtain ⟨b153, C154, ha155, he156, hE157⟩ := Av.open hr143 hx150'
       cases ha155
       cases he156
       have hc159 := hE157 _ _ hx150'
       refine Dgl 26 91 0 (.pointer (some ⟨b138, (((W64 ((x0.l_.Lines.length : Int) - 1)) : Int).toNat * 11), none⟩)) (tf 27 9) 16 false 81 hb146 (fun _ hq => DW (t := 25) (x := (.tmp 88)) (y := (.tmp 90)) (b := b138) (E := 34) (s := 11) (by_ := 96) rfl rfl (by kernel_rfl) hi151) <| Dgl 27 92 0 (.pointer (some ⟨b138, ((((W64 ((x0.l_.Lines.length : Int) - 1)) : Int).toNat * 11) + 3), none⟩)) (tf 28 8) 16 false 81 hb146 (fun _ hq => fa 34 91 3 3 1 b138 (((W64 ((x0.l_.Lines.length : Int) - 1)) : Int).toNat * 11) ((((W64 ((x0.l_.Lines.length : Int) - 1)) : Int).toNat * 11) + 3)) <| Dgl 28 93 3 _ (tf 29 7) 16 false 81 hb146 (fun _ hq => lx 3 92 3 11 false 1 (vi x149.Minute) (hq.1.2 2 _ _ rfl) hc159) <| Dgl 29 94 4 (.bool (decide (r106.1.Minute < x149.Minute))) (tf 30 6) 16 false 81 hb146 (fun _ hq => JH (t := 3) (t' := 3) (x := (.tmp 83)) (y := (.tmp 93)) (k := .i64) (a := r106.1.Minute) (b := x149.Minute) rfl rfl) <| Dgl 30 95 4 _ (tf 31 5) 2 true 67 hb131 (fun _ hq => p0 81 (.const (.bool true)) (.tmp 94) (.bool (decide (r106.1.Minute < x149.Minute))) hb146) <| Dtl 31 96 4 _ (tf 32 4) (fun _ hq => p1 67 (.tmp 95) (.const (.bool false)) (.bool (decide (r106.1.Minute < x149.Minute))) hb131) <| Dvl [32] (tf 33 3) <| Sd h152 (fun hb160 h161 => ?_) (fun hb160 h162 => ?_)
       ·refine Dkl [(33, 98), (34, 99)] 32 false 97 hb160 (tf 35 1) ?_
        refine Dtl 35 100 4 _ (tf 36 0) (fun _ hq => p1 97 (.const (.bool true)) (.tmp 99) (.bool true) hb160) ?_
        obtain rfl := Aa h161
        exact Ww (by kernel_rfl) ⟨F8, hw120, (Wk _), fI⟩
       ·refine Dgl 33 98 35 _ (tf 34 2) 32 false 97 hb160 (fun _ hq => mv 7 (vi r106.2)) ?_
        refine Dgl 34 99 4 (.bool (r106.2 != 0)) (tf 35 1) 32 false 97 hb160 (fun _ hq => LA (t := 35) (t' := 35) (x := (.tmp 98)) (y := (.const (vi 0))) (k := .i64) (a := r106.2) (b := 0) rfl rfl) <| Dtl 35 100 4 _ (tf 36 0) (fun _ hq => p0 97 (.const (.bool true)) (.tmp 99) (.bool (r106.2 != 0)) hb160) ?_
        obtain rfl := Aa h162
        exact Ww (by kernel_rfl) ⟨F8, hw120, (Wk _), fI⟩
     ·refine Dkl [(3, 68), (4, 69), (5, 70), (6, 71), (7, 72), (8, 73)] 2 true 67 hb131 (tf 9 27) ?_
      refine Dkl [(9, 74), (10, 75), (11, 76), (12, 77), (13, 78), (14, 79)] 2 true 67 hb131 (tf 15 21) <| Dkl [(15, 80), (16, 81)] 2 true 67 hb131 (tf 17 19) <| Dul [(17, 82), (18, 83), (19, 84), (20, 85), (21, 86), (22, 87)] 16 false 81 (tf 23 13) <| Dul [(23, 88), (24, 89), (25, 90), (26, 91), (27, 92), (28, 93)] 16 false 81 (tf 29 7) <| Dul [(29, 94)] 16 false 81 (tf 30 6) <| Dkl [(30, 95)] 2 true 67 hb131 (tf 31 5) <| Dtl 31 96 4 _ (tf 32 4) (fun _ hq => p0 67 (.tmp 95) (.const (.bool false)) (.bool false) hb131) <| Dvl [32] (tf 33 3) <| Dgl 33 98 35 _ (tf 34 2) 32 false 97 rfl (fun _ hq => mv 7 (vi r106.2)) <| Dgl 34 99 4 (.bool (r106.2 != 0)) (tf 35 1) 32 false 97 rfl (fun _ hq => LA (t := 35) (t' := 35) (x := (.tmp 98)) (y := (.const (vi 0))) (k := .i64) (a := r106.2) (b := 0) rfl rfl) <| Dtl 35 100 4 _ (tf 36 0) (fun _ hq => p0 97 (.const (.bool true)) (.tmp 99) (.bool (r106.2 != 0)) rfl) ?_
      obtain rfl := Aa h133
      exact Ww (by kernel_rfl) ⟨F8, hw120, (Wk _), fI⟩
    ·rintro f w121 ⟨F9, hs122, le123, ⟨_, rfl⟩⟩
     refine Ab <| Cd h130 (fun hb163 h164 => ?_) (fun hb163 h165 => ?_)
     ·refine Sq (Rg [0, 1] ?_)
      refine Vs 2 <| Nt <| Rt <| Ae ?_
      obtain rfl := Aa h164
      exact ReB [(.bool false), (.bool false)] hs122.dr0 (le112.t le123) ⟨a0_7, n0_7, a0_8, n0_8, e0_8, rfl, rfl, hb0_7, (Wm hs0_7 (le112.t le123)), (hr0_8.mono (le112.t le123))⟩
     ·refine Sc ?_
      refine Ab <| Sq <| Sq (Rg (rG 7) ?_)
      refine Vs 4 <| Ld hs122.at1 <| Vs 2 <| Nt <| Cd h165 (fun hb166 h167 => ?_) (fun hb166 h168 => ?_)
      ·refine Sq (Rg [0, 1] ?_)
       refine Vs 2 <| Nt <| Rt <| Ae ?_
       obtain rfl := Aa h167
       exact ReB [(.bool false), (.bool true)] hs122.dr0 (le112.t le123) ⟨a0_7, n0_7, a0_8, n0_8, e0_8, rfl, rfl, hb0_7, (Wm hs0_7 (le112.t le123)), (hr0_8.mono (le112.t le123))⟩
      ·refine Sc ?_
       refine Ab <| Sq ?_
       obtain ⟨j174, hj176, h177⟩ := bind_some h168
       refine RD 12 13 [(sb b114 (Cf r106.1) 34)] [(sb bp0 #[(.bool x0.o_.Report), (.bool x0.o_.Serial), (.bool x0.o_.Zone), (sv x0.l_.Call), (vi x0.l_.Category), (vi x0.l_.Power), (vi x0.l_.Claimed), (.slice a0_7 x0.l_.Jumps.length n0_7), (.slice a0_8 x0.l_.Lines.length n0_8), (fV 153 #[]), (fV 154 #[]), (fV 190 #[(pt tb0_9_0 0), (pt tb0_9_1 0), (pt tb0_9_2 0), (pt tb0_9_3 0)]), (fV 191 #[(pt tb0_9_0 0), (pt tb0_9_3 0)]), (fV 190 #[(pt tb0_9_4 0), (pt tb0_9_5 0), (pt tb0_9_6 0), (pt tb0_9_7 0)]), (fV 191 #[(pt tb0_9_4 0), (pt tb0_9_7 0)]), (fV 190 #[(pt tb0_9_8 0), (pt tb0_9_9 0), (pt tb0_9_10 0), (pt tb0_9_11 0)]), (fV 191 #[(pt tb0_9_8 0), (pt tb0_9_11 0)]), (fV 159 #[]), (fV 160 #[]), (vi x0.done_), (.bool x0.ended_)] 130)] hs122 (fun f w => ∃ (F10 : Mem) (aj174_0 : WF) (nj174_0 : Nat) (ej174_0 : Option Nat × Obj), HS wb Fb w F10 ((sb bp0 #[(.bool x0.o_.Report), (.bool x0.o_.Serial), (.bool x0.o_.Zone), (sv x0.l_.Call), (vi x0.l_.Category), (vi x0.l_.Power), (vi x0.l_.Claimed), (.slice a0_7 x0.l_.Jumps.length n0_7), (.slice aj174_0 j174.length nj174_0), (fV 153 #[]), (fV 154 #[]), (fV 190 #[(pt tb0_9_0 0), (pt tb0_9_1 0), (pt tb0_9_2 0), (pt tb0_9_3 0)]), (fV 191 #[(pt tb0_9_0 0), (pt tb0_9_3 0)]), (fV 190 #[(pt tb0_9_4 0), (pt tb0_9_5 0), (pt tb0_9_6 0), (pt tb0_9_7 0)]), (fV 191 #[(pt tb0_9_4 0), (pt tb0_9_7 0)]), (fV 190 #[(pt tb0_9_8 0), (pt tb0_9_9 0), (pt tb0_9_10 0), (pt tb0_9_11 0)]), (fV 191 #[(pt tb0_9_8 0), (pt tb0_9_11 0)]), (fV 159 #[]), (fV 160 #[]), (vi x0.done_), (.bool x0.ended_)] 130) :: ej174_0 :: Lf) /\ Wj F9 F10 /\ FI f [] [] /\ Av AC 34 F10 aj174_0 nj174_0 j174 ej174_0) (fun wd169 hw170 => ?_) ?_
       ·refine Dv [0, 1, 2, 3, 4] ?_
        refine Dl 5 (fun _ hq => ((hq.2 rfl).2 0 _ _ rfl)) <| Dl 6 (fun _ hq => (hq.1.2 0 _ _ rfl)) <| D1 7 <| DBs 34 [(vi r106.1.Num), (vi r106.1.Khz), (vi r106.1.Mode), (vi r106.1.Minute), (sv r106.1.Call), (vi r106.1.Sent.Report), (vi r106.1.Sent.Serial), (vi r106.1.Sent.Zone), (vi r106.1.Got.Report), (vi r106.1.Got.Serial), (vi r106.1.Got.Zone)] hw170 (Wk _) (fun b178 w179 hs180 => ?_)
        have hr182 : Av AC 34 F9 (some ⟨b178, 0, none⟩) 1 [r106.1] (some b178, .cells ([(vi r106.1.Num), (vi r106.1.Khz), (vi r106.1.Mode), (vi r106.1.Minute), (sv r106.1.Call), (vi r106.1.Sent.Report), (vi r106.1.Sent.Serial), (vi r106.1.Sent.Zone), (vi r106.1.Got.Report), (vi r106.1.Got.Serial), (vi r106.1.Got.Zone)] : List Value).toArray 34 (0, 0)) := Wz ⟨rfl, rfl⟩ (by simp)
        refine D1 8 ?_
        obtain ⟨r183, hap184, h185⟩ := bind_some hj176
        refine Wc SD hs180 (hr0_8.mono (le112.t le123)) (hs180.rd0 hr182) hap184 (Wk _) (fun a186 n187 e188 w189 hs190 hr191 => ?_)
        refine D1 9 <| Wt (l' := [true, true, true, true, true, true, true, true, true, true, false, false, false]) (zd := false) (by kernel_rfl) (by kernel_rfl) (dst := (some 117)) (ty := 0) (g := none) (by kernel_rfl) rfl (Ef (x := (.tmp 108)) (a := ⟨bp0, 0, none⟩) rfl) (Bd hs190 (Wk _) (by simp) (fun _ => by simp)) <| D1 10 <| Wt (l' := [true, true, true, true, true, true, true, true, true, true, true, false, false]) (zd := false) (by kernel_rfl) (by kernel_rfl) (dst := (some 118)) (ty := 0) (g := none) (by kernel_rfl) rfl (CU (s := 130) (x := (.tmp 117)) (i := 1) (o := 3) (k := 6) (b := bp0) (o0 := 0) rfl (by kernel_rfl) rfl (o1 := 3) rfl) (Bd hs190 (Wk _) (by simp) (fun _ => by simp)) <| Dv [11] <| D1 12 <| Nx #[(.bool x0.o_.Report), (.bool x0.o_.Serial), (.bool x0.o_.Zone), (sv x0.l_.Call), (vi x0.l_.Category), (vi x0.l_.Power), (vi x0.l_.Claimed), (.slice a0_7 x0.l_.Jumps.length n0_7), (.slice a186 r183.length n187), (fV 153 #[]), (fV 154 #[]), (fV 190 #[(pt tb0_9_0 0), (pt tb0_9_1 0), (pt tb0_9_2 0), (pt tb0_9_3 0)]), (fV 191 #[(pt tb0_9_0 0), (pt tb0_9_3 0)]), (fV 190 #[(pt tb0_9_4 0), (pt tb0_9_5 0), (pt tb0_9_6 0), (pt tb0_9_7 0)]), (fV 191 #[(pt tb0_9_4 0), (pt tb0_9_7 0)]), (fV 190 #[(pt tb0_9_8 0), (pt tb0_9_9 0), (pt tb0_9_10 0), (pt tb0_9_11 0)]), (fV 191 #[(pt tb0_9_8 0), (pt tb0_9_11 0)]), (fV 159 #[]), (fV 160 #[]), (vi x0.done_), (.bool x0.ended_)] hs190 (Wk _) (fun w192 hs193 => ?_)
        obtain rfl := Aa h185
        exact Ww (by kernel_rfl) ⟨F9, a186, n187, e188, hs193.dr0.dr0, (Wk _), fI, hr191⟩
       ·rintro f w171 ⟨F10, aj174_0, nj174_0, ej174_0, hs172, le173, ⟨_, rfl⟩, hrj174_0⟩
        refine Ab <| Sq (Rg [0, 1] ?_)
        refine Vs 2 <| Nt <| Rt ?_
        obtain rfl := Aa h177
        exact ReB [(.bool true), (.bool false)] hs172 ((le112.t le123).trans le173) ⟨a0_7, n0_7, aj174_0, nj174_0, ej174_0, rfl, rfl, hb0_7, (Wm hs0_7 ((le112.t le123).trans le173)), hrj174_0⟩
def B5 {σ : Type} (N : Nat) (y : (σ -> (WE × Bool) -> Option (Bool × σ))) (z0 : WE) (s : σ) : (WE × σ) -> Option (Bt σ (WE × σ)) := fun s4 =>
 (bif (s4.1 != ([] : WE)) then ((strings_Cut N s4.1 ([10] : WE)).bind fun r29 => ((y s4.2 (r29.1, r29.2.2)).bind fun q37 => (bif (!q37.1) then some (.ret q37.2) else some (.next (r29.2.1, q37.2))))) else some (.done (s4.1, s4.2)))
def Ds {σ : Type} (N : Nat) (y : σ -> (WE × Bool) -> Option (Bool × σ)) (z0 : WE) (s : σ) : Option σ :=
 ((AX (B5 N y z0 s) N (z0, s)).bind fun o => o.k (fun r => some r) (fun s13 => some s13.2))
theorem Hp : Af Tryz.prog 169 := fun _ _ => by kernel_rfl
theorem Io (N : Nat) (F0 : Mem) (hG : Bz F0) (z0 : WE) (bz0 : Nat) :
  Rh Tryz.prog 169 [(pt bz0 0)] F0 [(sb bz0 #[(sv z0)] 9)] Qs SC So (fun {_} y s => Ds N y z0 s) := by
 intro σ wb w0 Fb F1 l y J s r Lf le01 hJm hs0 hJ hY h
 have hs0 : HS wb Fb w0 F1 ((sb bz0 #[(sv z0)] 9) :: Lf) := hs0
 refine MV (n := 20) (c := M1 Tryz.f169) Tryz.func169 (by kernel_rfl) (by kernel_rfl) (by kernel_rfl) ?_
 obtain ⟨o1, ho2, h3⟩ := bind_some h
 refine Wq (fun f w => ∃ (s13 : (WE × σ)) (F3 : Mem) (Lf17 : Own), o1 = .done s13 /\ HS wb Fb w F3 Lf17 /\ Wj F1 F3 /\ FI f [] [] /\ J s13.2 F3 Lf17) ?_ ?_
 ·refine Bk ?_
  refine Wi (by kernel_rfl) (fun m f w => ∃ (s4 : (WE × σ)) (F2 : Mem) (Lf8 : Own), AX (B5 N y z0 s) m s4 = some o1 /\ HS wb Fb w F2 ((sb bz0 #[(sv s4.1)] 9) :: Lf8) /\ Wj F1 F2 /\ FI f [] [(0, (.func (.yield l) #[] #[])), (1, (pt bz0 0))] /\ J s4.2 F2 Lf8) N ⟨(z0, s), F1, Lf, ho2, hs0, (Wk _), fI, hJ⟩ ?_
  rintro m20 f w5 ⟨s4, F2, Lf8, hit21, hs6, le7, ⟨_, rfl⟩, hJ9⟩
  obtain ⟨m22, fl23, rfl, hb24, hnx25⟩ := AN hit21
  refine Sq <| Sq (Rg [0, 1] ?_)
  refine Ld hs6.at0 <| Vs 1 <| Nt <| Cd hb24 (fun hb26 h27 => ?_) (fun hb26 h28 => ?_)
  ·refine Sc ?_
   refine Ab <| Bk <| Sq (Rg (rG 9) ?_)
   refine Ld hs6.at0 ?_
   obtain ⟨r29, hr30, h31⟩ := bind_some h27
   refine Cl' H9 hs6 (I7 N w5 F2 hs6.pers (hG.mono (le01.t le7)) s4.1 (([10] : WE)) _ hr30) ?_
   rintro _ F4 w33 hs34 le35 rfl
   refine Vs 1 <| Vs 1 <| Vs 1 <| Vs 1 <| Vs 1 <| Vs 1 <| Vs 1 <| Nss <| Sq (Rg (rG 5) ?_)
   refine Vs 1 <| Vs 1 <| Vs 1 ?_
   obtain ⟨q37, hq38, h39⟩ := bind_some h31
   refine RWP.yield (dst := (some 17)) (ty := 4) (g := none) (by kernel_rfl) rfl (f0 := (.tmp 14)) (aos := #[(.tmp 15), (.tmp 16)]) (ats := #[9, 4]) (l := l) (args := [(sv r29.1), (.bool r29.2.2)]) rfl rfl (hY s4.2 (r29.1, r29.2.2) w33 F4 [(sb bz0 #[(sv s4.1)] 9)] Lf8 q37 (le7.t le35) trivial (hJm _ _ _ _ hJ9 le35) hs34 hq38) ?_
   rintro _ w40 ⟨F5, Lf44, rfl, hs41, le42, hJ43⟩
   have hs45 : HS wb Fb w40 F5 ((sb bz0 #[(sv s4.1)] 9) :: Lf44) := hs41
   refine ⟨_, rfl, ?_⟩
   refine Vs 1 <| Nt <| Cd h39 (fun hb46 h47 => ?_) (fun hb46 h48 => ?_)
   ·refine Rt ?_
    refine Ae <| Ax <| Ae <| Ax ?_
    have hret := Cw h47 hnx25
    subst hret
    refine .inr ?_
    have hfin := Aa h3
    subst hfin
    exact ⟨rfl, .tuple #[], AW (l := []) (by kernel_rfl) (vs := []) trivial, F5, Lf44, rfl, hs45.dr0, ((le7.t le35).trans le42), hJ43⟩
   ·refine Sc ?_
    refine Ab <| Rg [0, 1] <| Vs 1 <| St0 #[(sv r29.2.1)] hs45 (fun w49 hs50 => ?_)
    refine Wf <| Au ?_
    have hn51 := AO h48 hnx25
    exact ⟨m22, Nat.lt_succ_self _, (r29.2.1, q37.2), F5, Lf44, hn51, hs50, ((le7.t le35).trans le42), fI, hJ43⟩
  ·refine Ex ?_
   refine Ar <| Ar <| Az rfl ?_
   have ho52 := AP h28 hnx25
   exact .inl ⟨rfl, (s4.1, s4.2), F2, Lf8, ho52, hs6.dr0, le7, fI, hJ9⟩
 ·rintro f w14 ⟨s13, F3, Lf17, rfl, hs15, le16, ⟨_, rfl⟩, hJ18⟩
  have h53 := BL h3
  have hfin := Aa h53
  subst hfin
  exact ⟨rfl, .tuple #[], AW (l := []) (by kernel_rfl) (vs := []) trivial, F3, Lf17, rfl, hs15, le16, hJ18⟩
theorem I5 : Af Tryz.prog 105 := fun _ _ => by kernel_rfl
set_option maxRecDepth 100000 in
theorem Kg (w0 : World) (F0 : Mem) (hF : WG w0 F0) (x0 : WE) :
  Calls Tryz.prog 105 ([(.string ⟨x0.toArray⟩)] : List Value).toArray w0 (M4 w0 F0 fun _ v L' => ∃ (b0 : Nat), v = .func (.func 169) #[] #[.pointer (some ⟨b0, 0, none⟩)] /\ L' = [(some b0, .cells #[(.string ⟨x0.toArray⟩)] 9 (0, 0))]) := by
 have hs0 := Wl hF
 refine Go 4 Tryz.func105 <| Sq (Rg [0, 1] ?_)
 refine Bx' 9 #[(.string ⟨x0.toArray⟩)] hs0 (fun b0 w1 hs1 => ?_)
 refine Vs 1 <| Nss (Rg [0, 1] ?_)
 refine Vs 2 <| Nt <| Rt ?_
 exact ⟨rfl, _, AW (l := [.tmp 2]) (by kernel_rfl) (vs := [.func (.func 169) #[] #[.pointer (some ⟨b0, 0, none⟩)]]) ⟨by kernel_rfl, trivial⟩, _, F0, _, rfl, hs1, b0, rfl, rfl⟩
def Be (N : Nat) (x0 : Ac) (x1 : WE) : (Int × Int × Bool × Bool × Bool × WE × Int × Int × Int × List Int × List Line × Int × Bool × Int) -> (WE × Bool) -> Option ((Int × Int × Bool × Bool × Bool × WE × Int × Int × Int × List Int × List Line × Int × Bool × Int) × Bool) := fun s103 x116 =>
 ((bif x116.2 then ((AQ N ({ o_ := ({ Report := s103.2.2.1, Serial := s103.2.2.2.1, Zone := s103.2.2.2.2.1 } : Ac), l_ := ({ Call := s103.2.2.2.2.2.1, Category := s103.2.2.2.2.2.2.1, Power := s103.2.2.2.2.2.2.2.1, Claimed := s103.2.2.2.2.2.2.2.2.1, Jumps := s103.2.2.2.2.2.2.2.2.2.1, Lines := s103.2.2.2.2.2.2.2.2.2.2.1 } : Log), done_ := s103.2.2.2.2.2.2.2.2.2.2.2.1, ended_ := s103.2.2.2.2.2.2.2.2.2.2.2.2.1 } : Ai) x116.1).bind fun r151 => some (r151.2.1, r151.2.2, r151.1.o_.Report, r151.1.o_.Serial, r151.1.o_.Zone, r151.1.l_.Call, r151.1.l_.Category, r151.1.l_.Power, r151.1.l_.Claimed, r151.1.l_.Jumps, r151.1.l_.Lines, r151.1.done_, r151.1.ended_)) else some (false, false, s103.2.2.1, s103.2.2.2.1, s103.2.2.2.2.1, s103.2.2.2.2.2.1, s103.2.2.2.2.2.2.1, s103.2.2.2.2.2.2.2.1, s103.2.2.2.2.2.2.2.2.1, s103.2.2.2.2.2.2.2.2.2.1, s103.2.2.2.2.2.2.2.2.2.2.1, s103.2.2.2.2.2.2.2.2.2.2.2.1, s103.2.2.2.2.2.2.2.2.2.2.2.2.1)).bind fun j136 => (bif j136.2.1 then some ((2, (W64 (s103.2.2.2.2.2.2.2.2.2.2.2.2.2 + 1)), j136.2.2.1, j136.2.2.2.1, j136.2.2.2.2.1, j136.2.2.2.2.2.1, j136.2.2.2.2.2.2.1, j136.2.2.2.2.2.2.2.1, j136.2.2.2.2.2.2.2.2.1, j136.2.2.2.2.2.2.2.2.2.1, j136.2.2.2.2.2.2.2.2.2.2.1, j136.2.2.2.2.2.2.2.2.2.2.2.1, j136.2.2.2.2.2.2.2.2.2.2.2.2, (W64 (s103.2.2.2.2.2.2.2.2.2.2.2.2.2 + 1))), false) else (bif (!j136.1) then some ((20, (W64 (s103.2.2.2.2.2.2.2.2.2.2.2.2.2 + 1)), j136.2.2.1, j136.2.2.2.1, j136.2.2.2.2.1, j136.2.2.2.2.2.1, j136.2.2.2.2.2.2.1, j136.2.2.2.2.2.2.2.1, j136.2.2.2.2.2.2.2.2.1, j136.2.2.2.2.2.2.2.2.2.1, j136.2.2.2.2.2.2.2.2.2.2.1, j136.2.2.2.2.2.2.2.2.2.2.2.1, j136.2.2.2.2.2.2.2.2.2.2.2.2, (W64 (s103.2.2.2.2.2.2.2.2.2.2.2.2.2 + 1))), false) else some ((s103.1, s103.2.1, j136.2.2.1, j136.2.2.2.1, j136.2.2.2.2.1, j136.2.2.2.2.2.1, j136.2.2.2.2.2.2.1, j136.2.2.2.2.2.2.2.1, j136.2.2.2.2.2.2.2.2.1, j136.2.2.2.2.2.2.2.2.2.1, j136.2.2.2.2.2.2.2.2.2.2.1, j136.2.2.2.2.2.2.2.2.2.2.2.1, j136.2.2.2.2.2.2.2.2.2.2.2.2, (W64 (s103.2.2.2.2.2.2.2.2.2.2.2.2.2 + 1))), true))))
def CJ (N : Nat) (x0 : Ac) (x1 : WE) : Option (Log × Int × Int) :=
 (bif (decide ((x1.length : Int) > 65536)) then some (({ Call := ([] : WE), Category := 0, Power := 0, Claimed := 0, Jumps := ([] : List Int), Lines := ([] : List Line) } : Log), 2, 0) else ((Ds N (OH (Be N x0 x1)) x1 ((0, 0, x0.Report, x0.Serial, x0.Zone, ([] : WE), 0, 0, 0, ([] : List Int), ([] : List Line), 0, false, 0), true)).bind fun r111 => (bif r111.2 then (bif (!r111.1.2.2.2.2.2.2.2.2.2.2.2.2.1) then some (({ Call := ([] : WE), Category := 0, Power := 0, Claimed := 0, Jumps := ([] : List Int), Lines := ([] : List Line) } : Log), 20, (W64 (r111.1.2.2.2.2.2.2.2.2.2.2.2.2.2 + 1))) else some (({ Call := r111.1.2.2.2.2.2.1, Category := r111.1.2.2.2.2.2.2.1, Power := r111.1.2.2.2.2.2.2.2.1, Claimed := r111.1.2.2.2.2.2.2.2.2.1, Jumps := r111.1.2.2.2.2.2.2.2.2.2.1, Lines := r111.1.2.2.2.2.2.2.2.2.2.2.1 } : Log), 0, 0)) else some (({ Call := ([] : WE), Category := 0, Power := 0, Claimed := 0, Jumps := ([] : List Int), Lines := ([] : List Line) } : Log), r111.1.1, r111.1.2.1))))
theorem Cn : Af Tryz.prog 33 := fun _ _ => by kernel_rfl
theorem CO (N : Nat) (w0 : World) (F0 : Mem) (hF : WG w0 F0) (hG : Bz F0) (x0 : Ac) (x1 : WE) (r : (Log × Int × Int)) (h : CJ N x0 x1 = some r) :
  Calls Tryz.prog 33 ([(.agg (Ak x0)), (sv x1)] : List Value).toArray w0 (AB w0 F0 fun F' v => ∃ (aq0_4 : WF) (nq0_4 : Nat) (aq0_5 : WF) (nq0_5 : Nat), v = (.tuple #[(.agg (AF r.1 aq0_4 nq0_4 aq0_5 nq0_5)), (vi r.2.1), (vi r.2.2)]) /\ LC r.1.Jumps.length nq0_4 /\ SlA AD F' aq0_4 r.1.Jumps /\ LC r.1.Lines.length nq0_5 /\ SlA AC F' aq0_5 r.1.Lines) := by
 have hs0 := Wl hF
 refine NS (n := 55) (c := M1 Tryz.f33) Tryz.func33 (by kernel_rfl) (by kernel_rfl) (by kernel_rfl) <| Sq (Rg (rG 4) ?_)
 refine Bx' 23 (Ak x0) hs0 (fun b21 w22 hs23 => ?_)
 refine Al' 27 #[(sv (([] : WE))), (vi 0), (vi 0), (vi 0), (.slice none ([] : List Int).length 0), (.slice none ([] : List Line).length 0)] hs23 (fun b24 w25 hs26 => ?_)
 refine Al' 35 #[(vi 0)] hs26 (fun b27 w28 hs29 => ?_)
 refine Al' 3 #[(vi 0)] hs29 (fun b30 w31 hs32 => ?_)
 refine Nss <| Sq (Rg [0, 1, 2] ?_)
 refine Vs 3 <| Nt <| Cd h (fun hb33 h34 => ?_) (fun hb33 h35 => ?_)
 ·refine Sq (Rg (rG 4) ?_)
  refine Vs 1 <| St2 #[(sv (([] : WE))), (vi 0), (vi 0), (vi 0), (.slice none ([] : List Int).length 0), (.slice none ([] : List Line).length 0)] hs32 (fun w36 hs37 => ?_)
  refine St1 #[(vi 2)] hs37 (fun w38 hs39 => ?_)
  refine St0 #[(vi 0)] hs39 (fun w40 hs41 => ?_)
  refine Nt <| Rt <| Ae ?_
  obtain rfl := Aa h34
  exact .inl ⟨rfl, (.tuple #[(.agg #[(sv (([] : WE))), (vi 0), (vi 0), (vi 0), (.slice none ([] : List Int).length 0), (.slice none ([] : List Line).length 0)]), (vi 2), (vi 0)]), AW (l := [.cell 4 27, .cell 5 35, .cell 6 3]) (by kernel_rfl) (vs := [(.agg #[(sv (([] : WE))), (vi 0), (vi 0), (vi 0), (.slice none ([] : List Int).length 0), (.slice none ([] : List Line).length 0)]), (vi 2), (vi 0)]) ⟨b24, 0, rfl, Am (t := 27) (g := true) (s := 6) (by kernel_rfl) hs41.at2 rfl (by decide), ⟨b27, 0, rfl, Am (t := 35) (g := false) (s := 1) (by kernel_rfl) hs41.at1 rfl (by decide), ⟨b30, 0, rfl, Am (t := 3) (g := false) (s := 1) (by kernel_rfl) hs41.at0 rfl (by decide), trivial⟩⟩⟩, (.tuple #[(.agg #[(sv (([] : WE))), (vi 0), (vi 0), (vi 0), (.slice none ([] : List Int).length 0), (.slice none ([] : List Line).length 0)]), (vi 2), (vi 0)]), F0, rfl, hs41.clear, ⟨none, 0, none, 0, rfl, Wn, (.inl rfl), Wn, (.inl rfl)⟩⟩
 ·refine Sc ?_
  refine Ab <| Sq <| RD 5 6 [(sb b30 #[(vi 0)] 3), (sb b27 #[(vi 0)] 35), (sb b24 #[(sv (([] : WE))), (vi 0), (vi 0), (vi 0), (.slice none ([] : List Int).length 0), (.slice none ([] : List Line).length 0)] 27), (sb b21 (Ak x0) 23)] [] hs32 (fun f w => ∃ (F1 : Mem) (b47 : Nat) (b48 : Nat) (tbt49_0_0 : Nat) (tbt49_0_1 : Nat) (tbt49_0_2 : Nat) (tbt49_0_3 : Nat) (tbt49_0_4 : Nat) (tbt49_0_5 : Nat) (tbt49_0_6 : Nat) (tbt49_0_7 : Nat) (tbt49_0_8 : Nat) (tbt49_0_9 : Nat) (tbt49_0_10 : Nat) (tbt49_0_11 : Nat), HS w0 F0 w F1 [(sb b47 #[(pt b48 0)] 128), (sb b48 #[(.bool x0.Report), (.bool x0.Serial), (.bool x0.Zone), (sv (([] : WE))), (vi 0), (vi 0), (vi 0), (.slice none ([] : List Int).length 0), (.slice none ([] : List Line).length 0), (fV 153 #[]), (fV 154 #[]), (fV 190 #[(pt tbt49_0_0 0), (pt tbt49_0_1 0), (pt tbt49_0_2 0), (pt tbt49_0_3 0)]), (fV 191 #[(pt tbt49_0_0 0), (pt tbt49_0_3 0)]), (fV 190 #[(pt tbt49_0_4 0), (pt tbt49_0_5 0), (pt tbt49_0_6 0), (pt tbt49_0_7 0)]), (fV 191 #[(pt tbt49_0_4 0), (pt tbt49_0_7 0)]), (fV 190 #[(pt tbt49_0_8 0), (pt tbt49_0_9 0), (pt tbt49_0_10 0), (pt tbt49_0_11 0)]), (fV 191 #[(pt tbt49_0_8 0), (pt tbt49_0_11 0)]), (fV 159 #[]), (fV 160 #[]), (vi 0), (.bool false)] 130), (sb b30 #[(vi 0)] 3), (sb b27 #[(vi 0)] 35), (sb b24 #[(sv (([] : WE))), (vi 0), (vi 0), (vi 0), (.slice none ([] : List Int).length 0), (.slice none ([] : List Line).length 0)] 27)] /\ Wj F0 F1 /\ FI f [] [(1, (sv x1)), (4, (pt b24 0)), (5, (pt b27 0)), (6, (pt b30 0)), (7, (pt b47 0))] /\ F1 tbt49_0_0 = some (oc #[(sv (([67, 65, 84, 69, 71, 79, 82, 89] : WE)))] 9) /\ F1 tbt49_0_1 = some (oc #[(vi 1)] 3) /\ F1 tbt49_0_2 = some (oc #[(vi 9)] 3) /\ F1 tbt49_0_3 = some (oc #[(fV 156 #[])] 195) /\ F1 tbt49_0_4 = some (oc #[(sv (([80, 79, 87, 69, 82] : WE)))] 9) /\ F1 tbt49_0_5 = some (oc #[(vi 1)] 3) /\ F1 tbt49_0_6 = some (oc #[(vi 9999)] 3) /\ F1 tbt49_0_7 = some (oc #[(fV 157 #[])] 195) /\ F1 tbt49_0_8 = some (oc #[(sv (([67, 76, 65, 73, 77, 69, 68] : WE)))] 9) /\ F1 tbt49_0_9 = some (oc #[(vi 0)] 3) /\ F1 tbt49_0_10 = some (oc #[(vi 1000000)] 3) /\ F1 tbt49_0_11 = some (oc #[(fV 158 #[])] 195)) (fun wd42 hw43 => ?_) ?_
  ·refine Dl 0 (fun _ hq => (hq.1.2 3 _ _ rfl)) ?_
   refine Ws (i := 1) (j := 4) (by kernel_rfl) ?_ ?_
   ·refine DCl EI hw43 (Fj wd42 F0 hw43.pers) ?_
    rintro _ F2 w56 hs57 le58 ⟨tbt59_0_0, tbt59_0_1, tbt59_0_2, tbt59_0_3, tbt59_0_4, tbt59_0_5, tbt59_0_6, tbt59_0_7, tbt59_0_8, tbt59_0_9, tbt59_0_10, tbt59_0_11, rfl, htbt59_0_0, htbt59_0_1, htbt59_0_2, htbt59_0_3, htbt59_0_4, htbt59_0_5, htbt59_0_6, htbt59_0_7, htbt59_0_8, htbt59_0_9, htbt59_0_10, htbt59_0_11⟩
    refine Dv [2] <| Ws (i := 3) (j := 4) (by kernel_rfl) ?_ ?_
    ·refine DBx 130 #[(.bool x0.Report), (.bool x0.Serial), (.bool x0.Zone), (sv (([] : WE))), (vi 0), (vi 0), (vi 0), (.slice none ([] : List Int).length 0), (.slice none ([] : List Line).length 0), (fV 153 #[]), (fV 154 #[]), (fV 190 #[(pt tbt59_0_0 0), (pt tbt59_0_1 0), (pt tbt59_0_2 0), (pt tbt59_0_3 0)]), (fV 191 #[(pt tbt59_0_0 0), (pt tbt59_0_3 0)]), (fV 190 #[(pt tbt59_0_4 0), (pt tbt59_0_5 0), (pt tbt59_0_6 0), (pt tbt59_0_7 0)]), (fV 191 #[(pt tbt59_0_4 0), (pt tbt59_0_7 0)]), (fV 190 #[(pt tbt59_0_8 0), (pt tbt59_0_9 0), (pt tbt59_0_10 0), (pt tbt59_0_11 0)]), (fV 191 #[(pt tbt59_0_8 0), (pt tbt59_0_11 0)]), (fV 159 #[]), (fV 160 #[]), (vi 0), (.bool false)] hs57 le58 (fun b60 w61 hs62 => ?_)
     refine D1 4 <| DAl 128 #[(.pointer none)] hs62 le58 (fun b63 w64 hs65 => ?_)
     refine D1 5 <| Gr #[(pt b60 0)] hs65 le58 (fun w66 hs67 => ?_)
     exact Ww (by kernel_rfl) ⟨F2, b63, b60, tbt59_0_0, tbt59_0_1, tbt59_0_2, tbt59_0_3, tbt59_0_4, tbt59_0_5, tbt59_0_6, tbt59_0_7, tbt59_0_8, tbt59_0_9, tbt59_0_10, tbt59_0_11, hs67.dr5, le58, fI, htbt59_0_0, htbt59_0_1, htbt59_0_2, htbt59_0_3, htbt59_0_4, htbt59_0_5, htbt59_0_6, htbt59_0_7, htbt59_0_8, htbt59_0_9, htbt59_0_10, htbt59_0_11⟩
    ·refine DAl 128 #[(.pointer none)] hs57 le58 (fun b68 w69 hs70 => ?_)
     refine D1 3 <| DBx 130 #[(.bool x0.Report), (.bool x0.Serial), (.bool x0.Zone), (sv (([] : WE))), (vi 0), (vi 0), (vi 0), (.slice none ([] : List Int).length 0), (.slice none ([] : List Line).length 0), (fV 153 #[]), (fV 154 #[]), (fV 190 #[(pt tbt59_0_0 0), (pt tbt59_0_1 0), (pt tbt59_0_2 0), (pt tbt59_0_3 0)]), (fV 191 #[(pt tbt59_0_0 0), (pt tbt59_0_3 0)]), (fV 190 #[(pt tbt59_0_4 0), (pt tbt59_0_5 0), (pt tbt59_0_6 0), (pt tbt59_0_7 0)]), (fV 191 #[(pt tbt59_0_4 0), (pt tbt59_0_7 0)]), (fV 190 #[(pt tbt59_0_8 0), (pt tbt59_0_9 0), (pt tbt59_0_10 0), (pt tbt59_0_11 0)]), (fV 191 #[(pt tbt59_0_8 0), (pt tbt59_0_11 0)]), (fV 159 #[]), (fV 160 #[]), (vi 0), (.bool false)] hs70 le58 (fun b71 w72 hs73 => ?_)
     refine D1 5 <| Ly #[(pt b71 0)] hs73 le58 (fun w74 hs75 => ?_)
     have hs76 := hs75.dr5.pk4.pk4.pk4.pk3.pk4
     exact Ww (by kernel_rfl) ⟨F2, b68, b71, tbt59_0_0, tbt59_0_1, tbt59_0_2, tbt59_0_3, tbt59_0_4, tbt59_0_5, tbt59_0_6, tbt59_0_7, tbt59_0_8, tbt59_0_9, tbt59_0_10, tbt59_0_11, hs76, le58, fI, htbt59_0_0, htbt59_0_1, htbt59_0_2, htbt59_0_3, htbt59_0_4, htbt59_0_5, htbt59_0_6, htbt59_0_7, htbt59_0_8, htbt59_0_9, htbt59_0_10, htbt59_0_11⟩
   ·refine DAl 128 #[(.pointer none)] hw43 (Wk _) (fun b77 w78 hs79 => ?_)
    refine D1 1 <| DCl EI hs79 (Fj w78 F0 hs79.pers) ?_
    rintro _ F3 w80 hs81 le82 ⟨tbt83_0_0, tbt83_0_1, tbt83_0_2, tbt83_0_3, tbt83_0_4, tbt83_0_5, tbt83_0_6, tbt83_0_7, tbt83_0_8, tbt83_0_9, tbt83_0_10, tbt83_0_11, rfl, htbt83_0_0, htbt83_0_1, htbt83_0_2, htbt83_0_3, htbt83_0_4, htbt83_0_5, htbt83_0_6, htbt83_0_7, htbt83_0_8, htbt83_0_9, htbt83_0_10, htbt83_0_11⟩
    refine Dv [2] <| D1 3 <| DBx 130 #[(.bool x0.Report), (.bool x0.Serial), (.bool x0.Zone), (sv (([] : WE))), (vi 0), (vi 0), (vi 0), (.slice none ([] : List Int).length 0), (.slice none ([] : List Line).length 0), (fV 153 #[]), (fV 154 #[]), (fV 190 #[(pt tbt83_0_0 0), (pt tbt83_0_1 0), (pt tbt83_0_2 0), (pt tbt83_0_3 0)]), (fV 191 #[(pt tbt83_0_0 0), (pt tbt83_0_3 0)]), (fV 190 #[(pt tbt83_0_4 0), (pt tbt83_0_5 0), (pt tbt83_0_6 0), (pt tbt83_0_7 0)]), (fV 191 #[(pt tbt83_0_4 0), (pt tbt83_0_7 0)]), (fV 190 #[(pt tbt83_0_8 0), (pt tbt83_0_9 0), (pt tbt83_0_10 0), (pt tbt83_0_11 0)]), (fV 191 #[(pt tbt83_0_8 0), (pt tbt83_0_11 0)]), (fV 159 #[]), (fV 160 #[]), (vi 0), (.bool false)] hs81 le82 (fun b84 w85 hs86 => ?_)
    refine D1 5 <| Ly #[(pt b84 0)] hs86 le82 (fun w87 hs88 => ?_)
    have hs89 := hs88.dr5.pk4.pk4.pk4.pk3.pk4
    exact Ww (by kernel_rfl) ⟨F3, b77, b84, tbt83_0_0, tbt83_0_1, tbt83_0_2, tbt83_0_3, tbt83_0_4, tbt83_0_5, tbt83_0_6, tbt83_0_7, tbt83_0_8, tbt83_0_9, tbt83_0_10, tbt83_0_11, hs89, le82, fI, htbt83_0_0, htbt83_0_1, htbt83_0_2, htbt83_0_3, htbt83_0_4, htbt83_0_5, htbt83_0_6, htbt83_0_7, htbt83_0_8, htbt83_0_9, htbt83_0_10, htbt83_0_11⟩
  ·rintro f w44 ⟨F1, b47, b48, tbt49_0_0, tbt49_0_1, tbt49_0_2, tbt49_0_3, tbt49_0_4, tbt49_0_5, tbt49_0_6, tbt49_0_7, tbt49_0_8, tbt49_0_9, tbt49_0_10, tbt49_0_11, hs45, le46, ⟨_, rfl⟩, htbt49_0_0, htbt49_0_1, htbt49_0_2, htbt49_0_3, htbt49_0_4, htbt49_0_5, htbt49_0_6, htbt49_0_7, htbt49_0_8, htbt49_0_9, htbt49_0_10, htbt49_0_11⟩
   refine Ab <| Sq (Rg [0, 1] ?_)
   refine Al' 3 #[(vi 0)] hs45 (fun b90 w91 hs92 => ?_)
   refine St0 #[(vi 0)] hs92 (fun w93 hs94 => ?_)
   refine Nss <| Sq (Rg [0, 1] ?_)
   refine Vs 1 <| RWP.callO (dst := (some 22)) (ty := 132) (g := none) (by kernel_rfl) rfl (f0 := (.func 105)) (aos := #[(.tmp 21)]) (ats := #[9]) (fid := 105) (first := #[]) (cap := #[]) (args := [(sv x1)]) rfl I5 rfl hs94 (Kg w93 F1 hs94.pers x1) ?_
   rintro _ F4 w96 _ hs97 le98 ⟨b95, rfl, rfl⟩
   have hs99 : HS w0 F0 w96 F4 [(sb b95 #[(sv x1)] 9), (sb b90 #[(vi 0)] 3), (sb b47 #[(pt b48 0)] 128), (sb b48 #[(.bool x0.Report), (.bool x0.Serial), (.bool x0.Zone), (sv (([] : WE))), (vi 0), (vi 0), (vi 0), (.slice none ([] : List Int).length 0), (.slice none ([] : List Line).length 0), (fV 153 #[]), (fV 154 #[]), (fV 190 #[(pt tbt49_0_0 0), (pt tbt49_0_1 0), (pt tbt49_0_2 0), (pt tbt49_0_3 0)]), (fV 191 #[(pt tbt49_0_0 0), (pt tbt49_0_3 0)]), (fV 190 #[(pt tbt49_0_4 0), (pt tbt49_0_5 0), (pt tbt49_0_6 0), (pt tbt49_0_7 0)]), (fV 191 #[(pt tbt49_0_4 0), (pt tbt49_0_7 0)]), (fV 190 #[(pt tbt49_0_8 0), (pt tbt49_0_9 0), (pt tbt49_0_10 0), (pt tbt49_0_11 0)]), (fV 191 #[(pt tbt49_0_8 0), (pt tbt49_0_11 0)]), (fV 159 #[]), (fV 160 #[]), (vi 0), (.bool false)] 130), (sb b30 #[(vi 0)] 3), (sb b27 #[(vi 0)] 35), (sb b24 #[(sv (([] : WE))), (vi 0), (vi 0), (vi 0), (.slice none ([] : List Int).length 0), (.slice none ([] : List Line).length 0)] 27)] := hs97
   refine Nt <| Bk ?_
   have hs100 := hs99.dummy (oc #[] 0)
   have hs102 := hs100.pk7.pk7.pk7.pk7.pk7
   obtain ⟨r111, hr112, h113⟩ := bind_some h35
   refine CWP.rangeRet (enc := Qs) (ok := SC) (px := So) (m := fun {_} y s => Ds N y x1 s) (L := [(none, .cells #[] 0 (0, 0)), (sb b90 #[(vi 0)] 3), (sb b47 #[(pt b48 0)] 128), (sb b48 #[(.bool x0.Report), (.bool x0.Serial), (.bool x0.Zone), (sv (([] : WE))), (vi 0), (vi 0), (vi 0), (.slice none ([] : List Int).length 0), (.slice none ([] : List Line).length 0), (fV 153 #[]), (fV 154 #[]), (fV 190 #[(pt tbt49_0_0 0), (pt tbt49_0_1 0), (pt tbt49_0_2 0), (pt tbt49_0_3 0)]), (fV 191 #[(pt tbt49_0_0 0), (pt tbt49_0_3 0)]), (fV 190 #[(pt tbt49_0_4 0), (pt tbt49_0_5 0), (pt tbt49_0_6 0), (pt tbt49_0_7 0)]), (fV 191 #[(pt tbt49_0_4 0), (pt tbt49_0_7 0)]), (fV 190 #[(pt tbt49_0_8 0), (pt tbt49_0_9 0), (pt tbt49_0_10 0), (pt tbt49_0_11 0)]), (fV 191 #[(pt tbt49_0_8 0), (pt tbt49_0_11 0)]), (fV 159 #[]), (fV 160 #[]), (vi 0), (.bool false)] 130), (sb b30 #[(vi 0)] 3), (sb b27 #[(vi 0)] 35), (sb b24 #[(sv (([] : WE))), (vi 0), (vi 0), (vi 0), (.slice none ([] : List Int).length 0), (.slice none ([] : List Line).length 0)] 27)]) (B := [(sb b95 #[(sv x1)] 9)]) (ps := [23, 24]) (by kernel_rfl) (gf := 169) (cap := [(pt b95 0)]) rfl Hp rfl (by kernel_rfl) (by kernel_rfl) (fun _ => rfl) hs102.pk7.pk6.pk7 (Io N F4 (hG.mono (le46.t le98)) x1 b95) (Be N x0 x1) (fun (s103 : (Int × Int × Bool × Bool × Bool × WE × Int × Int × Int × List Int × List Line × Int × Bool × Int)) (F5 : Mem) (Lq : Own) => ∃ (as103_9 : WF) (ns103_9 : Nat) (as103_10 : WF) (ns103_10 : Nat) (es103_10 : Option Nat × Obj), Lq = [es103_10, (sb b90 #[(vi s103.2.2.2.2.2.2.2.2.2.2.2.2.2)] 3), (sb b47 #[(pt b48 0)] 128), (sb b48 #[(.bool s103.2.2.1), (.bool s103.2.2.2.1), (.bool s103.2.2.2.2.1), (sv s103.2.2.2.2.2.1), (vi s103.2.2.2.2.2.2.1), (vi s103.2.2.2.2.2.2.2.1), (vi s103.2.2.2.2.2.2.2.2.1), (.slice as103_9 s103.2.2.2.2.2.2.2.2.2.1.length ns103_9), (.slice as103_10 s103.2.2.2.2.2.2.2.2.2.2.1.length ns103_10), (fV 153 #[]), (fV 154 #[]), (fV 190 #[(pt tbt49_0_0 0), (pt tbt49_0_1 0), (pt tbt49_0_2 0), (pt tbt49_0_3 0)]), (fV 191 #[(pt tbt49_0_0 0), (pt tbt49_0_3 0)]), (fV 190 #[(pt tbt49_0_4 0), (pt tbt49_0_5 0), (pt tbt49_0_6 0), (pt tbt49_0_7 0)]), (fV 191 #[(pt tbt49_0_4 0), (pt tbt49_0_7 0)]), (fV 190 #[(pt tbt49_0_8 0), (pt tbt49_0_9 0), (pt tbt49_0_10 0), (pt tbt49_0_11 0)]), (fV 191 #[(pt tbt49_0_8 0), (pt tbt49_0_11 0)]), (fV 159 #[]), (fV 160 #[]), (vi s103.2.2.2.2.2.2.2.2.2.2.2.1), (.bool s103.2.2.2.2.2.2.2.2.2.2.2.2.1)] 130), (sb b30 #[(vi s103.2.1)] 3), (sb b27 #[(vi s103.1)] 35), (sb b24 #[(sv (([] : WE))), (vi 0), (vi 0), (vi 0), (.slice none ([] : List Int).length 0), (.slice none ([] : List Line).length 0)] 27)] /\ LC s103.2.2.2.2.2.2.2.2.2.1.length ns103_9 /\ SlA AD F5 as103_9 s103.2.2.2.2.2.2.2.2.2.1 /\ Av AC 34 F5 as103_10 ns103_10 s103.2.2.2.2.2.2.2.2.2.2.1 es103_10) ?_ (s := (0, 0, x0.Report, x0.Serial, x0.Zone, ([] : WE), 0, 0, 0, ([] : List Int), ([] : List Line), 0, false, 0)) (r := r111) ?_ hr112 ?_ ?_ ?_
   ·rintro s F F' L ⟨as103_9, ns103_9, as103_10, ns103_10, es103_10, rfl, hbs103_9, hss103_9, hrs103_10⟩ hl
    exact ⟨as103_9, ns103_9, as103_10, ns103_10, es103_10, rfl, hbs103_9, (hss103_9.mono hl), (hrs103_10.mono hl)⟩
   ·exact ⟨none, 0, none, 0, (none, .cells #[] 0 (0, 0)), rfl, Wn, (.inl rfl), (Wy AC 34 F4 _)⟩
   ·rintro l114 s103 x116 w117 F5 _ Rf119 q120 le121 ok122 ⟨as103_9, ns103_9, as103_10, ns103_10, es103_10, rfl, hbs103_9, hss103_9, hrs103_10⟩ hs123 hy124
    have h125 := hy124
    have hs126 : HS w0 F0 w117 F5 (es103_10 :: (sb b90 #[(vi s103.2.2.2.2.2.2.2.2.2.2.2.2.2)] 3) :: (sb b47 #[(pt b48 0)] 128) :: (sb b48 #[(.bool s103.2.2.1), (.bool s103.2.2.2.1), (.bool s103.2.2.2.2.1), (sv s103.2.2.2.2.2.1), (vi s103.2.2.2.2.2.2.1), (vi s103.2.2.2.2.2.2.2.1), (vi s103.2.2.2.2.2.2.2.2.1), (.slice as103_9 s103.2.2.2.2.2.2.2.2.2.1.length ns103_9), (.slice as103_10 s103.2.2.2.2.2.2.2.2.2.2.1.length ns103_10), (fV 153 #[]), (fV 154 #[]), (fV 190 #[(pt tbt49_0_0 0), (pt tbt49_0_1 0), (pt tbt49_0_2 0), (pt tbt49_0_3 0)]), (fV 191 #[(pt tbt49_0_0 0), (pt tbt49_0_3 0)]), (fV 190 #[(pt tbt49_0_4 0), (pt tbt49_0_5 0), (pt tbt49_0_6 0), (pt tbt49_0_7 0)]), (fV 191 #[(pt tbt49_0_4 0), (pt tbt49_0_7 0)]), (fV 190 #[(pt tbt49_0_8 0), (pt tbt49_0_9 0), (pt tbt49_0_10 0), (pt tbt49_0_11 0)]), (fV 191 #[(pt tbt49_0_8 0), (pt tbt49_0_11 0)]), (fV 159 #[]), (fV 160 #[]), (vi s103.2.2.2.2.2.2.2.2.2.2.2.1), (.bool s103.2.2.2.2.2.2.2.2.2.2.2.2.1)] 130) :: (sb b30 #[(vi s103.2.1)] 3) :: (sb b27 #[(vi s103.1)] 35) :: (sb b24 #[(sv (([] : WE))), (vi 0), (vi 0), (vi 0), (.slice none ([] : List Int).length 0), (.slice none ([] : List Line).length 0)] 27) :: Rf119) := hs123
    refine Sq (Rg [0] ?_)
    refine Vs 1 <| Nt <| Rg [0] <| Vs 1 <| Wf <| ⟨rfl, F5, [es103_10, (sb b90 #[(vi s103.2.2.2.2.2.2.2.2.2.2.2.2.2)] 3), (sb b47 #[(pt b48 0)] 128), (sb b48 #[(.bool s103.2.2.1), (.bool s103.2.2.2.1), (.bool s103.2.2.2.2.1), (sv s103.2.2.2.2.2.1), (vi s103.2.2.2.2.2.2.1), (vi s103.2.2.2.2.2.2.2.1), (vi s103.2.2.2.2.2.2.2.2.1), (.slice as103_9 s103.2.2.2.2.2.2.2.2.2.1.length ns103_9), (.slice as103_10 s103.2.2.2.2.2.2.2.2.2.2.1.length ns103_10), (fV 153 #[]), (fV 154 #[]), (fV 190 #[(pt tbt49_0_0 0), (pt tbt49_0_1 0), (pt tbt49_0_2 0), (pt tbt49_0_3 0)]), (fV 191 #[(pt tbt49_0_0 0), (pt tbt49_0_3 0)]), (fV 190 #[(pt tbt49_0_4 0), (pt tbt49_0_5 0), (pt tbt49_0_6 0), (pt tbt49_0_7 0)]), (fV 191 #[(pt tbt49_0_4 0), (pt tbt49_0_7 0)]), (fV 190 #[(pt tbt49_0_8 0), (pt tbt49_0_9 0), (pt tbt49_0_10 0), (pt tbt49_0_11 0)]), (fV 191 #[(pt tbt49_0_8 0), (pt tbt49_0_11 0)]), (fV 159 #[]), (fV 160 #[]), (vi s103.2.2.2.2.2.2.2.2.2.2.2.1), (.bool s103.2.2.2.2.2.2.2.2.2.2.2.2.1)] 130), (sb b30 #[(vi s103.2.1)] 3), (sb b27 #[(vi s103.1)] 35), (sb b24 #[(sv (([] : WE))), (vi 0), (vi 0), (vi 0), (.slice none ([] : List Int).length 0), (.slice none ([] : List Line).length 0)] 27)], hs126, fun w127 Rf128 hs129 => ?_⟩
    have hs130 : HS w0 F0 w127 F5 (es103_10 :: (sb b90 #[(vi s103.2.2.2.2.2.2.2.2.2.2.2.2.2)] 3) :: (sb b47 #[(pt b48 0)] 128) :: (sb b48 #[(.bool s103.2.2.1), (.bool s103.2.2.2.1), (.bool s103.2.2.2.2.1), (sv s103.2.2.2.2.2.1), (vi s103.2.2.2.2.2.2.1), (vi s103.2.2.2.2.2.2.2.1), (vi s103.2.2.2.2.2.2.2.2.1), (.slice as103_9 s103.2.2.2.2.2.2.2.2.2.1.length ns103_9), (.slice as103_10 s103.2.2.2.2.2.2.2.2.2.2.1.length ns103_10), (fV 153 #[]), (fV 154 #[]), (fV 190 #[(pt tbt49_0_0 0), (pt tbt49_0_1 0), (pt tbt49_0_2 0), (pt tbt49_0_3 0)]), (fV 191 #[(pt tbt49_0_0 0), (pt tbt49_0_3 0)]), (fV 190 #[(pt tbt49_0_4 0), (pt tbt49_0_5 0), (pt tbt49_0_6 0), (pt tbt49_0_7 0)]), (fV 191 #[(pt tbt49_0_4 0), (pt tbt49_0_7 0)]), (fV 190 #[(pt tbt49_0_8 0), (pt tbt49_0_9 0), (pt tbt49_0_10 0), (pt tbt49_0_11 0)]), (fV 191 #[(pt tbt49_0_8 0), (pt tbt49_0_11 0)]), (fV 159 #[]), (fV 160 #[]), (vi s103.2.2.2.2.2.2.2.2.2.2.2.1), (.bool s103.2.2.2.2.2.2.2.2.2.2.2.2.1)] 130) :: (sb b30 #[(vi s103.2.1)] 3) :: (sb b27 #[(vi s103.1)] 35) :: (sb b24 #[(sv (([] : WE))), (vi 0), (vi 0), (vi 0), (.slice none ([] : List Int).length 0), (.slice none ([] : List Line).length 0)] 27) :: Rf128) := hs129
    refine Bk <| Sq (Rg [0, 1, 2] ?_)
    refine Ld hs130.at1 <| Vs 1 <| St1 #[(vi (W64 (s103.2.2.2.2.2.2.2.2.2.2.2.2.2 + 1)))] hs130 (fun w131 hs132 => ?_)
    refine Nss (Rg [0, 1] ?_)
    refine Vs 2 <| Nss <| Sq (Rg [0] ?_)
    refine Vs 1 <| Nt ?_
    obtain ⟨j136, hj145, h146⟩ := bind_some h125
    refine Wq (fun f w => ∃ (F7 : Mem) (aj136_9 : WF) (nj136_9 : Nat) (aj136_10 : WF) (nj136_10 : Nat) (ej136_10 : Option Nat × Obj), HS w0 F0 w F7 (ej136_10 :: (sb b90 #[(vi (W64 (s103.2.2.2.2.2.2.2.2.2.2.2.2.2 + 1)))] 3) :: (sb b47 #[(pt b48 0)] 128) :: (sb b48 #[(.bool j136.2.2.1), (.bool j136.2.2.2.1), (.bool j136.2.2.2.2.1), (sv j136.2.2.2.2.2.1), (vi j136.2.2.2.2.2.2.1), (vi j136.2.2.2.2.2.2.2.1), (vi j136.2.2.2.2.2.2.2.2.1), (.slice aj136_9 j136.2.2.2.2.2.2.2.2.2.1.length nj136_9), (.slice aj136_10 j136.2.2.2.2.2.2.2.2.2.2.1.length nj136_10), (fV 153 #[]), (fV 154 #[]), (fV 190 #[(pt tbt49_0_0 0), (pt tbt49_0_1 0), (pt tbt49_0_2 0), (pt tbt49_0_3 0)]), (fV 191 #[(pt tbt49_0_0 0), (pt tbt49_0_3 0)]), (fV 190 #[(pt tbt49_0_4 0), (pt tbt49_0_5 0), (pt tbt49_0_6 0), (pt tbt49_0_7 0)]), (fV 191 #[(pt tbt49_0_4 0), (pt tbt49_0_7 0)]), (fV 190 #[(pt tbt49_0_8 0), (pt tbt49_0_9 0), (pt tbt49_0_10 0), (pt tbt49_0_11 0)]), (fV 191 #[(pt tbt49_0_8 0), (pt tbt49_0_11 0)]), (fV 159 #[]), (fV 160 #[]), (vi j136.2.2.2.2.2.2.2.2.2.2.2.1), (.bool j136.2.2.2.2.2.2.2.2.2.2.2.2)] 130) :: (sb b30 #[(vi s103.2.1)] 3) :: (sb b27 #[(vi s103.1)] 35) :: (sb b24 #[(sv (([] : WE))), (vi 0), (vi 0), (vi 0), (.slice none ([] : List Int).length 0), (.slice none ([] : List Line).length 0)] 27) :: Rf128) /\ Wj F5 F7 /\ FI f [] [(4, (pt b24 0)), (5, (pt b27 0)), (6, (pt b30 0)), (7, (pt b47 0)), (8, (pt b90 0)), (11, (.bool j136.1)), (12, (.bool j136.2.1))] /\ LC j136.2.2.2.2.2.2.2.2.2.1.length nj136_9 /\ SlA AD F7 aj136_9 j136.2.2.2.2.2.2.2.2.2.1 /\ Av AC 34 F7 aj136_10 nj136_10 j136.2.2.2.2.2.2.2.2.2.2.1 ej136_10) ?_ ?_
    ·refine Cd hj145 (fun hb147 h148 => ?_) (fun hb147 h149 => ?_)
     ·refine Rg (rG 8) ?_
      refine Ld hs132.at2 <| Vs 1 ?_
      have hs150 := hs132.pk6.pk6.pk6.pk5.pk5
      obtain ⟨r151, hr152, h153⟩ := bind_some h148
      refine CB Ia (IQ N (hG.mono ((le46.t le98).trans le121)) b48 (({ o_ := ({ Report := s103.2.2.1, Serial := s103.2.2.2.1, Zone := s103.2.2.2.2.1 } : Ac), l_ := ({ Call := s103.2.2.2.2.2.1, Category := s103.2.2.2.2.2.2.1, Power := s103.2.2.2.2.2.2.2.1, Claimed := s103.2.2.2.2.2.2.2.2.1, Jumps := s103.2.2.2.2.2.2.2.2.2.1, Lines := s103.2.2.2.2.2.2.2.2.2.2.1 } : Log), done_ := s103.2.2.2.2.2.2.2.2.2.2.2.1, ended_ := s103.2.2.2.2.2.2.2.2.2.2.2.2.1 } : Ai)) as103_9 ns103_9 tbt49_0_0 tbt49_0_1 tbt49_0_2 tbt49_0_3 tbt49_0_4 tbt49_0_5 tbt49_0_6 tbt49_0_7 tbt49_0_8 tbt49_0_9 tbt49_0_10 tbt49_0_11 as103_10 ns103_10 es103_10 hbs103_9 hss103_9 ((le98.t le121) _ _ htbt49_0_0) ((le98.t le121) _ _ htbt49_0_1) ((le98.t le121) _ _ htbt49_0_2) ((le98.t le121) _ _ htbt49_0_3) ((le98.t le121) _ _ htbt49_0_4) ((le98.t le121) _ _ htbt49_0_5) ((le98.t le121) _ _ htbt49_0_6) ((le98.t le121) _ _ htbt49_0_7) ((le98.t le121) _ _ htbt49_0_8) ((le98.t le121) _ _ htbt49_0_9) ((le98.t le121) _ _ htbt49_0_10) ((le98.t le121) _ _ htbt49_0_11) hrs103_10 x116.1 hs150.pk5.pk6 _ hr152) ?_
      rintro _ F8 w154 _ hs155 le156 ⟨ar151_0_7, nr151_0_7, ar151_0_8, nr151_0_8, er151_0_8, rfl, rfl, hbr151_0_7, hsr151_0_7, hrr151_0_8⟩
      refine Vs 5 <| Wf ?_
      obtain rfl := Aa h153
      have hs158 := hs155.pk6.pk6.pk6.pk3.pk6
      exact .inl ⟨rfl, F8, ar151_0_7, nr151_0_7, ar151_0_8, nr151_0_8, er151_0_8, hs158.pk6.pk6, le156, fI, hbr151_0_7, hsr151_0_7, hrr151_0_8⟩
     ·refine Sc ?_
      obtain rfl := Aa h149
      exact .inl ⟨rfl, F5, as103_9, ns103_9, as103_10, ns103_10, es103_10, hs132, (Wk _), fI, hbs103_9, hss103_9, hrs103_10⟩
    ·rintro f w133 ⟨F7, aj136_9, nj136_9, aj136_10, nj136_10, ej136_10, hs134, le135, ⟨_, rfl⟩, hbj136_9, hsj136_9, hrj136_10⟩
     refine Ab <| Bk <| Sq (Rg [0, 1] ?_)
     refine Vs 2 <| Nt <| Cd h146 (fun hb159 h160 => ?_) (fun hb159 h161 => ?_)
     ·refine Sq ?_
      refine RD 4 5 [ej136_10, (sb b90 #[(vi (W64 (s103.2.2.2.2.2.2.2.2.2.2.2.2.2 + 1)))] 3), (sb b47 #[(pt b48 0)] 128), (sb b48 #[(.bool j136.2.2.1), (.bool j136.2.2.2.1), (.bool j136.2.2.2.2.1), (sv j136.2.2.2.2.2.1), (vi j136.2.2.2.2.2.2.1), (vi j136.2.2.2.2.2.2.2.1), (vi j136.2.2.2.2.2.2.2.2.1), (.slice aj136_9 j136.2.2.2.2.2.2.2.2.2.1.length nj136_9), (.slice aj136_10 j136.2.2.2.2.2.2.2.2.2.2.1.length nj136_10), (fV 153 #[]), (fV 154 #[]), (fV 190 #[(pt tbt49_0_0 0), (pt tbt49_0_1 0), (pt tbt49_0_2 0), (pt tbt49_0_3 0)]), (fV 191 #[(pt tbt49_0_0 0), (pt tbt49_0_3 0)]), (fV 190 #[(pt tbt49_0_4 0), (pt tbt49_0_5 0), (pt tbt49_0_6 0), (pt tbt49_0_7 0)]), (fV 191 #[(pt tbt49_0_4 0), (pt tbt49_0_7 0)]), (fV 190 #[(pt tbt49_0_8 0), (pt tbt49_0_9 0), (pt tbt49_0_10 0), (pt tbt49_0_11 0)]), (fV 191 #[(pt tbt49_0_8 0), (pt tbt49_0_11 0)]), (fV 159 #[]), (fV 160 #[]), (vi j136.2.2.2.2.2.2.2.2.2.2.2.1), (.bool j136.2.2.2.2.2.2.2.2.2.2.2.2)] 130)] [(sb b30 #[(vi s103.2.1)] 3)] hs134 (fun f w => ∃ (F9 : Mem), HS w0 F0 w F9 (ej136_10 :: (sb b90 #[(vi (W64 (s103.2.2.2.2.2.2.2.2.2.2.2.2.2 + 1)))] 3) :: (sb b47 #[(pt b48 0)] 128) :: (sb b48 #[(.bool j136.2.2.1), (.bool j136.2.2.2.1), (.bool j136.2.2.2.2.1), (sv j136.2.2.2.2.2.1), (vi j136.2.2.2.2.2.2.1), (vi j136.2.2.2.2.2.2.2.1), (vi j136.2.2.2.2.2.2.2.2.1), (.slice aj136_9 j136.2.2.2.2.2.2.2.2.2.1.length nj136_9), (.slice aj136_10 j136.2.2.2.2.2.2.2.2.2.2.1.length nj136_10), (fV 153 #[]), (fV 154 #[]), (fV 190 #[(pt tbt49_0_0 0), (pt tbt49_0_1 0), (pt tbt49_0_2 0), (pt tbt49_0_3 0)]), (fV 191 #[(pt tbt49_0_0 0), (pt tbt49_0_3 0)]), (fV 190 #[(pt tbt49_0_4 0), (pt tbt49_0_5 0), (pt tbt49_0_6 0), (pt tbt49_0_7 0)]), (fV 191 #[(pt tbt49_0_4 0), (pt tbt49_0_7 0)]), (fV 190 #[(pt tbt49_0_8 0), (pt tbt49_0_9 0), (pt tbt49_0_10 0), (pt tbt49_0_11 0)]), (fV 191 #[(pt tbt49_0_8 0), (pt tbt49_0_11 0)]), (fV 159 #[]), (fV 160 #[]), (vi j136.2.2.2.2.2.2.2.2.2.2.2.1), (.bool j136.2.2.2.2.2.2.2.2.2.2.2.2)] 130) :: (sb b30 #[(vi (W64 (s103.2.2.2.2.2.2.2.2.2.2.2.2.2 + 1)))] 3) :: (sb b27 #[(vi 2)] 35) :: (sb b24 #[(sv (([] : WE))), (vi 0), (vi 0), (vi 0), (.slice none ([] : List Int).length 0), (.slice none ([] : List Line).length 0)] 27) :: Rf128) /\ Wj F7 F9 /\ FI f [] [(4, (pt b24 0)), (5, (pt b27 0)), (6, (pt b30 0)), (7, (pt b47 0)), (8, (pt b90 0))]) (fun wd162 hw163 => ?_) ?_
      ·refine Dv [0] ?_
       refine Dl 1 (fun _ hq => (hq.1.2 1 _ _ rfl)) <| D1 2 <| Ux #[(sv (([] : WE))), (vi 0), (vi 0), (vi 0), (.slice none ([] : List Int).length 0), (.slice none ([] : List Line).length 0)] hw163 (Wk _) (fun w173 hs174 => ?_)
       refine D1 3 <| R6 #[(vi 2)] hs174 (Wk _) (fun w175 hs176 => ?_)
       refine D1 4 <| VW #[(vi (W64 (s103.2.2.2.2.2.2.2.2.2.2.2.2.2 + 1)))] hs176 (Wk _) (fun w177 hs178 => ?_)
       exact Ww (by kernel_rfl) ⟨F7, hs178, (Wk _), fI⟩
      ·rintro f w164 ⟨F9, hs165, le166, ⟨_, rfl⟩⟩
       refine Ab <| Rt <| Ax <| Ax ?_
       obtain rfl := Aa h160
       exact ⟨.inr ⟨rfl, rfl⟩, F9, [ej136_10, (sb b90 #[(vi (W64 (s103.2.2.2.2.2.2.2.2.2.2.2.2.2 + 1)))] 3), (sb b47 #[(pt b48 0)] 128), (sb b48 #[(.bool j136.2.2.1), (.bool j136.2.2.2.1), (.bool j136.2.2.2.2.1), (sv j136.2.2.2.2.2.1), (vi j136.2.2.2.2.2.2.1), (vi j136.2.2.2.2.2.2.2.1), (vi j136.2.2.2.2.2.2.2.2.1), (.slice aj136_9 j136.2.2.2.2.2.2.2.2.2.1.length nj136_9), (.slice aj136_10 j136.2.2.2.2.2.2.2.2.2.2.1.length nj136_10), (fV 153 #[]), (fV 154 #[]), (fV 190 #[(pt tbt49_0_0 0), (pt tbt49_0_1 0), (pt tbt49_0_2 0), (pt tbt49_0_3 0)]), (fV 191 #[(pt tbt49_0_0 0), (pt tbt49_0_3 0)]), (fV 190 #[(pt tbt49_0_4 0), (pt tbt49_0_5 0), (pt tbt49_0_6 0), (pt tbt49_0_7 0)]), (fV 191 #[(pt tbt49_0_4 0), (pt tbt49_0_7 0)]), (fV 190 #[(pt tbt49_0_8 0), (pt tbt49_0_9 0), (pt tbt49_0_10 0), (pt tbt49_0_11 0)]), (fV 191 #[(pt tbt49_0_8 0), (pt tbt49_0_11 0)]), (fV 159 #[]), (fV 160 #[]), (vi j136.2.2.2.2.2.2.2.2.2.2.2.1), (.bool j136.2.2.2.2.2.2.2.2.2.2.2.2)] 130), (sb b30 #[(vi (W64 (s103.2.2.2.2.2.2.2.2.2.2.2.2.2 + 1)))] 3), (sb b27 #[(vi 2)] 35), (sb b24 #[(sv (([] : WE))), (vi 0), (vi 0), (vi 0), (.slice none ([] : List Int).length 0), (.slice none ([] : List Line).length 0)] 27)], hs165, (le135.t le166), ⟨aj136_9, nj136_9, aj136_10, nj136_10, ej136_10, rfl, hbj136_9, (Wm hsj136_9 le166), (hrj136_10.mono le166)⟩⟩
     ·refine Sq (Rg [0, 1, 2] ?_)
      refine Vs 3 <| Nt <| Cd h161 (fun hb180 h181 => ?_) (fun hb180 h182 => ?_)
      ·refine Sq ?_
       refine RD 4 5 [ej136_10, (sb b90 #[(vi (W64 (s103.2.2.2.2.2.2.2.2.2.2.2.2.2 + 1)))] 3), (sb b47 #[(pt b48 0)] 128), (sb b48 #[(.bool j136.2.2.1), (.bool j136.2.2.2.1), (.bool j136.2.2.2.2.1), (sv j136.2.2.2.2.2.1), (vi j136.2.2.2.2.2.2.1), (vi j136.2.2.2.2.2.2.2.1), (vi j136.2.2.2.2.2.2.2.2.1), (.slice aj136_9 j136.2.2.2.2.2.2.2.2.2.1.length nj136_9), (.slice aj136_10 j136.2.2.2.2.2.2.2.2.2.2.1.length nj136_10), (fV 153 #[]), (fV 154 #[]), (fV 190 #[(pt tbt49_0_0 0), (pt tbt49_0_1 0), (pt tbt49_0_2 0), (pt tbt49_0_3 0)]), (fV 191 #[(pt tbt49_0_0 0), (pt tbt49_0_3 0)]), (fV 190 #[(pt tbt49_0_4 0), (pt tbt49_0_5 0), (pt tbt49_0_6 0), (pt tbt49_0_7 0)]), (fV 191 #[(pt tbt49_0_4 0), (pt tbt49_0_7 0)]), (fV 190 #[(pt tbt49_0_8 0), (pt tbt49_0_9 0), (pt tbt49_0_10 0), (pt tbt49_0_11 0)]), (fV 191 #[(pt tbt49_0_8 0), (pt tbt49_0_11 0)]), (fV 159 #[]), (fV 160 #[]), (vi j136.2.2.2.2.2.2.2.2.2.2.2.1), (.bool j136.2.2.2.2.2.2.2.2.2.2.2.2)] 130)] [(sb b30 #[(vi s103.2.1)] 3)] hs134 (fun f w => ∃ (F10 : Mem), HS w0 F0 w F10 (ej136_10 :: (sb b90 #[(vi (W64 (s103.2.2.2.2.2.2.2.2.2.2.2.2.2 + 1)))] 3) :: (sb b47 #[(pt b48 0)] 128) :: (sb b48 #[(.bool j136.2.2.1), (.bool j136.2.2.2.1), (.bool j136.2.2.2.2.1), (sv j136.2.2.2.2.2.1), (vi j136.2.2.2.2.2.2.1), (vi j136.2.2.2.2.2.2.2.1), (vi j136.2.2.2.2.2.2.2.2.1), (.slice aj136_9 j136.2.2.2.2.2.2.2.2.2.1.length nj136_9), (.slice aj136_10 j136.2.2.2.2.2.2.2.2.2.2.1.length nj136_10), (fV 153 #[]), (fV 154 #[]), (fV 190 #[(pt tbt49_0_0 0), (pt tbt49_0_1 0), (pt tbt49_0_2 0), (pt tbt49_0_3 0)]), (fV 191 #[(pt tbt49_0_0 0), (pt tbt49_0_3 0)]), (fV 190 #[(pt tbt49_0_4 0), (pt tbt49_0_5 0), (pt tbt49_0_6 0), (pt tbt49_0_7 0)]), (fV 191 #[(pt tbt49_0_4 0), (pt tbt49_0_7 0)]), (fV 190 #[(pt tbt49_0_8 0), (pt tbt49_0_9 0), (pt tbt49_0_10 0), (pt tbt49_0_11 0)]), (fV 191 #[(pt tbt49_0_8 0), (pt tbt49_0_11 0)]), (fV 159 #[]), (fV 160 #[]), (vi j136.2.2.2.2.2.2.2.2.2.2.2.1), (.bool j136.2.2.2.2.2.2.2.2.2.2.2.2)] 130) :: (sb b30 #[(vi (W64 (s103.2.2.2.2.2.2.2.2.2.2.2.2.2 + 1)))] 3) :: (sb b27 #[(vi 20)] 35) :: (sb b24 #[(sv (([] : WE))), (vi 0), (vi 0), (vi 0), (.slice none ([] : List Int).length 0), (.slice none ([] : List Line).length 0)] 27) :: Rf128) /\ Wj F7 F10 /\ FI f [] [(4, (pt b24 0)), (5, (pt b27 0)), (6, (pt b30 0)), (7, (pt b47 0)), (8, (pt b90 0))]) (fun wd183 hw184 => ?_) ?_
       ·refine Dv [0] ?_
        refine Dl 1 (fun _ hq => (hq.1.2 1 _ _ rfl)) <| D1 2 <| Ux #[(sv (([] : WE))), (vi 0), (vi 0), (vi 0), (.slice none ([] : List Int).length 0), (.slice none ([] : List Line).length 0)] hw184 (Wk _) (fun w194 hs195 => ?_)
        refine D1 3 <| R6 #[(vi 20)] hs195 (Wk _) (fun w196 hs197 => ?_)
        refine D1 4 <| VW #[(vi (W64 (s103.2.2.2.2.2.2.2.2.2.2.2.2.2 + 1)))] hs197 (Wk _) (fun w198 hs199 => ?_)
        exact Ww (by kernel_rfl) ⟨F7, hs199, (Wk _), fI⟩
       ·rintro f w185 ⟨F10, hs186, le187, ⟨_, rfl⟩⟩
        refine Ab <| Rt <| Ax <| Ax ?_
        obtain rfl := Aa h181
        exact ⟨.inr ⟨rfl, rfl⟩, F10, [ej136_10, (sb b90 #[(vi (W64 (s103.2.2.2.2.2.2.2.2.2.2.2.2.2 + 1)))] 3), (sb b47 #[(pt b48 0)] 128), (sb b48 #[(.bool j136.2.2.1), (.bool j136.2.2.2.1), (.bool j136.2.2.2.2.1), (sv j136.2.2.2.2.2.1), (vi j136.2.2.2.2.2.2.1), (vi j136.2.2.2.2.2.2.2.1), (vi j136.2.2.2.2.2.2.2.2.1), (.slice aj136_9 j136.2.2.2.2.2.2.2.2.2.1.length nj136_9), (.slice aj136_10 j136.2.2.2.2.2.2.2.2.2.2.1.length nj136_10), (fV 153 #[]), (fV 154 #[]), (fV 190 #[(pt tbt49_0_0 0), (pt tbt49_0_1 0), (pt tbt49_0_2 0), (pt tbt49_0_3 0)]), (fV 191 #[(pt tbt49_0_0 0), (pt tbt49_0_3 0)]), (fV 190 #[(pt tbt49_0_4 0), (pt tbt49_0_5 0), (pt tbt49_0_6 0), (pt tbt49_0_7 0)]), (fV 191 #[(pt tbt49_0_4 0), (pt tbt49_0_7 0)]), (fV 190 #[(pt tbt49_0_8 0), (pt tbt49_0_9 0), (pt tbt49_0_10 0), (pt tbt49_0_11 0)]), (fV 191 #[(pt tbt49_0_8 0), (pt tbt49_0_11 0)]), (fV 159 #[]), (fV 160 #[]), (vi j136.2.2.2.2.2.2.2.2.2.2.2.1), (.bool j136.2.2.2.2.2.2.2.2.2.2.2.2)] 130), (sb b30 #[(vi (W64 (s103.2.2.2.2.2.2.2.2.2.2.2.2.2 + 1)))] 3), (sb b27 #[(vi 20)] 35), (sb b24 #[(sv (([] : WE))), (vi 0), (vi 0), (vi 0), (.slice none ([] : List Int).length 0), (.slice none ([] : List Line).length 0)] 27)], hs186, (le135.t le187), ⟨aj136_9, nj136_9, aj136_10, nj136_10, ej136_10, rfl, hbj136_9, (Wm hsj136_9 le187), (hrj136_10.mono le187)⟩⟩
      ·refine Sc ?_
       refine Au <| Au ?_
       obtain rfl := Aa h182
       exact ⟨.inl ⟨rfl, rfl⟩, F7, [ej136_10, (sb b90 #[(vi (W64 (s103.2.2.2.2.2.2.2.2.2.2.2.2.2 + 1)))] 3), (sb b47 #[(pt b48 0)] 128), (sb b48 #[(.bool j136.2.2.1), (.bool j136.2.2.2.1), (.bool j136.2.2.2.2.1), (sv j136.2.2.2.2.2.1), (vi j136.2.2.2.2.2.2.1), (vi j136.2.2.2.2.2.2.2.1), (vi j136.2.2.2.2.2.2.2.2.1), (.slice aj136_9 j136.2.2.2.2.2.2.2.2.2.1.length nj136_9), (.slice aj136_10 j136.2.2.2.2.2.2.2.2.2.2.1.length nj136_10), (fV 153 #[]), (fV 154 #[]), (fV 190 #[(pt tbt49_0_0 0), (pt tbt49_0_1 0), (pt tbt49_0_2 0), (pt tbt49_0_3 0)]), (fV 191 #[(pt tbt49_0_0 0), (pt tbt49_0_3 0)]), (fV 190 #[(pt tbt49_0_4 0), (pt tbt49_0_5 0), (pt tbt49_0_6 0), (pt tbt49_0_7 0)]), (fV 191 #[(pt tbt49_0_4 0), (pt tbt49_0_7 0)]), (fV 190 #[(pt tbt49_0_8 0), (pt tbt49_0_9 0), (pt tbt49_0_10 0), (pt tbt49_0_11 0)]), (fV 191 #[(pt tbt49_0_8 0), (pt tbt49_0_11 0)]), (fV 159 #[]), (fV 160 #[]), (vi j136.2.2.2.2.2.2.2.2.2.2.2.1), (.bool j136.2.2.2.2.2.2.2.2.2.2.2.2)] 130), (sb b30 #[(vi s103.2.1)] 3), (sb b27 #[(vi s103.1)] 35), (sb b24 #[(sv (([] : WE))), (vi 0), (vi 0), (vi 0), (.slice none ([] : List Int).length 0), (.slice none ([] : List Line).length 0)] 27)], hs134, le135, ⟨aj136_9, nj136_9, aj136_10, nj136_10, ej136_10, rfl, hbj136_9, hsj136_9, hrj136_10⟩⟩
   ·rintro hg206
    have h207 := Ov h113 hg206
    rintro D202 w203 F6 _ hs204 le205 ⟨as107_9, ns107_9, as107_10, ns107_10, es107_10, rfl, hbs107_9, hss107_9, hrs107_10⟩
    have hs208 : HS w0 F0 w203 F6 [(some D202, (.deferred (some []))), es107_10, (sb b90 #[(vi r111.1.2.2.2.2.2.2.2.2.2.2.2.2.2)] 3), (sb b47 #[(pt b48 0)] 128), (sb b48 #[(.bool r111.1.2.2.1), (.bool r111.1.2.2.2.1), (.bool r111.1.2.2.2.2.1), (sv r111.1.2.2.2.2.2.1), (vi r111.1.2.2.2.2.2.2.1), (vi r111.1.2.2.2.2.2.2.2.1), (vi r111.1.2.2.2.2.2.2.2.2.1), (.slice as107_9 r111.1.2.2.2.2.2.2.2.2.2.1.length ns107_9), (.slice as107_10 r111.1.2.2.2.2.2.2.2.2.2.2.1.length ns107_10), (fV 153 #[]), (fV 154 #[]), (fV 190 #[(pt tbt49_0_0 0), (pt tbt49_0_1 0), (pt tbt49_0_2 0), (pt tbt49_0_3 0)]), (fV 191 #[(pt tbt49_0_0 0), (pt tbt49_0_3 0)]), (fV 190 #[(pt tbt49_0_4 0), (pt tbt49_0_5 0), (pt tbt49_0_6 0), (pt tbt49_0_7 0)]), (fV 191 #[(pt tbt49_0_4 0), (pt tbt49_0_7 0)]), (fV 190 #[(pt tbt49_0_8 0), (pt tbt49_0_9 0), (pt tbt49_0_10 0), (pt tbt49_0_11 0)]), (fV 191 #[(pt tbt49_0_8 0), (pt tbt49_0_11 0)]), (fV 159 #[]), (fV 160 #[]), (vi r111.1.2.2.2.2.2.2.2.2.2.2.2.1), (.bool r111.1.2.2.2.2.2.2.2.2.2.2.2.2.1)] 130), (sb b30 #[(vi r111.1.2.1)] 3), (sb b27 #[(vi r111.1.1)] 35), (sb b24 #[(sv (([] : WE))), (vi 0), (vi 0), (vi 0), (.slice none ([] : List Int).length 0), (.slice none ([] : List Line).length 0)] 27)] := hs204
    refine Au <| Ab <| Sq <| Sq (Rg (rG 5) ?_)
    refine Ld hs208.at3 <| Vs 2 <| Ld hs208.at4 <| Vs 1 <| Nt <| Cd h207 (fun hb209 h210 => ?_) (fun hb209 h211 => ?_)
    ·refine Sq ?_
     refine RD 5 6 [(some D202, (.deferred (some []))), es107_10, (sb b90 #[(vi r111.1.2.2.2.2.2.2.2.2.2.2.2.2.2)] 3), (sb b47 #[(pt b48 0)] 128), (sb b48 #[(.bool r111.1.2.2.1), (.bool r111.1.2.2.2.1), (.bool r111.1.2.2.2.2.1), (sv r111.1.2.2.2.2.2.1), (vi r111.1.2.2.2.2.2.2.1), (vi r111.1.2.2.2.2.2.2.2.1), (vi r111.1.2.2.2.2.2.2.2.2.1), (.slice as107_9 r111.1.2.2.2.2.2.2.2.2.2.1.length ns107_9), (.slice as107_10 r111.1.2.2.2.2.2.2.2.2.2.2.1.length ns107_10), (fV 153 #[]), (fV 154 #[]), (fV 190 #[(pt tbt49_0_0 0), (pt tbt49_0_1 0), (pt tbt49_0_2 0), (pt tbt49_0_3 0)]), (fV 191 #[(pt tbt49_0_0 0), (pt tbt49_0_3 0)]), (fV 190 #[(pt tbt49_0_4 0), (pt tbt49_0_5 0), (pt tbt49_0_6 0), (pt tbt49_0_7 0)]), (fV 191 #[(pt tbt49_0_4 0), (pt tbt49_0_7 0)]), (fV 190 #[(pt tbt49_0_8 0), (pt tbt49_0_9 0), (pt tbt49_0_10 0), (pt tbt49_0_11 0)]), (fV 191 #[(pt tbt49_0_8 0), (pt tbt49_0_11 0)]), (fV 159 #[]), (fV 160 #[]), (vi r111.1.2.2.2.2.2.2.2.2.2.2.2.1), (.bool r111.1.2.2.2.2.2.2.2.2.2.2.2.2.1)] 130)] [(sb b30 #[(vi r111.1.2.1)] 3)] hs208 (fun f w => ∃ (F11 : Mem), HS w0 F0 w F11 [(some D202, (.deferred (some []))), (sb b30 #[(vi (W64 (r111.1.2.2.2.2.2.2.2.2.2.2.2.2.2 + 1)))] 3), (sb b27 #[(vi 20)] 35), (sb b24 #[(sv (([] : WE))), (vi 0), (vi 0), (vi 0), (.slice none ([] : List Int).length 0), (.slice none ([] : List Line).length 0)] 27)] /\ Wj F6 F11 /\ FI f [{ target := .collected D202, args := #[] }] [(4, (pt b24 0)), (5, (pt b27 0)), (6, (pt b30 0))]) (fun wd212 hw213 => ?_) ?_
     ·refine Dv [0] ?_
      refine Dl 1 (fun _ hq => (hq.1.2 2 _ _ rfl)) <| Dv [2] <| D1 3 <| Wb #[(sv (([] : WE))), (vi 0), (vi 0), (vi 0), (.slice none ([] : List Int).length 0), (.slice none ([] : List Line).length 0)] hw213 (Wk _) (fun w221 hs222 => ?_)
      refine D1 4 <| Ux #[(vi 20)] hs222 (Wk _) (fun w223 hs224 => ?_)
      refine D1 5 <| R6 #[(vi (W64 (r111.1.2.2.2.2.2.2.2.2.2.2.2.2.2 + 1)))] hs224 (Wk _) (fun w225 hs226 => ?_)
      exact Ww (by kernel_rfl) ⟨F6, hs226.dr1.dr1.dr1.dr1, (Wk _), fI⟩
     ·rintro f w214 ⟨F11, hs215, le216, ⟨_, rfl⟩⟩
      refine Ab <| Rt <| Ae ?_
      have hs227 := hs215.put (k := 0) rfl (.deferred none)
      have hs228 : HS w0 F0 (B1 w214 D202 (.deferred none)) F11 [(sb b30 #[(vi (W64 (r111.1.2.2.2.2.2.2.2.2.2.2.2.2.2 + 1)))] 3), (sb b27 #[(vi 20)] 35), (sb b24 #[(sv (([] : WE))), (vi 0), (vi 0), (vi 0), (.slice none ([] : List Int).length 0), (.slice none ([] : List Line).length 0)] 27)] := hs227.drop 0
      obtain rfl := Aa h210
      exact .inr ⟨D202, rfl, hs215.ownAt (k := 0) rfl, (.tuple #[(.agg #[(sv (([] : WE))), (vi 0), (vi 0), (vi 0), (.slice none ([] : List Int).length 0), (.slice none ([] : List Line).length 0)]), (vi 20), (vi (W64 (r111.1.2.2.2.2.2.2.2.2.2.2.2.2.2 + 1)))]), AW (l := [.cell 4 27, .cell 5 35, .cell 6 3]) (by kernel_rfl) (vs := [(.agg #[(sv (([] : WE))), (vi 0), (vi 0), (vi 0), (.slice none ([] : List Int).length 0), (.slice none ([] : List Line).length 0)]), (vi 20), (vi (W64 (r111.1.2.2.2.2.2.2.2.2.2.2.2.2.2 + 1)))]) ⟨b24, 0, rfl, Am (t := 27) (g := true) (s := 6) (by kernel_rfl) hs228.at2 rfl (by decide), ⟨b27, 0, rfl, Am (t := 35) (g := false) (s := 1) (by kernel_rfl) hs228.at1 rfl (by decide), ⟨b30, 0, rfl, Am (t := 3) (g := false) (s := 1) (by kernel_rfl) hs228.at0 rfl (by decide), trivial⟩⟩⟩, (.tuple #[(.agg #[(sv (([] : WE))), (vi 0), (vi 0), (vi 0), (.slice none ([] : List Int).length 0), (.slice none ([] : List Line).length 0)]), (vi 20), (vi (W64 (r111.1.2.2.2.2.2.2.2.2.2.2.2.2.2 + 1)))]), F11, rfl, hs228.clear, ⟨none, 0, none, 0, rfl, Wn, (.inl rfl), Wn, (.inl rfl)⟩⟩
    ·refine Sc ?_
     refine Ab <| Sq (Rg (rG 7) ?_)
     refine Ld hs208.at3 <| Vs 2 <| Ld hs208.at4 <| St7 #[(sv r111.1.2.2.2.2.2.1), (vi r111.1.2.2.2.2.2.2.1), (vi r111.1.2.2.2.2.2.2.2.1), (vi r111.1.2.2.2.2.2.2.2.2.1), (.slice as107_9 r111.1.2.2.2.2.2.2.2.2.2.1.length ns107_9), (.slice as107_10 r111.1.2.2.2.2.2.2.2.2.2.2.1.length ns107_10)] hs208 (fun w229 hs230 => ?_)
     refine St6 #[(vi 0)] hs230 (fun w231 hs232 => ?_)
     refine St5 #[(vi 0)] hs232 (fun w233 hs234 => ?_)
     refine Nt <| Rt ?_
     have hb238 := Wx hrs107_10
     obtain ⟨F12, hs235, le236, hs237⟩ := hs234.fr1 hrs107_10
     have hs239 := hs235.put (k := 0) rfl (.deferred none)
     have hs240 : HS w0 F0 (B1 w233 D202 (.deferred none)) F12 [(sb b90 #[(vi r111.1.2.2.2.2.2.2.2.2.2.2.2.2.2)] 3), (sb b47 #[(pt b48 0)] 128), (sb b48 #[(.bool r111.1.2.2.1), (.bool r111.1.2.2.2.1), (.bool r111.1.2.2.2.2.1), (sv r111.1.2.2.2.2.2.1), (vi r111.1.2.2.2.2.2.2.1), (vi r111.1.2.2.2.2.2.2.2.1), (vi r111.1.2.2.2.2.2.2.2.2.1), (.slice as107_9 r111.1.2.2.2.2.2.2.2.2.2.1.length ns107_9), (.slice as107_10 r111.1.2.2.2.2.2.2.2.2.2.2.1.length ns107_10), (fV 153 #[]), (fV 154 #[]), (fV 190 #[(pt tbt49_0_0 0), (pt tbt49_0_1 0), (pt tbt49_0_2 0), (pt tbt49_0_3 0)]), (fV 191 #[(pt tbt49_0_0 0), (pt tbt49_0_3 0)]), (fV 190 #[(pt tbt49_0_4 0), (pt tbt49_0_5 0), (pt tbt49_0_6 0), (pt tbt49_0_7 0)]), (fV 191 #[(pt tbt49_0_4 0), (pt tbt49_0_7 0)]), (fV 190 #[(pt tbt49_0_8 0), (pt tbt49_0_9 0), (pt tbt49_0_10 0), (pt tbt49_0_11 0)]), (fV 191 #[(pt tbt49_0_8 0), (pt tbt49_0_11 0)]), (fV 159 #[]), (fV 160 #[]), (vi r111.1.2.2.2.2.2.2.2.2.2.2.2.1), (.bool r111.1.2.2.2.2.2.2.2.2.2.2.2.2.1)] 130), (sb b30 #[(vi 0)] 3), (sb b27 #[(vi 0)] 35), (sb b24 #[(sv r111.1.2.2.2.2.2.1), (vi r111.1.2.2.2.2.2.2.1), (vi r111.1.2.2.2.2.2.2.2.1), (vi r111.1.2.2.2.2.2.2.2.2.1), (.slice as107_9 r111.1.2.2.2.2.2.2.2.2.2.1.length ns107_9), (.slice as107_10 r111.1.2.2.2.2.2.2.2.2.2.2.1.length ns107_10)] 27)] := hs239.drop 0
     obtain rfl := Aa h211
     exact .inr ⟨D202, rfl, hs235.ownAt (k := 0) rfl, (.tuple #[(.agg #[(sv r111.1.2.2.2.2.2.1), (vi r111.1.2.2.2.2.2.2.1), (vi r111.1.2.2.2.2.2.2.2.1), (vi r111.1.2.2.2.2.2.2.2.2.1), (.slice as107_9 r111.1.2.2.2.2.2.2.2.2.2.1.length ns107_9), (.slice as107_10 r111.1.2.2.2.2.2.2.2.2.2.2.1.length ns107_10)]), (vi 0), (vi 0)]), AW (l := [.cell 4 27, .cell 5 35, .cell 6 3]) (by kernel_rfl) (vs := [(.agg #[(sv r111.1.2.2.2.2.2.1), (vi r111.1.2.2.2.2.2.2.1), (vi r111.1.2.2.2.2.2.2.2.1), (vi r111.1.2.2.2.2.2.2.2.2.1), (.slice as107_9 r111.1.2.2.2.2.2.2.2.2.2.1.length ns107_9), (.slice as107_10 r111.1.2.2.2.2.2.2.2.2.2.2.1.length ns107_10)]), (vi 0), (vi 0)]) ⟨b24, 0, rfl, Am (t := 27) (g := true) (s := 6) (by kernel_rfl) hs240.at5 rfl (by decide), ⟨b27, 0, rfl, Am (t := 35) (g := false) (s := 1) (by kernel_rfl) hs240.at4 rfl (by decide), ⟨b30, 0, rfl, Am (t := 3) (g := false) (s := 1) (by kernel_rfl) hs240.at3 rfl (by decide), trivial⟩⟩⟩, (.tuple #[(.agg #[(sv r111.1.2.2.2.2.2.1), (vi r111.1.2.2.2.2.2.2.1), (vi r111.1.2.2.2.2.2.2.2.1), (vi r111.1.2.2.2.2.2.2.2.2.1), (.slice as107_9 r111.1.2.2.2.2.2.2.2.2.2.1.length ns107_9), (.slice as107_10 r111.1.2.2.2.2.2.2.2.2.2.2.1.length ns107_10)]), (vi 0), (vi 0)]), F12, rfl, hs240.clear, ⟨as107_9, ns107_9, as107_10, ns107_10, rfl, hbs107_9, (Wm hss107_9 le236), hb238, hs237⟩⟩
   ·rintro hg245
    have h246 := Ow h113 hg245
    rintro D241 w242 F6 _ hs243 le244 ⟨as107_9, ns107_9, as107_10, ns107_10, es107_10, rfl, hbs107_9, hss107_9, hrs107_10⟩
    have hs247 : HS w0 F0 w242 F6 [(some D241, (.deferred (some []))), es107_10, (sb b90 #[(vi r111.1.2.2.2.2.2.2.2.2.2.2.2.2.2)] 3), (sb b47 #[(pt b48 0)] 128), (sb b48 #[(.bool r111.1.2.2.1), (.bool r111.1.2.2.2.1), (.bool r111.1.2.2.2.2.1), (sv r111.1.2.2.2.2.2.1), (vi r111.1.2.2.2.2.2.2.1), (vi r111.1.2.2.2.2.2.2.2.1), (vi r111.1.2.2.2.2.2.2.2.2.1), (.slice as107_9 r111.1.2.2.2.2.2.2.2.2.2.1.length ns107_9), (.slice as107_10 r111.1.2.2.2.2.2.2.2.2.2.2.1.length ns107_10), (fV 153 #[]), (fV 154 #[]), (fV 190 #[(pt tbt49_0_0 0), (pt tbt49_0_1 0), (pt tbt49_0_2 0), (pt tbt49_0_3 0)]), (fV 191 #[(pt tbt49_0_0 0), (pt tbt49_0_3 0)]), (fV 190 #[(pt tbt49_0_4 0), (pt tbt49_0_5 0), (pt tbt49_0_6 0), (pt tbt49_0_7 0)]), (fV 191 #[(pt tbt49_0_4 0), (pt tbt49_0_7 0)]), (fV 190 #[(pt tbt49_0_8 0), (pt tbt49_0_9 0), (pt tbt49_0_10 0), (pt tbt49_0_11 0)]), (fV 191 #[(pt tbt49_0_8 0), (pt tbt49_0_11 0)]), (fV 159 #[]), (fV 160 #[]), (vi r111.1.2.2.2.2.2.2.2.2.2.2.2.1), (.bool r111.1.2.2.2.2.2.2.2.2.2.2.2.2.1)] 130), (sb b30 #[(vi r111.1.2.1)] 3), (sb b27 #[(vi r111.1.1)] 35), (sb b24 #[(sv (([] : WE))), (vi 0), (vi 0), (vi 0), (.slice none ([] : List Int).length 0), (.slice none ([] : List Line).length 0)] 27)] := hs243
    refine Ax <| Ae ?_
    have hs248 := hs247.put (k := 0) rfl (.deferred none)
    have hs249 : HS w0 F0 (B1 w242 D241 (.deferred none)) F6 [es107_10, (sb b90 #[(vi r111.1.2.2.2.2.2.2.2.2.2.2.2.2.2)] 3), (sb b47 #[(pt b48 0)] 128), (sb b48 #[(.bool r111.1.2.2.1), (.bool r111.1.2.2.2.1), (.bool r111.1.2.2.2.2.1), (sv r111.1.2.2.2.2.2.1), (vi r111.1.2.2.2.2.2.2.1), (vi r111.1.2.2.2.2.2.2.2.1), (vi r111.1.2.2.2.2.2.2.2.2.1), (.slice as107_9 r111.1.2.2.2.2.2.2.2.2.2.1.length ns107_9), (.slice as107_10 r111.1.2.2.2.2.2.2.2.2.2.2.1.length ns107_10), (fV 153 #[]), (fV 154 #[]), (fV 190 #[(pt tbt49_0_0 0), (pt tbt49_0_1 0), (pt tbt49_0_2 0), (pt tbt49_0_3 0)]), (fV 191 #[(pt tbt49_0_0 0), (pt tbt49_0_3 0)]), (fV 190 #[(pt tbt49_0_4 0), (pt tbt49_0_5 0), (pt tbt49_0_6 0), (pt tbt49_0_7 0)]), (fV 191 #[(pt tbt49_0_4 0), (pt tbt49_0_7 0)]), (fV 190 #[(pt tbt49_0_8 0), (pt tbt49_0_9 0), (pt tbt49_0_10 0), (pt tbt49_0_11 0)]), (fV 191 #[(pt tbt49_0_8 0), (pt tbt49_0_11 0)]), (fV 159 #[]), (fV 160 #[]), (vi r111.1.2.2.2.2.2.2.2.2.2.2.2.1), (.bool r111.1.2.2.2.2.2.2.2.2.2.2.2.2.1)] 130), (sb b30 #[(vi r111.1.2.1)] 3), (sb b27 #[(vi r111.1.1)] 35), (sb b24 #[(sv (([] : WE))), (vi 0), (vi 0), (vi 0), (.slice none ([] : List Int).length 0), (.slice none ([] : List Line).length 0)] 27)] := hs248.drop 0
    obtain rfl := Aa h246
    exact .inr ⟨D241, rfl, hs247.ownAt (k := 0) rfl, (.tuple #[(.agg #[(sv (([] : WE))), (vi 0), (vi 0), (vi 0), (.slice none ([] : List Int).length 0), (.slice none ([] : List Line).length 0)]), (vi r111.1.1), (vi r111.1.2.1)]), AW (l := [.cell 4 27, .cell 5 35, .cell 6 3]) (by kernel_rfl) (vs := [(.agg #[(sv (([] : WE))), (vi 0), (vi 0), (vi 0), (.slice none ([] : List Int).length 0), (.slice none ([] : List Line).length 0)]), (vi r111.1.1), (vi r111.1.2.1)]) ⟨b24, 0, rfl, Am (t := 27) (g := true) (s := 6) (by kernel_rfl) hs249.at6 rfl (by decide), ⟨b27, 0, rfl, Am (t := 35) (g := false) (s := 1) (by kernel_rfl) hs249.at5 rfl (by decide), ⟨b30, 0, rfl, Am (t := 3) (g := false) (s := 1) (by kernel_rfl) hs249.at4 rfl (by decide), trivial⟩⟩⟩, (.tuple #[(.agg #[(sv (([] : WE))), (vi 0), (vi 0), (vi 0), (.slice none ([] : List Int).length 0), (.slice none ([] : List Line).length 0)]), (vi r111.1.1), (vi r111.1.2.1)]), F6, rfl, hs249.clear, ⟨none, 0, none, 0, rfl, Wn, (.inl rfl), Wn, (.inl rfl)⟩⟩
def FO (N : Nat) (x0 : (List Int)) (x1 : (List Int)) : Int -> Option (Bt Bool Int) := fun s27 =>
 (bif (decide (s27 < (x0.length : Int))) then none else some (.done s27))
def HK (N : Nat) (x0 : (List Int)) (x1 : (List Int)) : Option Bool :=
 (bif ((x0.length : Int) != (x1.length : Int)) then none else ((AX (FO N x0 x1) N 0).bind fun o => o.k (fun r => some r) (fun s35 => some true)))
theorem J3 : Af Tryz.prog 57 := fun _ _ => by kernel_rfl
theorem KG (N : Nat) (w0 : World) (F0 : Mem) (hF : WG w0 F0) (x0 : (List Int)) (a0_0 : WF) (n0_0 : Nat) (hb0_0 : LC x0.length n0_0) (hs0_0 : SlA AD F0 a0_0 x0) (x1 : (List Int)) (a1_0 : WF) (n1_0 : Nat) (hb1_0 : LC x1.length n1_0) (hs1_0 : SlA AD F0 a1_0 x1) (r : Bool) (h : HK N x0 x1 = some r) :
  Calls Tryz.prog 57 ([(.slice a0_0 x0.length n0_0), (.slice a1_0 x1.length n1_0)] : List Value).toArray w0 (AB w0 F0 fun F' v => v = (.bool r)) := by
 have hs0 := Wl hF
 refine Go 26 Tryz.func57 <| Sq (Rg [0] ?_)
 refine Vs 1 <| Nss <| Sq (Rg (rG 5) ?_)
 refine Vs 5 <| Nt <| Cd h (fun hb21 h22 => ?_) (fun hb21 h23 => ?_)
 ·cases h22
 ·refine Sc ?_
  refine Ab <| Sq <| Sq (Rg [0] ?_)
  refine Vs 1 <| Nt ?_
  obtain ⟨o24, ho25, h26⟩ := bind_some h23
  refine Wq (fun f w => ∃ (s35 : Int) (F2 : Mem), o24 = .done s35 /\ HS w0 F0 w F2 [] /\ Wj F0 F2 /\ FI f [] []) ?_ ?_
  ·refine Bk ?_
   refine Wi (by kernel_rfl) (fun m f w => ∃ (s27 : Int) (F1 : Mem), AX (FO N x0 x1) m s27 = some o24 /\ HS w0 F0 w F1 [] /\ Wj F0 F1 /\ FI f [] [(0, (.slice a0_0 x0.length n0_0)), (1, (.slice a1_0 x1.length n1_0)), (5, (vi s27))]) N ⟨0, F0, ho25, hs0, (Wk _), fI⟩ ?_
   rintro m40 f w28 ⟨s27, F1, hit41, hs29, le30, ⟨_, rfl⟩⟩
   obtain ⟨m42, fl43, rfl, hb44, hnx45⟩ := AN hit41
   refine Sq <| Sq (Rg (rG 4) ?_)
   refine Vs 4 <| Nt <| Cd hb44 (fun hb46 h47 => ?_) (fun hb46 h48 => ?_)
   ·cases h47
   ·refine Ex ?_
    refine Ar <| Ar <| Az rfl ?_
    have ho49 := AP h48 hnx45
    exact .inl ⟨rfl, s27, F1, ho49, hs29, le30, fI⟩
  ·rintro f w36 ⟨s35, F2, rfl, hs37, le38, ⟨_, rfl⟩⟩
   have h50 := BL h26
   refine Ab <| Sq (Rg [0] ?_)
   refine Vs 1 <| Nt <| Rt ?_
   obtain rfl := Aa h50
   exact Re [(.bool true)] hs37 rfl
def IZ (N : Nat) (x0 : Log) (x1 : Log) (r39 : Bool) : Int -> Option (Bt Bool Int) := fun s56 =>
 (bif (decide (s56 < (x0.Lines.length : Int))) then (((idx x0.Lines s56).bind fun x91 => ((idx x1.Lines s56).bind fun x105 => some (!((x91.Num == x105.Num) && ((x91.Khz == x105.Khz) && ((x91.Mode == x105.Mode) && ((x91.Minute == x105.Minute) && ((x91.Call == x105.Call) && (((x91.Sent.Report == x105.Sent.Report) && ((x91.Sent.Serial == x105.Sent.Serial) && ((x91.Sent.Zone == x105.Sent.Zone) && true))) && (((x91.Got.Report == x105.Got.Report) && ((x91.Got.Serial == x105.Got.Serial) && ((x91.Got.Zone == x105.Got.Zone) && true))) && true)))))))))).bind fun j83 => (bif j83 then none else some (.next (W64 (s56 + 1))))) else some (.done s56))
def L5 (N : Nat) (x0 : Log) (x1 : Log) : Option Bool :=
 (bif (x0.Call != x1.Call) then none else (bif (x0.Category != x1.Category) then none else (bif (x0.Power != x1.Power) then none else (bif (x0.Claimed != x1.Claimed) then none else ((HK N x0.Jumps x1.Jumps).bind fun r39 => (bif (!r39) then none else (bif ((x0.Lines.length : Int) != (x1.Lines.length : Int)) then some false else ((AX (IZ N x0 x1 r39) N 0).bind fun o => o.k (fun r => some r) (fun s64 => some true)))))))))
theorem Nj : Af Tryz.prog 35 := fun _ _ => by kernel_rfl
theorem OD (N : Nat) (w0 : World) (F0 : Mem) (hF : WG w0 F0) (x0 : Log) (a0_4 : WF) (n0_4 : Nat) (hb0_4 : LC x0.Jumps.length n0_4) (hs0_4 : SlA AD F0 a0_4 x0.Jumps) (a0_5 : WF) (n0_5 : Nat) (hb0_5 : LC x0.Lines.length n0_5) (hs0_5 : SlA AC F0 a0_5 x0.Lines) (x1 : Log) (a1_4 : WF) (n1_4 : Nat) (hb1_4 : LC x1.Jumps.length n1_4) (hs1_4 : SlA AD F0 a1_4 x1.Jumps) (a1_5 : WF) (n1_5 : Nat) (hb1_5 : LC x1.Lines.length n1_5) (hs1_5 : SlA AC F0 a1_5 x1.Lines) (r : Bool) (h : L5 N x0 x1 = some r) :
  Calls Tryz.prog 35 ([(.agg (AF x0 a0_4 n0_4 a0_5 n0_5)), (.agg (AF x1 a1_4 n1_4 a1_5 n1_5))] : List Value).toArray w0 (AB w0 F0 fun F' v => v = (.bool r)) := by
 have hs0 := Wl hF
 refine Go 67 Tryz.func35 <| Sq (Rg [0, 1, 2] ?_)
 refine Bx' 27 (AF x0 a0_4 n0_4 a0_5 n0_5) hs0 (fun b21 w22 hs23 => ?_)
 refine Bx' 27 (AF x1 a1_4 n1_4 a1_5 n1_5) hs23 (fun b24 w25 hs26 => ?_)
 refine Vs 1 <| Nss <| Sq (Rg (rG 43) ?_)
 refine Vs 1 <| Ld hs26.at1 <| Vs 1 <| Ld hs26.at0 <| Vs 2 <| Sp h (fun hb27 h28 => ?_) (fun hb27 h29 => ?_)
 ·cases h28
 ·refine Vgs hb27 1 ?_
  refine Lg hb27 hs26.at1 <| Vgs hb27 1 <| Lg hb27 hs26.at0 <| Vgs hb27 1 <| Pk0 hb27 <| Vs 1 <| Sp h29 (fun hb30 h31 => ?_) (fun hb30 h32 => ?_)
  ·cases h31
  ·refine Vgs hb30 1 ?_
   refine Lg hb30 hs26.at1 <| Vgs hb30 1 <| Lg hb30 hs26.at0 <| Vgs hb30 1 <| Pk0 hb30 <| Vs 1 <| Sp h32 (fun hb33 h34 => ?_) (fun hb33 h35 => ?_)
   ·cases h34
   ·refine Vgs hb33 1 ?_
    refine Lg hb33 hs26.at1 <| Vgs hb33 1 <| Lg hb33 hs26.at0 <| Vgs hb33 1 <| Pk0 hb33 <| Vs 1 <| Sp h35 (fun hb36 h37 => ?_) (fun hb36 h38 => ?_)
    ·cases h37
    ·refine Vgs hb36 1 ?_
     refine Lg hb36 hs26.at1 <| Vgs hb36 1 <| Lg hb36 hs26.at0 ?_
     obtain ⟨r39, hr40, h41⟩ := bind_some h38
     refine Cg hb36 J3 hs26 (KG N w25 F0 hs26.pers x0.Jumps a0_4 n0_4 hb0_4 hs0_4 x1.Jumps a1_4 n1_4 hb1_4 hs1_4 _ hr40) ?_
     rintro _ F1 w43 hs44 le45 rfl
     refine Vgs hb36 1 <| Pk0 hb36 <| Vs 1 <| Sp h41 (fun hb47 h48 => ?_) (fun hb47 h49 => ?_)
     ·cases h48
     ·refine Vgs hb47 1 ?_
      refine Lg hb47 hs44.at1 <| Vgs hb47 2 <| Lg hb47 hs44.at0 <| Vgs hb47 2 <| Pk0 hb47 <| Nt <| Cd h49 (fun hb50 h51 => ?_) (fun hb50 h52 => ?_)
      ·refine Sq (Rg [0] ?_)
       refine Vs 1 <| Nt <| Rt <| Ae ?_
       obtain rfl := Aa h51
       exact Re [(.bool false)] hs44 rfl
      ·refine Sc ?_
       refine Ab <| Sq <| Sq (Rg [0] ?_)
       refine Vs 1 <| Nt ?_
       obtain ⟨o53, ho54, h55⟩ := bind_some h52
       refine Wq (fun f w => ∃ (s64 : Int) (F3 : Mem), o53 = .done s64 /\ HS w0 F0 w F3 [] /\ Wj F1 F3 /\ FI f [] []) ?_ ?_
       ·refine Bk ?_
        refine Wi (by kernel_rfl) (fun m f w => ∃ (s56 : Int) (F2 : Mem), AX (IZ N x0 x1 r39) m s56 = some o53 /\ HS w0 F0 w F2 [(sb b24 (AF x1 a1_4 n1_4 a1_5 n1_5) 27), (sb b21 (AF x0 a0_4 n0_4 a0_5 n0_5) 27)] /\ Wj F1 F2 /\ FI f [] [(2, (pt b21 0)), (3, (pt b24 0)), (5, (vi s56))]) N ⟨0, F1, ho54, hs44, (Wk _), fI⟩ ?_
        rintro m69 f w57 ⟨s56, F2, hit70, hs58, le59, ⟨_, rfl⟩⟩
        obtain ⟨m71, fl72, rfl, hb73, hnx74⟩ := AN hit70
        refine Sq <| Sq (Rg (rG 5) ?_)
        refine Vs 2 <| Ld hs58.at1 <| Vs 2 <| Nt <| Cd hb73 (fun hb75 h76 => ?_) (fun hb75 h77 => ?_)
        ·refine Sc ?_
         refine Ab <| Sq <| Bk <| Sq ?_
         obtain ⟨j83, hj89, h90⟩ := bind_some h76
         refine RD 11 11 [(sb b24 (AF x1 a1_4 n1_4 a1_5 n1_5) 27), (sb b21 (AF x0 a0_4 n0_4 a0_5 n0_5) 27)] [] hs58 (fun f w => ∃ (F4 : Mem), HS w0 F0 w F4 [(sb b24 (AF x1 a1_4 n1_4 a1_5 n1_5) 27), (sb b21 (AF x0 a0_4 n0_4 a0_5 n0_5) 27)] /\ Wj F2 F4 /\ FI f [] [(2, (pt b21 0)), (3, (pt b24 0)), (5, (vi s56)), (66, (.bool j83))]) (fun wd78 hw79 => ?_) ?_
         ·refine Dv [0] ?_
          refine Dl 1 (fun _ hq => (hq.1.2 1 _ _ rfl)) <| Dv [2] ?_
          obtain ⟨x91, hx92, h94⟩ := bind_some hj89
          obtain ⟨hi93, hx92'⟩ := Ap hx92
          obtain ⟨b95, o96, C97, E98, fz99, rfl, hF101, hE102⟩ := Wr (Wm hs0_5 (le45.t le59)) hx92'
          have hc104 := hE102 _ _ hx92'
          refine Di 3 hi93 <| Dx 4 0 (fun _ hq => hq.1.1 _ _ hF101) hc104 <| Dv [5] <| Dl 6 (fun _ hq => (hq.1.2 0 _ _ rfl)) <| Dv [7] ?_
          obtain ⟨x105, hx106, h108⟩ := bind_some h94
          obtain ⟨hi107, hx106'⟩ := Ap hx106
          obtain ⟨b109, o110, C111, E112, fz113, rfl, hF115, hE116⟩ := Wr (Wm hs1_5 (le45.t le59)) hx106'
          have hc118 := hE116 _ _ hx106'
          refine Di 8 hi107 <| Dx 9 0 (fun _ hq => hq.1.1 _ _ hF115) hc118 <| Dv [10] ?_
          obtain rfl := Aa h108
          exact Ww (by kernel_rfl) ⟨F2, hw79, (Wk _), fI⟩
         ·rintro f w80 ⟨F4, hs81, le82, ⟨_, rfl⟩⟩
          refine Ab <| Cd h90 (fun hb119 h120 => ?_) (fun hb119 h121 => ?_)
          ·cases h120
          ·refine Sc ?_
           refine Au <| Ab <| Rg [0, 1, 2] <| Vs 3 <| Wf ?_
           have hn122 := AO h121 hnx74
           exact ⟨m71, Nat.lt_succ_self _, (W64 (s56 + 1)), F4, hn122, hs81, (le59.t le82), fI⟩
        ·refine Ex ?_
         refine Ar <| Ar <| Az rfl ?_
         have ho123 := AP h77 hnx74
         exact .inl ⟨rfl, s56, F2, ho123, hs58.dr0.dr0, le59, fI⟩
       ·rintro f w65 ⟨s64, F3, rfl, hs66, le67, ⟨_, rfl⟩⟩
        have h124 := BL h55
        refine Ab <| Sq (Rg [0] ?_)
        refine Vs 1 <| Nt <| Rt ?_
        obtain rfl := Aa h124
        exact Re [(.bool true)] hs66 rfl
def DD (F : Mem) (v : Value) (L : Own) : Option Al -> Prop
 | none => v = .tuple #[.pointer none, .int .i64 2] /\ L = []
 | some m => ∃ (b : Nat) (am_3 : WF) (nm_3 : Nat) (mbm_4 : Nat) (em_4 : Option Nat × Obj) (mbm_5 : Nat) (em_5 : Option Nat × Obj), v = .tuple #[.pointer (some ⟨b, 0, none⟩), .int .i64 0] /\ L = [(sb b #[(.bool m.o_.Report), (.bool m.o_.Serial), (.bool m.o_.Zone), (.slice am_3 m.lines_.length nm_3), (.map (some mbm_4)), (.map (some mbm_5))] 148), em_4, em_5] /\ LC m.lines_.length nm_3 /\ SlA AM F am_3 m.lines_ /\ Bb Ay AD F mbm_4 m.known_ em_4 /\ Bb AM As F mbm_5 m.read_ em_5
theorem FH {F : Mem} {v : Value} {L : Own} (h : DD F v L none) : v = .tuple #[.pointer none, .int .i64 2] /\ L = [] := h
theorem FG {F : Mem} {v : Value} {L : Own} {m : Al} (h : DD F v L (some m)) : ∃ (b : Nat) (am_3 : WF) (nm_3 : Nat) (mbm_4 : Nat) (em_4 : Option Nat × Obj) (mbm_5 : Nat) (em_5 : Option Nat × Obj), v = .tuple #[.pointer (some ⟨b, 0, none⟩), .int .i64 0] /\ L = [(sb b #[(.bool m.o_.Report), (.bool m.o_.Serial), (.bool m.o_.Zone), (.slice am_3 m.lines_.length nm_3), (.map (some mbm_4)), (.map (some mbm_5))] 148), em_4, em_5] /\ LC m.lines_.length nm_3 /\ SlA AM F am_3 m.lines_ /\ Bb Ay AD F mbm_4 m.known_ em_4 /\ Bb AM As F mbm_5 m.read_ em_5 := h
theorem Ir {F : Mem} {v : Value} {L : Own} {m : Al} (h : ∃ (b : Nat) (am_3 : WF) (nm_3 : Nat) (mbm_4 : Nat) (em_4 : Option Nat × Obj) (mbm_5 : Nat) (em_5 : Option Nat × Obj), v = .tuple #[.pointer (some ⟨b, 0, none⟩), .int .i64 0] /\ L = [(sb b #[(.bool m.o_.Report), (.bool m.o_.Serial), (.bool m.o_.Zone), (.slice am_3 m.lines_.length nm_3), (.map (some mbm_4)), (.map (some mbm_5))] 148), em_4, em_5] /\ LC m.lines_.length nm_3 /\ SlA AM F am_3 m.lines_ /\ Bb Ay AD F mbm_4 m.known_ em_4 /\ Bb AM As F mbm_5 m.read_ em_5) : DD F v L (some m) := h
def Hl (N : Nat) (x0 : Ac) (x1 : WE) : (List WE) -> (WE × Bool) -> Option (List WE) := fun s52 x65 =>
 (((D3 s52 [x65.1]).bind fun r100 => some r100).bind fun j85 => some j85)
def GX (N : Nat) (x0 : Ac) (x1 : WE) : Option (Option Al) :=
 ((Ds N (fun st x => ((Hl N x0 x1) st x).map fun t => (true, t)) x1 ([] : List WE)).bind fun r60 => (bif ((decide ((x1.length : Int) > 65536)) || (decide ((r60.length : Int) > 400))) then none else some (some ({ o_ := ({ Report := x0.Report, Serial := x0.Serial, Zone := x0.Zone } : Ac), lines_ := r60, known_ := ([] : List (An × Int)), read_ := ([] : List (WE × Aq)) } : Al))))
theorem Ho : Af Tryz.prog 108 := fun _ _ => by kernel_rfl
theorem Im (N : Nat) (w0 : World) (F0 : Mem) (hF : WG w0 F0) (hG : Bz F0) (x0 : Ac) (x1 : WE) (r : (Option Al)) (h : GX N x0 x1 = some r) :
  Calls Tryz.prog 108 ([(.agg (Ak x0)), (sv x1)] : List Value).toArray w0 (M4 w0 F0 fun F' v L' => DD F' v L' r) := by
 have hs0 := Wl hF
 refine NS (n := 39) (c := M1 Tryz.f108) Tryz.func108 (by kernel_rfl) (by kernel_rfl) (by kernel_rfl) <| Sq (Rg [0, 1, 2] ?_)
 refine Bx' 23 (Ak x0) hs0 (fun b21 w22 hs23 => ?_)
 refine Vs 2 <| Nss (Rg (rG 7) ?_)
 refine Ld hs23.at0 <| RWP.makeMap (t := 145) (K := Ay) (T := AD) (dst := (some 9)) (ty := 145) (g := none) (by kernel_rfl) rfl hs23 (fun b25 e26 w27 (hs28 : HS w0 F0 w27 F0 [e26, (sb b21 (Ak x0) 23)]) hr29 => ?_)
 refine RWP.makeMap (t := 146) (K := AM) (T := As) (dst := (some 10)) (ty := 146) (g := none) (by kernel_rfl) rfl hs28 (fun b31 e32 w33 (hs34 : HS w0 F0 w33 F0 [e32, e26, (sb b21 (Ak x0) 23)]) hr35 => ?_)
 refine Vs 1 <| Bx' 148 #[(.bool x0.Report), (.bool x0.Serial), (.bool x0.Zone), (.slice none ([] : List WE).length 0), (.map (some b25)), (.map (some b31))] hs34 (fun b36 w37 hs38 => ?_)
 refine Al' 138 #[(.pointer none)] hs38 (fun b39 w40 hs41 => ?_)
 refine St0 #[(pt b36 0)] hs41 (fun w42 hs43 => ?_)
 refine Nss <| Sq (Rg [0, 1] ?_)
 refine Vs 1 <| RWP.callO (dst := (some 14)) (ty := 132) (g := none) (by kernel_rfl) rfl (f0 := (.func 105)) (aos := #[(.tmp 13)]) (ats := #[9]) (fid := 105) (first := #[]) (cap := #[]) (args := [(sv x1)]) rfl I5 rfl hs43 (Kg w42 F0 hs43.pers x1) ?_
 rintro _ F1 w45 _ hs46 le47 ⟨b44, rfl, rfl⟩
 have hs48 : HS w0 F0 w45 F1 [(sb b44 #[(sv x1)] 9), (sb b39 #[(pt b36 0)] 138), (sb b36 #[(.bool x0.Report), (.bool x0.Serial), (.bool x0.Zone), (.slice none ([] : List WE).length 0), (.map (some b25)), (.map (some b31))] 148), e32, e26, (sb b21 (Ak x0) 23)] := hs46
 refine Nt <| Bk ?_
 have hs49 := hs48.dr5.dummy (oc #[] 0)
 have hs51 := hs49.pk5.pk5.pk5.pk5.pk4.pk5
 obtain ⟨r60, hr61, h62⟩ := bind_some h
 refine CWP.rangeFunc (enc := Qs) (ok := SC) (px := So) (m := fun {_} y s => Ds N y x1 s) (L := [(none, .cells #[] 0 (0, 0)), (sb b39 #[(pt b36 0)] 138), (sb b36 #[(.bool x0.Report), (.bool x0.Serial), (.bool x0.Zone), (.slice none ([] : List WE).length 0), (.map (some b25)), (.map (some b31))] 148), e32, e26]) (B := [(sb b44 #[(sv x1)] 9)]) (ps := [15, 16]) (by kernel_rfl) (gf := 169) (cap := [(pt b44 0)]) rfl Hp rfl (by kernel_rfl) (by kernel_rfl) (fun _ => rfl) hs51 (Io N F1 (hG.mono le47) x1 b44) (fun st x => ((Hl N x0 x1) st x).map fun t => (true, t)) (fun (s52 : (List WE)) (F2 : Mem) (Lq : Own) => ∃ (as52_0 : WF) (ns52_0 : Nat) (es52_0 : Option Nat × Obj), Lq = [es52_0, (sb b39 #[(pt b36 0)] 138), (sb b36 #[(.bool x0.Report), (.bool x0.Serial), (.bool x0.Zone), (.slice as52_0 s52.length ns52_0), (.map (some b25)), (.map (some b31))] 148), e32, e26] /\ Av AM 9 F2 as52_0 ns52_0 s52 es52_0) ?_ (s := ([] : List WE)) (r := r60) ?_ hr61 (fun _ _ _ h => (O6 h).1) ?_ ?_
 ·rintro s F F' L ⟨as52_0, ns52_0, es52_0, rfl, hrs52_0⟩ hl
  exact ⟨as52_0, ns52_0, es52_0, rfl, (hrs52_0.mono hl)⟩
 ·exact ⟨none, 0, (none, .cells #[] 0 (0, 0)), rfl, (Wy AM 9 F1 _)⟩
 ·rintro l63 s52 x65 w66 F2 _ Rf68 ⟨_, q69⟩ le70 ok71 ⟨as52_0, ns52_0, es52_0, rfl, hrs52_0⟩ hs72 hy73
  have h74 := (O6 hy73).2
  have hs75 : HS w0 F0 w66 F2 (es52_0 :: (sb b39 #[(pt b36 0)] 138) :: (sb b36 #[(.bool x0.Report), (.bool x0.Serial), (.bool x0.Zone), (.slice as52_0 s52.length ns52_0), (.map (some b25)), (.map (some b31))] 148) :: e32 :: e26 :: Rf68) := hs72
  refine Rg [0] <| Vs 1 <| Wf <| ⟨rfl, F2, [es52_0, (sb b39 #[(pt b36 0)] 138), (sb b36 #[(.bool x0.Report), (.bool x0.Serial), (.bool x0.Zone), (.slice as52_0 s52.length ns52_0), (.map (some b25)), (.map (some b31))] 148), e32, e26], hs75, fun w76 Rf77 hs78 => ?_⟩
  have hs79 : HS w0 F0 w76 F2 (es52_0 :: (sb b39 #[(pt b36 0)] 138) :: (sb b36 #[(.bool x0.Report), (.bool x0.Serial), (.bool x0.Zone), (.slice as52_0 s52.length ns52_0), (.map (some b25)), (.map (some b31))] 148) :: e32 :: e26 :: Rf77) := hs78
  refine Bk ?_
  obtain ⟨j85, hj93, h94⟩ := bind_some h74
  refine RD 10 11 [(sb b39 #[(pt b36 0)] 138), e32, e26] [(sb b36 #[(.bool x0.Report), (.bool x0.Serial), (.bool x0.Zone), (.slice as52_0 s52.length ns52_0), (.map (some b25)), (.map (some b31))] 148)] hs79 (fun f w => ∃ (F4 : Mem) (aj85_0 : WF) (nj85_0 : Nat) (ej85_0 : Option Nat × Obj), HS w0 F0 w F4 (ej85_0 :: (sb b39 #[(pt b36 0)] 138) :: (sb b36 #[(.bool x0.Report), (.bool x0.Serial), (.bool x0.Zone), (.slice aj85_0 j85.length nj85_0), (.map (some b25)), (.map (some b31))] 148) :: e32 :: e26 :: Rf77) /\ Wj F2 F4 /\ FI f [] [(2, (pt b21 0)), (6, (pt b39 0)), (9, (.map (some b25))), (10, (.map (some b31))), (11, (.agg #[(.bool x0.Report), (.bool x0.Serial), (.bool x0.Zone), (.slice none ([] : List WE).length 0), (.map (some b25)), (.map (some b31))])), (12, (pt b36 0))] /\ Av AM 9 F4 aj85_0 nj85_0 j85 ej85_0) (fun wd80 hw81 => ?_) ?_
  ·refine Dl 0 (fun _ hq => (hq.1.2 0 _ _ rfl)) ?_
   refine Dl 1 (fun _ hq => (hq.1.2 0 _ _ rfl)) <| Dv [2, 3] <| Dl 4 (fun _ hq => ((hq.2 rfl).2 0 _ _ rfl)) <| Dv [5] <| D1 6 <| DBs 9 [(sv x65.1)] hw81 (Wk _) (fun b95 w96 hs97 => ?_)
   have hr99 : Av AM 9 F2 (some ⟨b95, 0, none⟩) 1 [x65.1] (some b95, .cells ([(sv x65.1)] : List Value).toArray 9 (0, 0)) := Wz ⟨rfl, rfl⟩ (by simp)
   refine D1 7 ?_
   obtain ⟨r100, hap101, h102⟩ := bind_some hj93
   refine We VE hs97 hrs52_0 (hs97.rd0 hr99) hap101 (Wk _) (fun a103 n104 e105 w106 hs107 hr108 => ?_)
   refine D1 8 <| Wt (l' := [true, true, true, true, true, true, true, true, true, false, false]) (zd := false) (by kernel_rfl) (by kernel_rfl) (dst := (some 25)) (ty := 0) (g := none) (by kernel_rfl) rfl (Ef (x := (.tmp 17)) (a := ⟨b36, 0, none⟩) rfl) (Bd hs107 (Wk _) (by simp) (fun _ => by simp)) <| Dv [9] <| D1 10 <| Uy #[(.bool x0.Report), (.bool x0.Serial), (.bool x0.Zone), (.slice a103 r100.length n104), (.map (some b25)), (.map (some b31))] hs107 (Wk _) (fun w109 hs110 => ?_)
   obtain rfl := Aa h102
   exact Ww (by kernel_rfl) ⟨F2, a103, n104, e105, hs110.dr0, (Wk _), fI, hr108⟩
  ·rintro f w82 ⟨F4, aj85_0, nj85_0, ej85_0, hs83, le84, ⟨_, rfl⟩, hrj85_0⟩
   refine Au ?_
   obtain rfl := Aa h94
   exact ⟨rfl, F4, [ej85_0, (sb b39 #[(pt b36 0)] 138), (sb b36 #[(.bool x0.Report), (.bool x0.Serial), (.bool x0.Zone), (.slice aj85_0 j85.length nj85_0), (.map (some b25)), (.map (some b31))] 148), e32, e26], hs83, le84, ⟨aj85_0, nj85_0, ej85_0, rfl, hrj85_0⟩⟩
 ·rintro D112 w113 F3 _ hs114 le115 ⟨as56_0, ns56_0, es56_0, rfl, hrs56_0⟩
  have hs116 : HS w0 F0 w113 F3 [(some D112, (.deferred (some []))), es56_0, (sb b39 #[(pt b36 0)] 138), (sb b36 #[(.bool x0.Report), (.bool x0.Serial), (.bool x0.Zone), (.slice as56_0 r60.length ns56_0), (.map (some b25)), (.map (some b31))] 148), e32, e26] := hs114
  refine Au <| Ab <| Sq <| Sq (Rg (rG 11) ?_)
  refine Wp (fun f w => ∃ (F5 : Mem), HS w0 F0 w F5 [(some D112, (.deferred (some []))), es56_0, (sb b39 #[(pt b36 0)] 138), (sb b36 #[(.bool x0.Report), (.bool x0.Serial), (.bool x0.Zone), (.slice as56_0 r60.length ns56_0), (.map (some b25)), (.map (some b31))] 148), e32, e26] /\ Wj F3 F5 /\ FI f [{ target := .collected D112, args := #[] }] [(6, (pt b39 0)), (37, (.bool ((decide ((x1.length : Int) > 65536)) || (decide ((r60.length : Int) > 400)))))]) ?_ ?_
  ·refine Vs 4 ?_
   refine Wo (decide ((x1.length : Int) > 65536)) (fun hb123 => ?_) (fun hb123 => ?_)
   ·refine Ss hb123 6 ?_
    refine Pk1 hb123 ?_
    exact Wf ⟨rfl, F3, hs116, (Wk _), (fJ ⟨rfl, (congrArg Value.bool (Hv hb123 rfl)), trivial⟩)⟩
   ·refine Lg hb123 hs116.at2 ?_
    refine Vgs hb123 2 <| Lg hb123 hs116.at3 <| Vgs hb123 2 <| Pk0 hb123 ?_
    exact Wf ⟨rfl, F3, hs116, (Wk _), (fJ ⟨rfl, (congrArg Value.bool (Da hb123 rfl)), trivial⟩)⟩
  ·rintro f w117 ⟨F5, hs118, le119, ⟨_, rfl⟩⟩
   refine Ab <| Cd h62 (fun hb124 h125 => ?_) (fun hb124 h126 => ?_)
   ·cases h125
   ·refine Sc ?_
    refine Ab <| Sq (Rg [0, 1, 2] ?_)
    refine Ld hs118.at2 <| Vs 2 <| Nt <| Rt ?_
    have hb130 := Wx (hrs56_0.mono le119)
    obtain ⟨F6, hs127, le128, hs129⟩ := hs118.fr1 (hrs56_0.mono le119)
    have hs131 := hs127.dr1.pk2.pk3.pk3.pk3
    have hs132 := hs131.put (k := 0) rfl (.deferred none)
    have hs133 : HS w0 F0 (B1 w117 D112 (.deferred none)) F6 [(sb b36 #[(.bool x0.Report), (.bool x0.Serial), (.bool x0.Zone), (.slice as56_0 r60.length ns56_0), (.map (some b25)), (.map (some b31))] 148), e26, e32] := hs132.drop 0
    obtain rfl := Aa h126
    exact .inr ⟨D112, rfl, hs131.ownAt (k := 0) rfl, (.tuple #[(pt b36 0), (vi 0)]), AW (l := [.tmp 4, .tmp 5]) (by kernel_rfl) (vs := [(pt b36 0), (vi 0)]) ⟨rfl, ⟨rfl, trivial⟩⟩, (.tuple #[(pt b36 0), (vi 0)]), F6, _, rfl, hs133, (Ir ⟨b36, as56_0, ns56_0, b25, e26, b31, e32, rfl, rfl, hb130, hs129, (hr29.mono (((le47.t le115).trans le119).trans le128)), (hr35.mono (((le47.t le115).trans le119).trans le128))⟩)⟩
def Jl (N : Nat)  : Option An :=
 some ({ at_ := 0, stage_ := 0, num_ := 0, minute_ := (-1) } : An)
theorem I4 : Af Tryz.prog 110 := fun _ _ => by kernel_rfl
theorem Ke (N : Nat) (w0 : World) (F0 : Mem) (hF : WG w0 F0)  (r : An) (h : Jl N  = some r) :
  Calls Tryz.prog 110 ([] : List Value).toArray w0 (AB w0 F0 fun F' v => v = (.agg (Ah r))) := by
 have hs0 := Wl hF
 refine Go 2 Tryz.func110 <| Sq (Rg [0] ?_)
 refine Al' 143 #[(vi 0), (vi 0), (vi 0), (vi 0)] hs0 (fun b21 w22 hs23 => ?_)
 refine Nss (Rg [0, 1] ?_)
 refine Vs 1 <| St0 #[(vi 0), (vi 0), (vi 0), (vi (-1))] hs23 (fun w24 hs25 => ?_)
 refine Nt <| Rt ?_
 obtain rfl := Aa h
 exact ⟨rfl, (.agg #[(vi 0), (vi 0), (vi 0), (vi (-1))]), AW (l := [.cell 0 143]) (by kernel_rfl) (vs := [(.agg #[(vi 0), (vi 0), (vi 0), (vi (-1))])]) ⟨b21, 0, rfl, Am (t := 143) (g := true) (s := 4) (by kernel_rfl) hs25.at0 rfl (by decide), trivial⟩, (.agg #[(vi 0), (vi 0), (vi 0), (vi (-1))]), F0, rfl, hs25.clear, rfl⟩
def Cl (N : Nat) (x0 : Int) : Option WE :=
 ((idx ([([] : WE), ([67, 65, 84, 69, 71, 79, 82, 89, 32, 49] : WE), ([80, 79, 87, 69, 82, 32, 49] : WE), ([67, 76, 65, 73, 77, 69, 68, 32, 48] : WE), ([74, 85, 77, 80, 83] : WE), ([69, 78, 68] : WE)] : List WE) x0).bind fun c21 => some c21)
theorem BX : Af Tryz.prog 121 := fun _ _ => by kernel_rfl
theorem B9 (N : Nat) (w0 : World) (F0 : Mem) (hF : WG w0 F0) (x0 : Int) (r : WE) (h : Cl N x0 = some r) :
  Calls Tryz.prog 121 ([(vi x0)] : List Value).toArray w0 (AB w0 F0 fun F' v => v = (sv r)) := by
 have hs0 := Wl hF
 refine Go 6 Tryz.func121 <| Sq (Rg [0] ?_)
 refine Vs 1 <| Nss (Rg (rG 4) ?_)
 refine V 3 219 (Je (t := 219) (parts := #[(1, (.const (sv ([67, 65, 84, 69, 71, 79, 82, 89, 32, 49] : WE)))), (2, (.const (sv ([80, 79, 87, 69, 82, 32, 49] : WE)))), (3, (.const (sv ([67, 76, 65, 73, 77, 69, 68, 32, 48] : WE)))), (4, (.const (sv ([74, 85, 77, 80, 83] : WE)))), (5, (.const (sv ([69, 78, 68] : WE))))]) (vs := [(1, (sv (([67, 65, 84, 69, 71, 79, 82, 89, 32, 49] : WE)))), (2, (sv (([80, 79, 87, 69, 82, 32, 49] : WE)))), (3, (sv (([67, 76, 65, 73, 77, 69, 68, 32, 48] : WE)))), (4, (sv (([74, 85, 77, 80, 83] : WE)))), (5, (sv (([69, 78, 68] : WE))))]) rfl (cs := [(sv (([] : WE))), (sv (([67, 65, 84, 69, 71, 79, 82, 89, 32, 49] : WE))), (sv (([80, 79, 87, 69, 82, 32, 49] : WE))), (sv (([67, 76, 65, 73, 77, 69, 68, 32, 48] : WE))), (sv (([74, 85, 77, 80, 83] : WE))), (sv (([69, 78, 68] : WE)))]) (by kernel_rfl)) <| Vs 1 ?_
 obtain ⟨c21, hr22, h23⟩ := bind_some h
 refine V 5 9 (QI (t := 219) (E := 9) (len := 6) (x := (.tmp 3)) (y := (.tmp 4)) (k := .i64) (i := x0) (cs := (([([] : WE), ([67, 65, 84, 69, 71, 79, 82, 89, 32, 49] : WE), ([80, 79, 87, 69, 82, 32, 49] : WE), ([67, 76, 65, 73, 77, 69, 68, 32, 48] : WE), ([74, 85, 77, 80, 83] : WE), ([69, 78, 68] : WE)] : List WE)).map (fun x : WE => Value.string ⟨x.toArray⟩)) (v := (sv c21)) rfl rfl (by kernel_rfl) (by kernel_rfl) rfl (Pl (f := (fun x : WE => Value.string ⟨x.toArray⟩)) hr22)) <| Vs 1 <| Nt <| Rt ?_
 obtain rfl := Aa h23
 exact Re [(sv c21)] hs0 rfl
def I0 (N : Nat) (x0 : Log) (x1 : WE) : Option (Log × Bool) :=
 ((strings_CutPrefix N x1 ([67, 65, 76, 76, 32] : WE)).bind fun r21 => ((bif r21.2 then ((DQ N r21.1).bind fun r42 => some r42) else some false).bind fun j34 => some (({ Call := r21.1, Category := x0.Category, Power := x0.Power, Claimed := x0.Claimed, Jumps := x0.Jumps, Lines := x0.Lines } : Log), j34)))
theorem KC : Af Tryz.prog 153 := fun _ _ => by kernel_rfl
theorem Lt (N : Nat) {wb w0 : World} {Fb F0 : Mem} {Lf : Own} (hG : Bz F0) (bp0 : Nat) (x0 : Log) (a0_4 : WF) (n0_4 : Nat) (a0_5 : WF) (n0_5 : Nat) (hb0_4 : LC x0.Jumps.length n0_4) (hs0_4 : SlA AD F0 a0_4 x0.Jumps) (hb0_5 : LC x0.Lines.length n0_5) (hs0_5 : SlA AC F0 a0_5 x0.Lines) (x1 : WE) (hs0 : HS wb Fb w0 F0 ((sb bp0 (AF x0 a0_4 n0_4 a0_5 n0_5) 27) :: Lf)) (r : (Log × Bool)) (h : I0 N x0 x1 = some r) :
  Calls Tryz.prog 153 ([(pt bp0 0), (sv x1)] : List Value).toArray w0 (EE wb Fb F0 fun F' v L' => ∃ (aq0_4 : WF) (nq0_4 : Nat) (aq0_5 : WF) (nq0_5 : Nat), v = (.bool r.2) /\ L' = (sb bp0 (AF r.1 aq0_4 nq0_4 aq0_5 nq0_5) 27) :: Lf /\ LC r.1.Jumps.length nq0_4 /\ SlA AD F' aq0_4 r.1.Jumps /\ LC r.1.Lines.length nq0_5 /\ SlA AC F' aq0_5 r.1.Lines) := by
 refine Go 21 Tryz.func153 <| Sq (Rg [0] ?_)
 refine Vs 1 <| Nss (Rg (rG 7) ?_)
 refine Vs 1 ?_
 obtain ⟨r21, hr22, h23⟩ := bind_some h
 refine Cl' A2 hs0 (A8 N w0 F0 hs0.pers x1 (([67, 65, 76, 76, 32] : WE)) _ hr22) ?_
 rintro _ F1 w25 hs26 le27 rfl
 refine Vs 5 <| Nss (Rg (rG 5) ?_)
 refine Vs 4 <| St0 #[(sv r21.1), (vi x0.Category), (vi x0.Power), (vi x0.Claimed), (.slice a0_4 x0.Jumps.length n0_4), (.slice a0_5 x0.Lines.length n0_5)] hs26 (fun w29 hs30 => ?_)
 refine Nss (Rg (rG 6) ?_)
 obtain ⟨j34, hj37, h38⟩ := bind_some h23
 refine Wp (fun f w => ∃ (F2 : Mem), HS wb Fb w F2 ((sb bp0 #[(sv r21.1), (vi x0.Category), (vi x0.Power), (vi x0.Claimed), (.slice a0_4 x0.Jumps.length n0_4), (.slice a0_5 x0.Lines.length n0_5)] 27) :: Lf) /\ Wj F1 F2 /\ FI f [] [(4, (.bool j34))]) ?_ ?_
 ·refine Vs 2 ?_
  refine Sp hj37 (fun hb39 h40 => ?_) (fun hb39 h41 => ?_)
  ·refine Vgs hb39 1 ?_
   obtain ⟨r42, hr43, h44⟩ := bind_some h40
   refine Cg hb39 EC hs30 (E6 N w29 F1 hs30.pers (hG.mono le27) r21.1 _ hr43) ?_
   rintro _ F3 w46 hs47 le48 rfl
   refine Pk1 hb39 <| Vs 1 ?_
   obtain rfl := Aa h44
   exact Wf ⟨rfl, F3, hs47, le48, fI⟩
  ·refine Ss hb39 2 ?_
   refine Pk0 hb39 <| Vs 1 ?_
   obtain rfl := Aa h41
   exact Wf ⟨rfl, F1, hs30, (Wk _), fI⟩
 ·rintro f w31 ⟨F2, hs32, le33, ⟨_, rfl⟩⟩
  refine Ab <| Rt ?_
  obtain rfl := Aa h38
  exact ReB [(.bool j34)] hs32 (le27.t le33) ⟨a0_4, n0_4, a0_5, n0_5, rfl, rfl, hb0_4, (Wm hs0_4 (le27.t le33)), hb0_5, (Wm hs0_5 (le27.t le33))⟩
def FT (N : Nat) (x0 : Log) (x1 : WE) (r21 : (List WE)) (r29 : List WE) : (List Int × Int) -> Option (Bt (Log × Bool) (List Int × Int)) := fun s42 =>
 (bif (decide (s42.2 < (r29.length : Int))) then ((idx r29 s42.2).bind fun x70 => ((AG N x70).bind fun r84 => (bif (!r84.2) then some (.ret (x0, false)) else ((D3 s42.1 [r84.1]).bind fun r100 => some (.next (r100, (W64 (s42.2 + 1)))))))) else some (.done (s42.1, s42.2)))
def HN (N : Nat) (x0 : Log) (x1 : WE) : Option (Log × Bool) :=
 ((strings_Split N x1 ([32] : WE)).bind fun r21 => ((sub r21 1 (r21.length : Int)).bind fun r29 => ((AX (FT N x0 x1 r21 r29) N (([] : List Int), 0)).bind fun o => o.k (fun r => some r) (fun s53 => (((idx r21 0).bind fun x126 => (bif (x126 == ([74, 85, 77, 80, 83] : WE)) then ((Db N s53.1).bind fun r143 => some r143) else some false)).bind fun j121 => some (({ Call := x0.Call, Category := x0.Category, Power := x0.Power, Claimed := x0.Claimed, Jumps := s53.1, Lines := x0.Lines } : Log), j121))))))
theorem J4 : Af Tryz.prog 159 := fun _ _ => by kernel_rfl
theorem KH (N : Nat) {wb w0 : World} {Fb F0 : Mem} {Lf : Own} (hG : Bz F0) (bp0 : Nat) (x0 : Log) (a0_4 : WF) (n0_4 : Nat) (a0_5 : WF) (n0_5 : Nat) (hb0_4 : LC x0.Jumps.length n0_4) (hs0_4 : SlA AD F0 a0_4 x0.Jumps) (hb0_5 : LC x0.Lines.length n0_5) (hs0_5 : SlA AC F0 a0_5 x0.Lines) (x1 : WE) (hs0 : HS wb Fb w0 F0 ((sb bp0 (AF x0 a0_4 n0_4 a0_5 n0_5) 27) :: Lf)) (r : (Log × Bool)) (h : HN N x0 x1 = some r) :
  Calls Tryz.prog 159 ([(pt bp0 0), (sv x1)] : List Value).toArray w0 (EE wb Fb F0 fun F' v L' => ∃ (aq0_4 : WF) (nq0_4 : Nat) (aq0_5 : WF) (nq0_5 : Nat), v = (.bool r.2) /\ L' = (sb bp0 (AF r.1 aq0_4 nq0_4 aq0_5 nq0_5) 27) :: Lf /\ LC r.1.Jumps.length nq0_4 /\ SlA AD F' aq0_4 r.1.Jumps /\ LC r.1.Lines.length nq0_5 /\ SlA AC F' aq0_5 r.1.Lines) := by
 refine Go 44 Tryz.func159 <| Sq (Rg [0] ?_)
 refine Vs 1 <| Nss (Rg [0, 1, 2] ?_)
 refine Vs 1 ?_
 obtain ⟨r21, hr22, h23⟩ := bind_some h
 refine Cl' Cx hs0 (CQ N w0 F0 hs0.pers hG x1 (([32] : WE)) _ hr22) ?_
 rintro _ F1 w25 hs26 le27 ⟨ar21_0_0, nr21_0_0, rfl, hbr21_0_0, hsr21_0_0⟩
 refine Vs 1 <| Nss (Rg [0] ?_)
 refine Vs 1 <| Nss <| Sq (Rg (rG 4) ?_)
 refine Vs 1 ?_
 obtain ⟨r29, hr30, h31⟩ := bind_some h23
 obtain ⟨a32, n33, hb34, hs35, hrun36⟩ := Fu (P := Tryz.prog) (T := AM) (lo := (some (.const (vi 1)))) (hi := none) (mx := none) (t := 55) (E := 9) (by_ := 16) (c := nr21_0_0) (a := ar21_0_0) (l := r21) (r := r29) (il := 1) (ih := (r21.length : Int)) (im := 0) (by kernel_rfl) (by kernel_rfl) hbr21_0_0 hsr21_0_0 (fun h => by first | rfl | cases h) hr30
 refine V 14 55 (hrun36 (x := (.tmp 13)) rfl rfl rfl trivial) <| Vs 2 <| Nt ?_
 have hs37 := hs26.dummy (oc #[] 0)
 obtain ⟨o39, ho40, h41⟩ := bind_some h31
 refine Wq (fun f w => ∃ (s53 : (List Int × Int)) (F3 : Mem) (as53_0 : WF) (ns53_0 : Nat) (es53_0 : Option Nat × Obj), o39 = .done s53 /\ HS wb Fb w F3 (es53_0 :: (sb bp0 (AF x0 a0_4 n0_4 a0_5 n0_5) 27) :: Lf) /\ Wj F1 F3 /\ FI f [] [(0, (pt bp0 0)), (5, (.slice ar21_0_0 r21.length nr21_0_0)), (6, (.slice as53_0 s53.1.length ns53_0))] /\ Av AD 3 F3 as53_0 ns53_0 s53.1 es53_0) ?_ ?_
 ·refine Bk ?_
  refine Wi (by kernel_rfl) (fun m f w => ∃ (s42 : (List Int × Int)) (F2 : Mem) (as42_0 : WF) (ns42_0 : Nat) (es42_0 : Option Nat × Obj), AX (FT N x0 x1 r21 r29) m s42 = some o39 /\ HS wb Fb w F2 (es42_0 :: (sb bp0 (AF x0 a0_4 n0_4 a0_5 n0_5) 27) :: Lf) /\ Wj F1 F2 /\ FI f [] [(0, (pt bp0 0)), (5, (.slice ar21_0_0 r21.length nr21_0_0)), (6, (.slice as42_0 s42.1.length ns42_0)), (14, (.slice a32 r29.length n33)), (15, (vi (r29.length : Int))), (16, (vi s42.2))] /\ Av AD 3 F2 as42_0 ns42_0 s42.1 es42_0) N ⟨(([] : List Int), 0), F1, none, 0, (none, .cells #[] 0 (0, 0)), ho40, hs37, (Wk _), fI, (Wy AD 3 F1 _)⟩ ?_
  rintro m61 f w43 ⟨s42, F2, as42_0, ns42_0, es42_0, hit62, hs44, le45, ⟨_, rfl⟩, hrs42_0⟩
  obtain ⟨m63, fl64, rfl, hb65, hnx66⟩ := AN hit62
  refine Sq (Rg [0] ?_)
  refine Vs 1 <| Nss <| Cd hb65 (fun hb67 h68 => ?_) (fun hb67 h69 => ?_)
  ·refine Sc ?_
   refine Ab <| Sq <| Bk <| Sq (Rg [0, 1, 2] ?_)
   obtain ⟨x70, hx71, h73⟩ := bind_some h68
   obtain ⟨hi72, hx71'⟩ := Ap hx71
   obtain ⟨b74, o75, C76, E77, fz78, rfl, hF80, hE81⟩ := Wr (Wm hs35 le45) hx71'
   have hc83 := hE81 _ _ hx71'
   refine Ix hi72 <| Lx 0 (hs44.pers _ _ hF80) hc83 <| Vs 1 <| Nss (Rg (rG 7) ?_)
   refine Vs 1 ?_
   obtain ⟨r84, hr85, h86⟩ := bind_some h73
   refine Cl' Bf hs44 (Bq N w43 F2 hs44.pers (hG.mono (le27.t le45)) x70 _ hr85) ?_
   rintro _ F4 w88 hs89 le90 rfl
   refine Vs 5 <| Nss <| Sq (Rg [0, 1] ?_)
   refine Vs 2 <| Nt <| Cd h86 (fun hb92 h93 => ?_) (fun hb92 h94 => ?_)
   ·refine Sq (Rg [0] ?_)
    refine Vs 1 <| Nt <| Rt <| Ae <| Ax <| Ae <| Ae <| Ax ?_
    have hret := Cw h93 hnx66
    subst hret
    refine .inr <| Ae ?_
    obtain rfl := Aa h41
    exact ReB [(.bool false)] hs89.dr0 ((le27.t le45).trans le90) ⟨a0_4, n0_4, a0_5, n0_5, rfl, rfl, hb0_4, (Wm hs0_4 ((le27.t le45).trans le90)), hb0_5, (Wm hs0_5 ((le27.t le45).trans le90))⟩
   ·refine Sc ?_
    refine Ab <| Rg (rG 5) <| Vs 2 <| Bs 3 [(vi r84.1)] hs89 (fun b95 w96 hs97 => ?_)
    have hr99 : Av AD 3 F4 (some ⟨b95, 0, none⟩) 1 [r84.1] (some b95, .cells ([(vi r84.1)] : List Value).toArray 3 (0, 0)) := Wz ⟨rfl, rfl⟩ (by simp)
    obtain ⟨r100, hap101, h102⟩ := bind_some h94
    refine Ap1 UU hs97 (hrs42_0.mono le90) (hs97.rd0 hr99) hap101 (fun a103 n104 e105 w106 hs107 hr108 => ?_)
    refine Vs 1 <| Wf <| Au <| Ab <| Rg [0, 1] <| Vs 2 <| Wf ?_
    have hn109 := AO h102 hnx66
    exact ⟨m63, Nat.lt_succ_self _, (r100, (W64 (s42.2 + 1))), F4, a103, n104, e105, hn109, hs107.dr0, (le45.t le90), fI, hr108⟩
  ·refine Ex ?_
   refine Ar <| Ar <| Az rfl ?_
   have ho110 := AP h69 hnx66
   exact .inl ⟨rfl, (s42.1, s42.2), F2, as42_0, ns42_0, es42_0, ho110, hs44, le45, fI, hrs42_0⟩
 ·rintro f w54 ⟨s53, F3, as53_0, ns53_0, es53_0, rfl, hs55, le56, ⟨_, rfl⟩, hrs53_0⟩
  have h111 := BL h41
  refine Ab <| Sq (Rg (rG 5) ?_)
  refine Vs 4 ?_
  have hb115 := Wx hrs53_0
  obtain ⟨F5, hs112, le113, hs114⟩ := hs55.fr0 hrs53_0
  refine St0 #[(sv x0.Call), (vi x0.Category), (vi x0.Power), (vi x0.Claimed), (.slice as53_0 s53.1.length ns53_0), (.slice a0_5 x0.Lines.length n0_5)] hs112 (fun w116 hs117 => ?_)
  refine Nss (Rg (rG 9) ?_)
  obtain ⟨j121, hj124, h125⟩ := bind_some h111
  refine Wp (fun f w => ∃ (F6 : Mem), HS wb Fb w F6 ((sb bp0 #[(sv x0.Call), (vi x0.Category), (vi x0.Power), (vi x0.Claimed), (.slice as53_0 s53.1.length ns53_0), (.slice a0_5 x0.Lines.length n0_5)] 27) :: Lf) /\ Wj F5 F6 /\ FI f [] [(4, (.bool j121))]) ?_ ?_
  ·refine Vs 1 ?_
   obtain ⟨x126, hx127, h129⟩ := bind_some hj124
   obtain ⟨hi128, hx127'⟩ := Ap hx127
   obtain ⟨b130, o131, C132, E133, fz134, rfl, hF136, hE137⟩ := Wr (Wm hsr21_0_0 (le56.t le113)) hx127'
   have hc139 := hE137 _ _ hx127'
   refine Ix hi128 <| Lx 0 (hs117.pers _ _ hF136) hc139 <| Vs 2 <| Sp h129 (fun hb140 h141 => ?_) (fun hb140 h142 => ?_)
   ·refine Vgs hb140 1 ?_
    obtain ⟨r143, hr144, h145⟩ := bind_some h141
    refine Cg hb140 Gl hs117 (Ha N w116 F5 hs117.pers s53.1 as53_0 ns53_0 hb115 hs114 _ hr144) ?_
    rintro _ F7 w147 hs148 le149 rfl
    refine Pk1 hb140 <| Vs 1 ?_
    obtain rfl := Aa h145
    exact Wf ⟨rfl, F7, hs148, le149, fI⟩
   ·refine Ss hb140 2 ?_
    refine Pk0 hb140 <| Vs 1 ?_
    obtain rfl := Aa h142
    exact Wf ⟨rfl, F5, hs117, (Wk _), fI⟩
  ·rintro f w118 ⟨F6, hs119, le120, ⟨_, rfl⟩⟩
   refine Ab <| Rt ?_
   obtain rfl := Aa h125
   exact ReB [(.bool j121)] hs119 (((le27.t le56).trans le113).trans le120) ⟨as53_0, ns53_0, a0_5, n0_5, rfl, rfl, hb115, (Wm hs114 le120), hb0_5, (Wm hs0_5 (((le27.t le56).trans le113).trans le120))⟩
def Fc (N : Nat) (x0 : Al) (x1 : WE) : Option (Al × Aq) :=
 ((bif (!(Oe x0.read_ x1)) then ((Dd N ({ Report := x0.o_.Report, Serial := x0.o_.Serial, Zone := x0.o_.Zone } : Ac) x1).bind fun r41 => ((some (M8 x0.read_ x1 ({ x_ := r41.1, ok_ := (r41.2 == 0) } : Aq))).bind fun j61 => some (r41.1.Num, r41.1.Khz, r41.1.Mode, r41.1.Minute, r41.1.Call, r41.1.Sent.Report, r41.1.Sent.Serial, r41.1.Sent.Zone, r41.1.Got.Report, r41.1.Got.Serial, r41.1.Got.Zone, (r41.2 == 0), j61))) else some (((DE x0.read_ x1 ({ x_ := ({ Num := 0, Khz := 0, Mode := 0, Minute := 0, Call := ([] : WE), Sent := ({ Report := 0, Serial := 0, Zone := 0 } : Ad), Got := ({ Report := 0, Serial := 0, Zone := 0 } : Ad) } : Line), ok_ := false } : Aq))).x_.Num, ((DE x0.read_ x1 ({ x_ := ({ Num := 0, Khz := 0, Mode := 0, Minute := 0, Call := ([] : WE), Sent := ({ Report := 0, Serial := 0, Zone := 0 } : Ad), Got := ({ Report := 0, Serial := 0, Zone := 0 } : Ad) } : Line), ok_ := false } : Aq))).x_.Khz, ((DE x0.read_ x1 ({ x_ := ({ Num := 0, Khz := 0, Mode := 0, Minute := 0, Call := ([] : WE), Sent := ({ Report := 0, Serial := 0, Zone := 0 } : Ad), Got := ({ Report := 0, Serial := 0, Zone := 0 } : Ad) } : Line), ok_ := false } : Aq))).x_.Mode, ((DE x0.read_ x1 ({ x_ := ({ Num := 0, Khz := 0, Mode := 0, Minute := 0, Call := ([] : WE), Sent := ({ Report := 0, Serial := 0, Zone := 0 } : Ad), Got := ({ Report := 0, Serial := 0, Zone := 0 } : Ad) } : Line), ok_ := false } : Aq))).x_.Minute, ((DE x0.read_ x1 ({ x_ := ({ Num := 0, Khz := 0, Mode := 0, Minute := 0, Call := ([] : WE), Sent := ({ Report := 0, Serial := 0, Zone := 0 } : Ad), Got := ({ Report := 0, Serial := 0, Zone := 0 } : Ad) } : Line), ok_ := false } : Aq))).x_.Call, ((DE x0.read_ x1 ({ x_ := ({ Num := 0, Khz := 0, Mode := 0, Minute := 0, Call := ([] : WE), Sent := ({ Report := 0, Serial := 0, Zone := 0 } : Ad), Got := ({ Report := 0, Serial := 0, Zone := 0 } : Ad) } : Line), ok_ := false } : Aq))).x_.Sent.Report, ((DE x0.read_ x1 ({ x_ := ({ Num := 0, Khz := 0, Mode := 0, Minute := 0, Call := ([] : WE), Sent := ({ Report := 0, Serial := 0, Zone := 0 } : Ad), Got := ({ Report := 0, Serial := 0, Zone := 0 } : Ad) } : Line), ok_ := false } : Aq))).x_.Sent.Serial, ((DE x0.read_ x1 ({ x_ := ({ Num := 0, Khz := 0, Mode := 0, Minute := 0, Call := ([] : WE), Sent := ({ Report := 0, Serial := 0, Zone := 0 } : Ad), Got := ({ Report := 0, Serial := 0, Zone := 0 } : Ad) } : Line), ok_ := false } : Aq))).x_.Sent.Zone, ((DE x0.read_ x1 ({ x_ := ({ Num := 0, Khz := 0, Mode := 0, Minute := 0, Call := ([] : WE), Sent := ({ Report := 0, Serial := 0, Zone := 0 } : Ad), Got := ({ Report := 0, Serial := 0, Zone := 0 } : Ad) } : Line), ok_ := false } : Aq))).x_.Got.Report, ((DE x0.read_ x1 ({ x_ := ({ Num := 0, Khz := 0, Mode := 0, Minute := 0, Call := ([] : WE), Sent := ({ Report := 0, Serial := 0, Zone := 0 } : Ad), Got := ({ Report := 0, Serial := 0, Zone := 0 } : Ad) } : Line), ok_ := false } : Aq))).x_.Got.Serial, ((DE x0.read_ x1 ({ x_ := ({ Num := 0, Khz := 0, Mode := 0, Minute := 0, Call := ([] : WE), Sent := ({ Report := 0, Serial := 0, Zone := 0 } : Ad), Got := ({ Report := 0, Serial := 0, Zone := 0 } : Ad) } : Line), ok_ := false } : Aq))).x_.Got.Zone, ((DE x0.read_ x1 ({ x_ := ({ Num := 0, Khz := 0, Mode := 0, Minute := 0, Call := ([] : WE), Sent := ({ Report := 0, Serial := 0, Zone := 0 } : Ad), Got := ({ Report := 0, Serial := 0, Zone := 0 } : Ad) } : Line), ok_ := false } : Aq))).ok_, x0.read_)).bind fun j32 => some (({ o_ := ({ Report := x0.o_.Report, Serial := x0.o_.Serial, Zone := x0.o_.Zone } : Ac), lines_ := x0.lines_, known_ := x0.known_, read_ := j32.2.2.2.2.2.2.2.2.2.2.2.2 } : Al), ({ x_ := ({ Num := j32.1, Khz := j32.2.1, Mode := j32.2.2.1, Minute := j32.2.2.2.1, Call := j32.2.2.2.2.1, Sent := ({ Report := j32.2.2.2.2.2.1, Serial := j32.2.2.2.2.2.2.1, Zone := j32.2.2.2.2.2.2.2.1 } : Ad), Got := ({ Report := j32.2.2.2.2.2.2.2.2.1, Serial := j32.2.2.2.2.2.2.2.2.2.1, Zone := j32.2.2.2.2.2.2.2.2.2.2.1 } : Ad) } : Line), ok_ := j32.2.2.2.2.2.2.2.2.2.2.2.1 } : Aq)))
theorem G4 : Af Tryz.prog 205 := fun _ _ => by kernel_rfl
theorem HB (N : Nat) {wb w0 : World} {Fb F0 : Mem} {Lf : Own} (hG : Bz F0) (bp0 : Nat) (x0 : Al) (a0_3 : WF) (n0_3 : Nat) (mb0_4 : Nat) (e0_4 : Option Nat × Obj) (mb0_5 : Nat) (e0_5 : Option Nat × Obj) (hb0_3 : LC x0.lines_.length n0_3) (hs0_3 : SlA AM F0 a0_3 x0.lines_) (hr0_4 : Bb Ay AD F0 mb0_4 x0.known_ e0_4) (hr0_5 : Bb AM As F0 mb0_5 x0.read_ e0_5) (x1 : WE) (hs0 : HS wb Fb w0 F0 ((sb bp0 #[(.bool x0.o_.Report), (.bool x0.o_.Serial), (.bool x0.o_.Zone), (.slice a0_3 x0.lines_.length n0_3), (.map (some mb0_4)), (.map (some mb0_5))] 148) :: e0_4 :: e0_5 :: Lf)) (r : (Al × Aq)) (h : Fc N x0 x1 = some r) :
  Calls Tryz.prog 205 ([(pt bp0 0), (sv x1)] : List Value).toArray w0 (EE wb Fb F0 fun F' v L' => ∃ (aq0_3 : WF) (nq0_3 : Nat) (eq0_4 : Option Nat × Obj) (eq0_5 : Option Nat × Obj), v = (.agg (EH r.2)) /\ L' = (sb bp0 #[(.bool r.1.o_.Report), (.bool r.1.o_.Serial), (.bool r.1.o_.Zone), (.slice aq0_3 r.1.lines_.length nq0_3), (.map (some mb0_4)), (.map (some mb0_5))] 148) :: eq0_4 :: eq0_5 :: Lf /\ LC r.1.lines_.length nq0_3 /\ SlA AM F' aq0_3 r.1.lines_ /\ Bb Ay AD F' mb0_4 r.1.known_ eq0_4 /\ Bb AM As F' mb0_5 r.1.read_ eq0_5) := by
 refine Go 40 Tryz.func205 <| Sq (Rg [0] ?_)
 refine Al' 243 #[(vi 0), (vi 0), (vi 0), (vi 0), (sv (([] : WE))), (vi 0), (vi 0), (vi 0), (vi 0), (vi 0), (vi 0), (.bool false)] hs0 (fun b21 w22 hs23 => ?_)
 refine Nss (Rg (rG 12) ?_)
 refine Vs 3 <| Ld hs23.at1 <| Vs 1 <| V 15 279 (LZ (mt := 146) (k := 9) (vt := 243) (m := (.tmp 13)) (x := (.tmp 14)) (kv := (sv x1)) (kx := x1) (z := (.agg #[(vi 0), (vi 0), (vi 0), (vi 0), (sv (([] : WE))), (vi 0), (vi 0), (vi 0), (vi 0), (vi 0), (vi 0), (.bool false)])) (zx := ({ x_ := ({ Num := 0, Khz := 0, Mode := 0, Minute := 0, Call := ([] : WE), Sent := ({ Report := 0, Serial := 0, Zone := 0 } : Ad), Got := ({ Report := 0, Serial := 0, Zone := 0 } : Ad) } : Line), ok_ := false } : Aq)) (K := AM) (T := As) kl9 rfl rfl ⟨_, rfl, rfl⟩ (by kernel_rfl) (by kernel_rfl) ⟨_, rfl, rfl⟩ (Bb.mpw hs23 (i := 3) rfl hr0_5) (fun h => by obtain ⟨_, rfl, rfl⟩ := h; rfl)) <| Vs 3 <| Al' 243 #[(vi 0), (vi 0), (vi 0), (vi 0), (sv (([] : WE))), (vi 0), (vi 0), (vi 0), (vi 0), (vi 0), (vi 0), (.bool false)] hs23 (fun b24 w25 hs26 => ?_)
 refine St0 (EH ((DE x0.read_ x1 ({ x_ := ({ Num := 0, Khz := 0, Mode := 0, Minute := 0, Call := ([] : WE), Sent := ({ Report := 0, Serial := 0, Zone := 0 } : Ad), Got := ({ Report := 0, Serial := 0, Zone := 0 } : Ad) } : Line), ok_ := false } : Aq)))) hs26 (fun w27 hs28 => ?_)
 refine Vs 1 <| Nss <| Sq (Rg [0, 1] ?_)
 refine Vs 2 <| Nt ?_
 obtain ⟨j32, hj36, h37⟩ := bind_some h
 refine Wq (fun f w => ∃ (F1 : Mem) (ej32_12 : Option Nat × Obj), HS wb Fb w F1 ((sb b24 #[(vi j32.1), (vi j32.2.1), (vi j32.2.2.1), (vi j32.2.2.2.1), (sv j32.2.2.2.2.1), (vi j32.2.2.2.2.2.1), (vi j32.2.2.2.2.2.2.1), (vi j32.2.2.2.2.2.2.2.1), (vi j32.2.2.2.2.2.2.2.2.1), (vi j32.2.2.2.2.2.2.2.2.2.1), (vi j32.2.2.2.2.2.2.2.2.2.2.1), (.bool j32.2.2.2.2.2.2.2.2.2.2.2.1)] 243) :: (sb b21 #[(vi 0), (vi 0), (vi 0), (vi 0), (sv (([] : WE))), (vi 0), (vi 0), (vi 0), (vi 0), (vi 0), (vi 0), (.bool false)] 243) :: (sb bp0 #[(.bool x0.o_.Report), (.bool x0.o_.Serial), (.bool x0.o_.Zone), (.slice a0_3 x0.lines_.length n0_3), (.map (some mb0_4)), (.map (some mb0_5))] 148) :: e0_4 :: ej32_12 :: Lf) /\ Wj F0 F1 /\ FI f [] [(4, (pt b21 0)), (5, (pt b24 0))] /\ Bb AM As F1 mb0_5 j32.2.2.2.2.2.2.2.2.2.2.2.2 ej32_12) ?_ ?_
 ·refine Cd hj36 (fun hb38 h39 => ?_) (fun hb38 h40 => ?_)
  ·refine Sq (Rg (rG 12) ?_)
   refine Vs 3 <| Ld hs28.at2 <| Vs 1 ?_
   obtain ⟨r41, hr42, h43⟩ := bind_some h39
   refine Cl' Gc hs28 (GM N w27 F0 hs28.pers hG (({ Report := x0.o_.Report, Serial := x0.o_.Serial, Zone := x0.o_.Zone } : Ac)) x1 _ hr42) ?_
   rintro _ F2 w45 hs46 le47 rfl
   refine Vs 3 <| Al' 34 #[(vi 0), (vi 0), (vi 0), (vi 0), (sv (([] : WE))), (vi 0), (vi 0), (vi 0), (vi 0), (vi 0), (vi 0)] hs46 (fun b49 w50 hs51 => ?_)
   refine St0 (Cf r41.1) hs51 (fun w52 hs53 => ?_)
   refine Vs 1 <| Nss (Rg (rG 5) ?_)
   refine Ld hs53.at0 <| Vs 3 <| St1 #[(vi r41.1.Num), (vi r41.1.Khz), (vi r41.1.Mode), (vi r41.1.Minute), (sv r41.1.Call), (vi r41.1.Sent.Report), (vi r41.1.Sent.Serial), (vi r41.1.Sent.Zone), (vi r41.1.Got.Report), (vi r41.1.Got.Serial), (vi r41.1.Got.Zone), (.bool (r41.2 == 0))] hs53 (fun w54 hs55 => ?_)
   refine Nt ?_
   obtain ⟨j61, hj65, h66⟩ := bind_some h43
   refine RD 7 7 [(sb b49 (Cf r41.1) 34), (sb b24 #[(vi r41.1.Num), (vi r41.1.Khz), (vi r41.1.Mode), (vi r41.1.Minute), (sv r41.1.Call), (vi r41.1.Sent.Report), (vi r41.1.Sent.Serial), (vi r41.1.Sent.Zone), (vi r41.1.Got.Report), (vi r41.1.Got.Serial), (vi r41.1.Got.Zone), (.bool (r41.2 == 0))] 243), (sb b21 #[(vi 0), (vi 0), (vi 0), (vi 0), (sv (([] : WE))), (vi 0), (vi 0), (vi 0), (vi 0), (vi 0), (vi 0), (.bool false)] 243), (sb bp0 #[(.bool x0.o_.Report), (.bool x0.o_.Serial), (.bool x0.o_.Zone), (.slice a0_3 x0.lines_.length n0_3), (.map (some mb0_4)), (.map (some mb0_5))] 148), e0_4] [] hs55 (fun f w => ∃ (F3 : Mem) (ej61_0 : Option Nat × Obj), HS wb Fb w F3 ((sb b24 #[(vi r41.1.Num), (vi r41.1.Khz), (vi r41.1.Mode), (vi r41.1.Minute), (sv r41.1.Call), (vi r41.1.Sent.Report), (vi r41.1.Sent.Serial), (vi r41.1.Sent.Zone), (vi r41.1.Got.Report), (vi r41.1.Got.Serial), (vi r41.1.Got.Zone), (.bool (r41.2 == 0))] 243) :: (sb b21 #[(vi 0), (vi 0), (vi 0), (vi 0), (sv (([] : WE))), (vi 0), (vi 0), (vi 0), (vi 0), (vi 0), (vi 0), (.bool false)] 243) :: (sb bp0 #[(.bool x0.o_.Report), (.bool x0.o_.Serial), (.bool x0.o_.Zone), (.slice a0_3 x0.lines_.length n0_3), (.map (some mb0_4)), (.map (some mb0_5))] 148) :: e0_4 :: ej61_0 :: Lf) /\ Wj F2 F3 /\ FI f [] [(4, (pt b21 0)), (5, (pt b24 0))] /\ Bb AM As F3 mb0_5 j61 ej61_0) (fun wd56 hw57 => ?_) ?_
   ·refine Dv [0, 1, 2] ?_
    refine Dl 3 (fun _ hq => (hq.1.2 3 _ _ rfl)) <| Dv [4] <| Dl 5 (fun _ hq => (hq.1.2 1 _ _ rfl)) <| D1 6 <| Aw.mapPut (l' := [true, true, true, true, true, true, true]) (zd := true) (by kernel_rfl) (by kernel_rfl) kl9 (ty := 0) (g := none) (mt := 146) (k := 9) (vt := 243) (m := (.tmp 36)) (x := (.tmp 37)) (y := (.tmp 38)) (b := mb0_5) (kx := x1) (u := ({ x_ := r41.1, ok_ := (r41.2 == 0) } : Aq)) (kv := (sv x1)) (v := (.agg #[(vi r41.1.Num), (vi r41.1.Khz), (vi r41.1.Mode), (vi r41.1.Minute), (sv r41.1.Call), (vi r41.1.Sent.Report), (vi r41.1.Sent.Serial), (vi r41.1.Sent.Zone), (vi r41.1.Got.Report), (vi r41.1.Got.Serial), (vi r41.1.Got.Zone), (.bool (r41.2 == 0))])) (K := AM) (T := As) (by kernel_rfl) rfl rfl rfl rfl ⟨_, rfl, rfl⟩ ⟨_, rfl, rfl⟩ (by kernel_rfl) hw57 (q := 5) rfl (hr0_5.mono le47) (Wk _) (fun _ => by simp) (fun e => by cases e) (fun e67 w68 (hs69 : HS wb Fb w68 F2 ((sb b49 (Cf r41.1) 34) :: (sb b24 #[(vi r41.1.Num), (vi r41.1.Khz), (vi r41.1.Mode), (vi r41.1.Minute), (sv r41.1.Call), (vi r41.1.Sent.Report), (vi r41.1.Sent.Serial), (vi r41.1.Sent.Zone), (vi r41.1.Got.Report), (vi r41.1.Got.Serial), (vi r41.1.Got.Zone), (.bool (r41.2 == 0))] 243) :: (sb b21 #[(vi 0), (vi 0), (vi 0), (vi 0), (sv (([] : WE))), (vi 0), (vi 0), (vi 0), (vi 0), (vi 0), (vi 0), (.bool false)] 243) :: (sb bp0 #[(.bool x0.o_.Report), (.bool x0.o_.Serial), (.bool x0.o_.Zone), (.slice a0_3 x0.lines_.length n0_3), (.map (some mb0_4)), (.map (some mb0_5))] 148) :: e0_4 :: e67 :: Lf)) hr70 => ?_)
    obtain rfl := Aa hj65
    exact Ww (by kernel_rfl) ⟨F2, e67, hs69.dr0, (Wk _), fI, hr70⟩
   ·rintro f w58 ⟨F3, ej61_0, hs59, le60, ⟨_, rfl⟩, hrj61_0⟩
    obtain rfl := Aa h66
    exact .inl ⟨rfl, F3, ej61_0, hs59, (le47.t le60), fI, hrj61_0⟩
  ·refine Sc ?_
   obtain rfl := Aa h40
   exact .inl ⟨rfl, F0, e0_5, hs28, (Wk _), fI, hr0_5⟩
 ·rintro f w29 ⟨F1, ej32_12, hs30, le31, ⟨_, rfl⟩, hrj32_12⟩
  refine Ab <| Sq (Rg [0, 1] ?_)
  refine Ld hs30.at0 <| St1 #[(vi j32.1), (vi j32.2.1), (vi j32.2.2.1), (vi j32.2.2.2.1), (sv j32.2.2.2.2.1), (vi j32.2.2.2.2.2.1), (vi j32.2.2.2.2.2.2.1), (vi j32.2.2.2.2.2.2.2.1), (vi j32.2.2.2.2.2.2.2.2.1), (vi j32.2.2.2.2.2.2.2.2.2.1), (vi j32.2.2.2.2.2.2.2.2.2.2.1), (.bool j32.2.2.2.2.2.2.2.2.2.2.2.1)] hs30 (fun w71 hs72 => ?_)
  refine Nt <| Rt ?_
  obtain rfl := Aa h37
  exact ⟨rfl, (.agg #[(vi j32.1), (vi j32.2.1), (vi j32.2.2.1), (vi j32.2.2.2.1), (sv j32.2.2.2.2.1), (vi j32.2.2.2.2.2.1), (vi j32.2.2.2.2.2.2.1), (vi j32.2.2.2.2.2.2.2.1), (vi j32.2.2.2.2.2.2.2.2.1), (vi j32.2.2.2.2.2.2.2.2.2.1), (vi j32.2.2.2.2.2.2.2.2.2.2.1), (.bool j32.2.2.2.2.2.2.2.2.2.2.2.1)]), AW (l := [.cell 4 243]) (by kernel_rfl) (vs := [(.agg #[(vi j32.1), (vi j32.2.1), (vi j32.2.2.1), (vi j32.2.2.2.1), (sv j32.2.2.2.2.1), (vi j32.2.2.2.2.2.1), (vi j32.2.2.2.2.2.2.1), (vi j32.2.2.2.2.2.2.2.1), (vi j32.2.2.2.2.2.2.2.2.1), (vi j32.2.2.2.2.2.2.2.2.2.1), (vi j32.2.2.2.2.2.2.2.2.2.2.1), (.bool j32.2.2.2.2.2.2.2.2.2.2.2.1)])]) ⟨b21, 0, rfl, Am (t := 243) (g := true) (s := 12) (by kernel_rfl) hs72.at1 rfl (by decide), trivial⟩, F1, _, _, rfl, hs72.dr0.dr0, le31, ⟨a0_3, n0_3, e0_4, ej32_12, rfl, rfl, hb0_3, (Wm hs0_3 le31), (hr0_4.mono le31), hrj32_12⟩⟩
def Gz (N : Nat) (x0 : Log) (x1 : WE) (z0 : WE) (z1 : Int) (z2 : Int) : Option (Log × Bool) :=
 ((C5 z0 ([32] : WE)).bind fun r21 => ((strings_CutPrefix N x1 r21).bind fun r24 => ((AG N r24.1).bind fun r32 => ((bif (!r24.2) then some true else (bif (!r32.2) then some true else ((AU N r32.1 z1 z2).bind fun r57 => some (!r57)))).bind fun j43 => (bif j43 then some (x0, false) else some (({ Call := x0.Call, Category := r32.1, Power := x0.Power, Claimed := x0.Claimed, Jumps := x0.Jumps, Lines := x0.Lines } : Log), true))))))
theorem IM : Af Tryz.prog 190 := fun _ _ => by kernel_rfl
theorem Jw (N : Nat) {wb w0 : World} {Fb F0 : Mem} {Lf : Own} (hG : Bz F0) (bp0 : Nat) (x0 : Log) (a0_4 : WF) (n0_4 : Nat) (a0_5 : WF) (n0_5 : Nat) (hb0_4 : LC x0.Jumps.length n0_4) (hs0_4 : SlA AD F0 a0_4 x0.Jumps) (hb0_5 : LC x0.Lines.length n0_5) (hs0_5 : SlA AC F0 a0_5 x0.Lines) (x1 : WE) (bz0 : Nat) (z0 : WE) (hz0 : F0 bz0 = some (oc #[(sv z0)] 9)) (bz1 : Nat) (z1 : Int) (hz1 : F0 bz1 = some (oc #[(vi z1)] 3)) (bz2 : Nat) (z2 : Int) (hz2 : F0 bz2 = some (oc #[(vi z2)] 3)) (bz3 : Nat) (hz3 : F0 bz3 = some (oc #[(fV 156 #[])] 195)) (hs0 : HS wb Fb w0 F0 ((sb bp0 (AF x0 a0_4 n0_4 a0_5 n0_5) 27) :: Lf)) (r : (Log × Bool)) (h : Gz N x0 x1 z0 z1 z2 = some r) :
  Calls Tryz.prog 190 ([(pt bp0 0), (sv x1), (pt bz0 0), (pt bz1 0), (pt bz2 0), (pt bz3 0)] : List Value).toArray w0 (EE wb Fb F0 fun F' v L' => ∃ (aq0_4 : WF) (nq0_4 : Nat) (aq0_5 : WF) (nq0_5 : Nat), v = (.bool r.2) /\ L' = (sb bp0 (AF r.1 aq0_4 nq0_4 aq0_5 nq0_5) 27) :: Lf /\ LC r.1.Jumps.length nq0_4 /\ SlA AD F' aq0_4 r.1.Jumps /\ LC r.1.Lines.length nq0_5 /\ SlA AC F' aq0_5 r.1.Lines) := by
 refine Go 43 Tryz.func190 <| Sq (Rg [0] ?_)
 refine Vs 1 <| Nss (Rg (rG 9) ?_)
 refine Vs 1 <| Ld (hs0.pers _ _ hz0) ?_
 obtain ⟨r21, hr22, h23⟩ := bind_some h
 refine V 16 9 (AV (t := 9) (t' := 9) (x := (.tmp 15)) (y := (.const (sv ([32] : WE)))) (a := z0) (b := ([32] : WE)) (v := r21) rfl rfl hr22) ?_
 obtain ⟨r24, hr25, h26⟩ := bind_some h23
 refine Cl' A2 hs0 (A8 N w0 F0 hs0.pers x1 r21 _ hr25) ?_
 rintro _ F1 w28 hs29 le30 rfl
 refine Vs 5 <| Nss (Rg (rG 7) ?_)
 refine Vs 1 ?_
 obtain ⟨r32, hr33, h34⟩ := bind_some h26
 refine Cl' Bf hs29 (Bq N w28 F1 hs29.pers (hG.mono le30) r24.1 _ hr33) ?_
 rintro _ F2 w36 hs37 le38 rfl
 refine Vs 5 <| Nss <| Sq (Rg (rG 13) ?_)
 obtain ⟨j43, hj49, h50⟩ := bind_some h34
 refine Wp (fun f w => ∃ (F3 : Mem), HS wb Fb w F3 ((sb bp0 (AF x0 a0_4 n0_4 a0_5 n0_5) 27) :: Lf) /\ Wj F2 F3 /\ FI f [] [(0, (pt bp0 0)), (5, (pt bz3 0)), (11, (vi r32.1)), (37, (.bool j43))]) ?_ ?_
 ·refine Vs 3 ?_
  refine Sp hj49 (fun hb51 h52 => ?_) (fun hb51 h53 => ?_)
  ·refine Ss hb51 2 ?_
   refine Pk1 hb51 <| Vs 1 <| Ss (rfl : true = true) 5 <| Pk1 (rfl : true = true) ?_
   obtain rfl := Aa h52
   exact Wf ⟨rfl, F2, hs37, (Wk _), fI⟩
  ·refine Vgs hb51 2 ?_
   refine Pk0 hb51 <| Vs 1 <| Sp h53 (fun hb54 h55 => ?_) (fun hb54 h56 => ?_)
   ·refine Ss hb54 5 ?_
    refine Pk1 hb54 ?_
    obtain rfl := Aa h55
    exact Wf ⟨rfl, F2, hs37, (Wk _), fI⟩
   ·refine Vgs hb54 1 ?_
    refine Lg hb54 (hs37.pers _ _ ((le30.t le38) _ _ hz1)) <| Lg hb54 (hs37.pers _ _ ((le30.t le38) _ _ hz2)) ?_
    obtain ⟨r57, hr58, h59⟩ := bind_some h56
    refine Cg hb54 AE hs37 (AL N w36 F2 hs37.pers r32.1 z1 z2 _ hr58) ?_
    rintro _ F4 w61 hs62 le63 rfl
    refine Vgs hb54 1 <| Pk0 hb54 ?_
    obtain rfl := Aa h59
    exact Wf ⟨rfl, F4, hs62, le63, fI⟩
 ·rintro f w40 ⟨F3, hs41, le42, ⟨_, rfl⟩⟩
  refine Ab <| Cd h50 (fun hb65 h66 => ?_) (fun hb65 h67 => ?_)
  ·refine Sq (Rg [0] ?_)
   refine Vs 1 <| Nt <| Rt <| Ae ?_
   obtain rfl := Aa h66
   exact ReB [(.bool false)] hs41 ((le30.t le38).trans le42) ⟨a0_4, n0_4, a0_5, n0_5, rfl, rfl, hb0_4, (Wm hs0_4 ((le30.t le38).trans le42)), hb0_5, (Wm hs0_5 ((le30.t le38).trans le42))⟩
  ·refine Sc ?_
   refine Ab <| Sq (Rg (rG 6) ?_)
   refine Ld (hs41.pers _ _ (((le30.t le38).trans le42) _ _ hz3)) <| Vs 1 <| Cl' KB hs41 (MY w40 F3 hs41.pers bp0 0) ?_
   rintro _ F5 w68 hs69 le70 rfl
   refine Vs 2 <| St0 #[(sv x0.Call), (vi r32.1), (vi x0.Power), (vi x0.Claimed), (.slice a0_4 x0.Jumps.length n0_4), (.slice a0_5 x0.Lines.length n0_5)] hs69 (fun w71 hs72 => ?_)
   refine Nss (Rg [0] ?_)
   refine Vs 1 <| Nt <| Rt ?_
   obtain rfl := Aa h67
   exact ReB [(.bool true)] hs72 (((le30.t le38).trans le42).trans le70) ⟨a0_4, n0_4, a0_5, n0_5, rfl, rfl, hb0_4, (Wm hs0_4 (((le30.t le38).trans le42).trans le70)), hb0_5, (Wm hs0_5 (((le30.t le38).trans le42).trans le70))⟩
def Gx (N : Nat) (x0 : Log) (x1 : WE) (z0 : WE) (z1 : Int) (z2 : Int) : Option (Log × Bool) :=
 ((C5 z0 ([32] : WE)).bind fun r21 => ((strings_CutPrefix N x1 r21).bind fun r24 => ((AG N r24.1).bind fun r32 => ((bif (!r24.2) then some true else (bif (!r32.2) then some true else ((AU N r32.1 z1 z2).bind fun r57 => some (!r57)))).bind fun j43 => (bif j43 then some (x0, false) else some (({ Call := x0.Call, Category := x0.Category, Power := r32.1, Claimed := x0.Claimed, Jumps := x0.Jumps, Lines := x0.Lines } : Log), true))))))
theorem IK : Af Tryz.prog 190 := fun _ _ => by kernel_rfl
theorem Ju (N : Nat) {wb w0 : World} {Fb F0 : Mem} {Lf : Own} (hG : Bz F0) (bp0 : Nat) (x0 : Log) (a0_4 : WF) (n0_4 : Nat) (a0_5 : WF) (n0_5 : Nat) (hb0_4 : LC x0.Jumps.length n0_4) (hs0_4 : SlA AD F0 a0_4 x0.Jumps) (hb0_5 : LC x0.Lines.length n0_5) (hs0_5 : SlA AC F0 a0_5 x0.Lines) (x1 : WE) (bz0 : Nat) (z0 : WE) (hz0 : F0 bz0 = some (oc #[(sv z0)] 9)) (bz1 : Nat) (z1 : Int) (hz1 : F0 bz1 = some (oc #[(vi z1)] 3)) (bz2 : Nat) (z2 : Int) (hz2 : F0 bz2 = some (oc #[(vi z2)] 3)) (bz3 : Nat) (hz3 : F0 bz3 = some (oc #[(fV 157 #[])] 195)) (hs0 : HS wb Fb w0 F0 ((sb bp0 (AF x0 a0_4 n0_4 a0_5 n0_5) 27) :: Lf)) (r : (Log × Bool)) (h : Gx N x0 x1 z0 z1 z2 = some r) :
  Calls Tryz.prog 190 ([(pt bp0 0), (sv x1), (pt bz0 0), (pt bz1 0), (pt bz2 0), (pt bz3 0)] : List Value).toArray w0 (EE wb Fb F0 fun F' v L' => ∃ (aq0_4 : WF) (nq0_4 : Nat) (aq0_5 : WF) (nq0_5 : Nat), v = (.bool r.2) /\ L' = (sb bp0 (AF r.1 aq0_4 nq0_4 aq0_5 nq0_5) 27) :: Lf /\ LC r.1.Jumps.length nq0_4 /\ SlA AD F' aq0_4 r.1.Jumps /\ LC r.1.Lines.length nq0_5 /\ SlA AC F' aq0_5 r.1.Lines) := by
 refine Go 43 Tryz.func190 <| Sq (Rg [0] ?_)
 refine Vs 1 <| Nss (Rg (rG 9) ?_)
 refine Vs 1 <| Ld (hs0.pers _ _ hz0) ?_
 obtain ⟨r21, hr22, h23⟩ := bind_some h
 refine V 16 9 (AV (t := 9) (t' := 9) (x := (.tmp 15)) (y := (.const (sv ([32] : WE)))) (a := z0) (b := ([32] : WE)) (v := r21) rfl rfl hr22) ?_
 obtain ⟨r24, hr25, h26⟩ := bind_some h23
 refine Cl' A2 hs0 (A8 N w0 F0 hs0.pers x1 r21 _ hr25) ?_
 rintro _ F1 w28 hs29 le30 rfl
 refine Vs 5 <| Nss (Rg (rG 7) ?_)
 refine Vs 1 ?_
 obtain ⟨r32, hr33, h34⟩ := bind_some h26
 refine Cl' Bf hs29 (Bq N w28 F1 hs29.pers (hG.mono le30) r24.1 _ hr33) ?_
 rintro _ F2 w36 hs37 le38 rfl
 refine Vs 5 <| Nss <| Sq (Rg (rG 13) ?_)
 obtain ⟨j43, hj49, h50⟩ := bind_some h34
 refine Wp (fun f w => ∃ (F3 : Mem), HS wb Fb w F3 ((sb bp0 (AF x0 a0_4 n0_4 a0_5 n0_5) 27) :: Lf) /\ Wj F2 F3 /\ FI f [] [(0, (pt bp0 0)), (5, (pt bz3 0)), (11, (vi r32.1)), (37, (.bool j43))]) ?_ ?_
 ·refine Vs 3 ?_
  refine Sp hj49 (fun hb51 h52 => ?_) (fun hb51 h53 => ?_)
  ·refine Ss hb51 2 ?_
   refine Pk1 hb51 <| Vs 1 <| Ss (rfl : true = true) 5 <| Pk1 (rfl : true = true) ?_
   obtain rfl := Aa h52
   exact Wf ⟨rfl, F2, hs37, (Wk _), fI⟩
  ·refine Vgs hb51 2 ?_
   refine Pk0 hb51 <| Vs 1 <| Sp h53 (fun hb54 h55 => ?_) (fun hb54 h56 => ?_)
   ·refine Ss hb54 5 ?_
    refine Pk1 hb54 ?_
    obtain rfl := Aa h55
    exact Wf ⟨rfl, F2, hs37, (Wk _), fI⟩
   ·refine Vgs hb54 1 ?_
    refine Lg hb54 (hs37.pers _ _ ((le30.t le38) _ _ hz1)) <| Lg hb54 (hs37.pers _ _ ((le30.t le38) _ _ hz2)) ?_
    obtain ⟨r57, hr58, h59⟩ := bind_some h56
    refine Cg hb54 AE hs37 (AL N w36 F2 hs37.pers r32.1 z1 z2 _ hr58) ?_
    rintro _ F4 w61 hs62 le63 rfl
    refine Vgs hb54 1 <| Pk0 hb54 ?_
    obtain rfl := Aa h59
    exact Wf ⟨rfl, F4, hs62, le63, fI⟩
 ·rintro f w40 ⟨F3, hs41, le42, ⟨_, rfl⟩⟩
  refine Ab <| Cd h50 (fun hb65 h66 => ?_) (fun hb65 h67 => ?_)
  ·refine Sq (Rg [0] ?_)
   refine Vs 1 <| Nt <| Rt <| Ae ?_
   obtain rfl := Aa h66
   exact ReB [(.bool false)] hs41 ((le30.t le38).trans le42) ⟨a0_4, n0_4, a0_5, n0_5, rfl, rfl, hb0_4, (Wm hs0_4 ((le30.t le38).trans le42)), hb0_5, (Wm hs0_5 ((le30.t le38).trans le42))⟩
  ·refine Sc ?_
   refine Ab <| Sq (Rg (rG 6) ?_)
   refine Ld (hs41.pers _ _ (((le30.t le38).trans le42) _ _ hz3)) <| Vs 1 <| Cl' KA hs41 (MX w40 F3 hs41.pers bp0 0) ?_
   rintro _ F5 w68 hs69 le70 rfl
   refine Vs 2 <| St0 #[(sv x0.Call), (vi x0.Category), (vi r32.1), (vi x0.Claimed), (.slice a0_4 x0.Jumps.length n0_4), (.slice a0_5 x0.Lines.length n0_5)] hs69 (fun w71 hs72 => ?_)
   refine Nss (Rg [0] ?_)
   refine Vs 1 <| Nt <| Rt ?_
   obtain rfl := Aa h67
   exact ReB [(.bool true)] hs72 (((le30.t le38).trans le42).trans le70) ⟨a0_4, n0_4, a0_5, n0_5, rfl, rfl, hb0_4, (Wm hs0_4 (((le30.t le38).trans le42).trans le70)), hb0_5, (Wm hs0_5 (((le30.t le38).trans le42).trans le70))⟩
def Gy (N : Nat) (x0 : Log) (x1 : WE) (z0 : WE) (z1 : Int) (z2 : Int) : Option (Log × Bool) :=
 ((C5 z0 ([32] : WE)).bind fun r21 => ((strings_CutPrefix N x1 r21).bind fun r24 => ((AG N r24.1).bind fun r32 => ((bif (!r24.2) then some true else (bif (!r32.2) then some true else ((AU N r32.1 z1 z2).bind fun r57 => some (!r57)))).bind fun j43 => (bif j43 then some (x0, false) else some (({ Call := x0.Call, Category := x0.Category, Power := x0.Power, Claimed := r32.1, Jumps := x0.Jumps, Lines := x0.Lines } : Log), true))))))
theorem IL : Af Tryz.prog 190 := fun _ _ => by kernel_rfl
theorem Jv (N : Nat) {wb w0 : World} {Fb F0 : Mem} {Lf : Own} (hG : Bz F0) (bp0 : Nat) (x0 : Log) (a0_4 : WF) (n0_4 : Nat) (a0_5 : WF) (n0_5 : Nat) (hb0_4 : LC x0.Jumps.length n0_4) (hs0_4 : SlA AD F0 a0_4 x0.Jumps) (hb0_5 : LC x0.Lines.length n0_5) (hs0_5 : SlA AC F0 a0_5 x0.Lines) (x1 : WE) (bz0 : Nat) (z0 : WE) (hz0 : F0 bz0 = some (oc #[(sv z0)] 9)) (bz1 : Nat) (z1 : Int) (hz1 : F0 bz1 = some (oc #[(vi z1)] 3)) (bz2 : Nat) (z2 : Int) (hz2 : F0 bz2 = some (oc #[(vi z2)] 3)) (bz3 : Nat) (hz3 : F0 bz3 = some (oc #[(fV 158 #[])] 195)) (hs0 : HS wb Fb w0 F0 ((sb bp0 (AF x0 a0_4 n0_4 a0_5 n0_5) 27) :: Lf)) (r : (Log × Bool)) (h : Gy N x0 x1 z0 z1 z2 = some r) :
  Calls Tryz.prog 190 ([(pt bp0 0), (sv x1), (pt bz0 0), (pt bz1 0), (pt bz2 0), (pt bz3 0)] : List Value).toArray w0 (EE wb Fb F0 fun F' v L' => ∃ (aq0_4 : WF) (nq0_4 : Nat) (aq0_5 : WF) (nq0_5 : Nat), v = (.bool r.2) /\ L' = (sb bp0 (AF r.1 aq0_4 nq0_4 aq0_5 nq0_5) 27) :: Lf /\ LC r.1.Jumps.length nq0_4 /\ SlA AD F' aq0_4 r.1.Jumps /\ LC r.1.Lines.length nq0_5 /\ SlA AC F' aq0_5 r.1.Lines) := by
 refine Go 43 Tryz.func190 <| Sq (Rg [0] ?_)
 refine Vs 1 <| Nss (Rg (rG 9) ?_)
 refine Vs 1 <| Ld (hs0.pers _ _ hz0) ?_
 obtain ⟨r21, hr22, h23⟩ := bind_some h
 refine V 16 9 (AV (t := 9) (t' := 9) (x := (.tmp 15)) (y := (.const (sv ([32] : WE)))) (a := z0) (b := ([32] : WE)) (v := r21) rfl rfl hr22) ?_
 obtain ⟨r24, hr25, h26⟩ := bind_some h23
 refine Cl' A2 hs0 (A8 N w0 F0 hs0.pers x1 r21 _ hr25) ?_
 rintro _ F1 w28 hs29 le30 rfl
 refine Vs 5 <| Nss (Rg (rG 7) ?_)
 refine Vs 1 ?_
 obtain ⟨r32, hr33, h34⟩ := bind_some h26
 refine Cl' Bf hs29 (Bq N w28 F1 hs29.pers (hG.mono le30) r24.1 _ hr33) ?_
 rintro _ F2 w36 hs37 le38 rfl
 refine Vs 5 <| Nss <| Sq (Rg (rG 13) ?_)
 obtain ⟨j43, hj49, h50⟩ := bind_some h34
 refine Wp (fun f w => ∃ (F3 : Mem), HS wb Fb w F3 ((sb bp0 (AF x0 a0_4 n0_4 a0_5 n0_5) 27) :: Lf) /\ Wj F2 F3 /\ FI f [] [(0, (pt bp0 0)), (5, (pt bz3 0)), (11, (vi r32.1)), (37, (.bool j43))]) ?_ ?_
 ·refine Vs 3 ?_
  refine Sp hj49 (fun hb51 h52 => ?_) (fun hb51 h53 => ?_)
  ·refine Ss hb51 2 ?_
   refine Pk1 hb51 <| Vs 1 <| Ss (rfl : true = true) 5 <| Pk1 (rfl : true = true) ?_
   obtain rfl := Aa h52
   exact Wf ⟨rfl, F2, hs37, (Wk _), fI⟩
  ·refine Vgs hb51 2 ?_
   refine Pk0 hb51 <| Vs 1 <| Sp h53 (fun hb54 h55 => ?_) (fun hb54 h56 => ?_)
   ·refine Ss hb54 5 ?_
    refine Pk1 hb54 ?_
    obtain rfl := Aa h55
    exact Wf ⟨rfl, F2, hs37, (Wk _), fI⟩
   ·refine Vgs hb54 1 ?_
    refine Lg hb54 (hs37.pers _ _ ((le30.t le38) _ _ hz1)) <| Lg hb54 (hs37.pers _ _ ((le30.t le38) _ _ hz2)) ?_
    obtain ⟨r57, hr58, h59⟩ := bind_some h56
    refine Cg hb54 AE hs37 (AL N w36 F2 hs37.pers r32.1 z1 z2 _ hr58) ?_
    rintro _ F4 w61 hs62 le63 rfl
    refine Vgs hb54 1 <| Pk0 hb54 ?_
    obtain rfl := Aa h59
    exact Wf ⟨rfl, F4, hs62, le63, fI⟩
 ·rintro f w40 ⟨F3, hs41, le42, ⟨_, rfl⟩⟩
  refine Ab <| Cd h50 (fun hb65 h66 => ?_) (fun hb65 h67 => ?_)
  ·refine Sq (Rg [0] ?_)
   refine Vs 1 <| Nt <| Rt <| Ae ?_
   obtain rfl := Aa h66
   exact ReB [(.bool false)] hs41 ((le30.t le38).trans le42) ⟨a0_4, n0_4, a0_5, n0_5, rfl, rfl, hb0_4, (Wm hs0_4 ((le30.t le38).trans le42)), hb0_5, (Wm hs0_5 ((le30.t le38).trans le42))⟩
  ·refine Sc ?_
   refine Ab <| Sq (Rg (rG 6) ?_)
   refine Ld (hs41.pers _ _ (((le30.t le38).trans le42) _ _ hz3)) <| Vs 1 <| Cl' Kz hs41 (MW w40 F3 hs41.pers bp0 0) ?_
   rintro _ F5 w68 hs69 le70 rfl
   refine Vs 2 <| St0 #[(sv x0.Call), (vi x0.Category), (vi x0.Power), (vi r32.1), (.slice a0_4 x0.Jumps.length n0_4), (.slice a0_5 x0.Lines.length n0_5)] hs69 (fun w71 hs72 => ?_)
   refine Nss (Rg [0] ?_)
   refine Vs 1 <| Nt <| Rt ?_
   obtain rfl := Aa h67
   exact ReB [(.bool true)] hs72 (((le30.t le38).trans le42).trans le70) ⟨a0_4, n0_4, a0_5, n0_5, rfl, rfl, hb0_4, (Wm hs0_4 (((le30.t le38).trans le42).trans le70)), hb0_5, (Wm hs0_5 (((le30.t le38).trans le42).trans le70))⟩
def CI (N : Nat) (x0 : Al) (x1 : An) (x2 : WE) : Option (Al × An × Bool) :=
 (bif (x1.stage_ == 6) then some (x0, x1, false) else (bif (decide (x1.stage_ < 5)) then ((bif (decide (x1.stage_ = 0)) then ((I0 N ({ Call := ([] : WE), Category := 0, Power := 0, Claimed := 0, Jumps := ([] : List Int), Lines := ([] : List Line) } : Log) x2).bind fun r57 => some r57.2) else (bif (decide (x1.stage_ = 1)) then ((Gz N ({ Call := ([] : WE), Category := 0, Power := 0, Claimed := 0, Jumps := ([] : List Int), Lines := ([] : List Line) } : Log) x2 ([67, 65, 84, 69, 71, 79, 82, 89] : WE) 1 9).bind fun r67 => some r67.2) else (bif (decide (x1.stage_ = 2)) then ((Gx N ({ Call := ([] : WE), Category := 0, Power := 0, Claimed := 0, Jumps := ([] : List Int), Lines := ([] : List Line) } : Log) x2 ([80, 79, 87, 69, 82] : WE) 1 9999).bind fun r77 => some r77.2) else (bif (decide (x1.stage_ = 3)) then ((Gy N ({ Call := ([] : WE), Category := 0, Power := 0, Claimed := 0, Jumps := ([] : List Int), Lines := ([] : List Line) } : Log) x2 ([67, 76, 65, 73, 77, 69, 68] : WE) 0 1000000).bind fun r87 => some r87.2) else (bif (decide (x1.stage_ = 4)) then ((HN N ({ Call := ([] : WE), Category := 0, Power := 0, Claimed := 0, Jumps := ([] : List Int), Lines := ([] : List Line) } : Log) x2).bind fun r97 => some r97.2) else none))))).bind fun j43 => some (x0, ({ at_ := x1.at_, stage_ := (W64 (x1.stage_ + 1)), num_ := x1.num_, minute_ := x1.minute_ } : An), j43)) else (bif (x2 == ([69, 78, 68] : WE)) then some (x0, ({ at_ := x1.at_, stage_ := 6, num_ := 0, minute_ := 0 } : An), true) else ((Fc N x0 x2).bind fun r114 => ((bif r114.2.ok_ then (bif (decide (r114.2.x_.Num > x1.num_)) then some ((decide (r114.2.x_.Minute >= x1.minute_)), x1.at_, x1.stage_, r114.2.x_.Num, r114.2.x_.Minute) else none) else some (false, x1.at_, x1.stage_, r114.2.x_.Num, r114.2.x_.Minute)).bind fun j131 => some (r114.1, ({ at_ := j131.2.1, stage_ := j131.2.2.1, num_ := j131.2.2.2.1, minute_ := j131.2.2.2.2 } : An), j131.1))))))
theorem CY : Af Tryz.prog 170 := fun _ _ => by kernel_rfl
theorem Dj (N : Nat) {wb w0 : World} {Fb F0 : Mem} {Lf : Own} (hG : Bz F0) (bp0 : Nat) (x0 : Al) (a0_3 : WF) (n0_3 : Nat) (mb0_4 : Nat) (e0_4 : Option Nat × Obj) (mb0_5 : Nat) (e0_5 : Option Nat × Obj) (hb0_3 : LC x0.lines_.length n0_3) (hs0_3 : SlA AM F0 a0_3 x0.lines_) (hr0_4 : Bb Ay AD F0 mb0_4 x0.known_ e0_4) (hr0_5 : Bb AM As F0 mb0_5 x0.read_ e0_5) (x1 : An) (x2 : WE) (hs0 : HS wb Fb w0 F0 ((sb bp0 #[(.bool x0.o_.Report), (.bool x0.o_.Serial), (.bool x0.o_.Zone), (.slice a0_3 x0.lines_.length n0_3), (.map (some mb0_4)), (.map (some mb0_5))] 148) :: e0_4 :: e0_5 :: Lf)) (r : (Al × An × Bool)) (h : CI N x0 x1 x2 = some r) :
  Calls Tryz.prog 170 ([(pt bp0 0), (.agg (Ah x1)), (sv x2)] : List Value).toArray w0 (EE wb Fb F0 fun F' v L' => ∃ (aq0_3 : WF) (nq0_3 : Nat) (eq0_4 : Option Nat × Obj) (eq0_5 : Option Nat × Obj), v = (.tuple #[(.agg (Ah r.2.1)), (.bool r.2.2)]) /\ L' = (sb bp0 #[(.bool r.1.o_.Report), (.bool r.1.o_.Serial), (.bool r.1.o_.Zone), (.slice aq0_3 r.1.lines_.length nq0_3), (.map (some mb0_4)), (.map (some mb0_5))] 148) :: eq0_4 :: eq0_5 :: Lf /\ LC r.1.lines_.length nq0_3 /\ SlA AM F' aq0_3 r.1.lines_ /\ Bb Ay AD F' mb0_4 r.1.known_ eq0_4 /\ Bb AM As F' mb0_5 r.1.read_ eq0_5) := by
 refine Go 71 Tryz.func170 <| Sq (Rg [0, 1, 2] ?_)
 refine Bx' 143 (Ah x1) hs0 (fun b21 w22 hs23 => ?_)
 refine Al' 143 #[(vi 0), (vi 0), (vi 0), (vi 0)] hs23 (fun b24 w25 hs26 => ?_)
 refine Vs 1 <| Nss (Rg [0] ?_)
 refine Al' 27 #[(sv (([] : WE))), (vi 0), (vi 0), (vi 0), (.slice none ([] : List Int).length 0), (.slice none ([] : List Line).length 0)] hs26 (fun b27 w28 hs29 => ?_)
 refine Nss <| Bk <| Sq (Rg (rG 4) ?_)
 refine Vs 1 <| Ld hs29.at2 <| Vs 2 <| Nt <| Cd h (fun hb30 h31 => ?_) (fun hb30 h32 => ?_)
 ·refine Sq (Rg [0, 1, 2] ?_)
  refine Ld hs29.at2 <| St1 (Ah x1) hs29 (fun w33 hs34 => ?_)
  refine Vs 1 <| Nt <| Rt <| Ax <| Ae ?_
  obtain rfl := Aa h31
  exact ⟨rfl, (.tuple #[(.agg (Ah x1)), (.bool false)]), AW (l := [.cell 6 143, .tmp 7]) (by kernel_rfl) (vs := [(.agg (Ah x1)), (.bool false)]) ⟨b24, 0, rfl, Am (t := 143) (g := true) (s := 4) (by kernel_rfl) hs34.at1 rfl (by decide), ⟨rfl, trivial⟩⟩, F0, _, _, rfl, hs34.dr0.dr0.dr0, (Wk _), ⟨a0_3, n0_3, e0_4, e0_5, rfl, rfl, hb0_3, hs0_3, hr0_4, hr0_5⟩⟩
 ·refine Sq (Rg (rG 4) ?_)
  refine Vs 1 <| Ld hs29.at2 <| Vs 2 <| Nt <| Cd h32 (fun hb35 h36 => ?_) (fun hb35 h37 => ?_)
  ·refine Sq ?_
   obtain ⟨j43, hj48, h49⟩ := bind_some h36
   refine RD 8 8 [(sb b24 #[(vi 0), (vi 0), (vi 0), (vi 0)] 143), (sb b21 (Ah x1) 143), (sb bp0 #[(.bool x0.o_.Report), (.bool x0.o_.Serial), (.bool x0.o_.Zone), (.slice a0_3 x0.lines_.length n0_3), (.map (some mb0_4)), (.map (some mb0_5))] 148), e0_4, e0_5] [] hs29 (fun f w => ∃ (F1 : Mem), HS wb Fb w F1 ((sb b24 #[(vi 0), (vi 0), (vi 0), (vi 0)] 143) :: (sb b21 (Ah x1) 143) :: (sb bp0 #[(.bool x0.o_.Report), (.bool x0.o_.Serial), (.bool x0.o_.Zone), (.slice a0_3 x0.lines_.length n0_3), (.map (some mb0_4)), (.map (some mb0_5))] 148) :: e0_4 :: e0_5 :: Lf) /\ Wj F0 F1 /\ FI f [] [(4, (pt b21 0)), (6, (pt b24 0)), (9, (.bool j43))]) (fun wd38 hw39 => ?_) ?_
   ·refine Dv [1] ?_
    refine Dl 2 (fun _ hq => (hq.1.2 1 _ _ rfl)) <| Dv [5] <| D1 0 <| DCl EI hw39 (Fj wd38 F0 hw39.pers) ?_
    rintro _ F2 w50 hs51 le52 ⟨tbt53_0_0, tbt53_0_1, tbt53_0_2, tbt53_0_3, tbt53_0_4, tbt53_0_5, tbt53_0_6, tbt53_0_7, tbt53_0_8, tbt53_0_9, tbt53_0_10, tbt53_0_11, rfl, htbt53_0_0, htbt53_0_1, htbt53_0_2, htbt53_0_3, htbt53_0_4, htbt53_0_5, htbt53_0_6, htbt53_0_7, htbt53_0_8, htbt53_0_9, htbt53_0_10, htbt53_0_11⟩
    refine Sd hj48 (fun hb54 h55 => ?_) (fun hb54 h56 => ?_)
    ·refine Dt 3 23 109 (.agg #[(fV 153 #[]), (fV 154 #[])]) (fun _ hq => Gt (t := 110) (E := 109) (len := 5) (s := 2) (x := (.tmp 20)) (y := (.tmp 22)) (k := .i64) (i := x1.stage_) (n := 0) (cs := [(fV 153 #[]), (fV 154 #[]), (fV 190 #[(pt tbt53_0_0 0), (pt tbt53_0_1 0), (pt tbt53_0_2 0), (pt tbt53_0_3 0)]), (fV 191 #[(pt tbt53_0_0 0), (pt tbt53_0_3 0)]), (fV 190 #[(pt tbt53_0_4 0), (pt tbt53_0_5 0), (pt tbt53_0_6 0), (pt tbt53_0_7 0)]), (fV 191 #[(pt tbt53_0_4 0), (pt tbt53_0_7 0)]), (fV 190 #[(pt tbt53_0_8 0), (pt tbt53_0_9 0), (pt tbt53_0_10 0), (pt tbt53_0_11 0)]), (fV 191 #[(pt tbt53_0_8 0), (pt tbt53_0_11 0)]), (fV 159 #[]), (fV 160 #[])]) (C := [(fV 153 #[]), (fV 154 #[])]) rfl rfl (by kernel_rfl) (by kernel_rfl) hb54 (by decide) rfl rfl) ?_
     refine Dv [4] <| D1 6 ?_
     obtain ⟨r57, hr58, h59⟩ := bind_some h55
     refine DCB KC (Lt N (hG.mono le52) b27 (({ Call := ([] : WE), Category := 0, Power := 0, Claimed := 0, Jumps := ([] : List Int), Lines := ([] : List Line) } : Log)) none 0 none 0 Wn (.inl rfl) Wn (.inl rfl) x2 hs51 _ hr58) ?_
     rintro _ F3 w60 _ hs61 le62 ⟨ar57_0_4, nr57_0_4, ar57_0_5, nr57_0_5, rfl, rfl, hbr57_0_4, hsr57_0_4, hbr57_0_5, hsr57_0_5⟩
     refine ⟨Bd hs61 (le52.t le62) (by simp) (zdT (by kernel_rfl)), ?_⟩
     refine Dv [7] ?_
     obtain rfl := Aa h59
     exact Ww (by kernel_rfl) ⟨F3, hs61.dr0, (le52.t le62), fI⟩
    ·refine Sd h56 (fun hb64 h65 => ?_) (fun hb64 h66 => ?_)
     ·refine Dt 3 23 109 (.agg #[(fV 190 #[(pt tbt53_0_0 0), (pt tbt53_0_1 0), (pt tbt53_0_2 0), (pt tbt53_0_3 0)]), (fV 191 #[(pt tbt53_0_0 0), (pt tbt53_0_3 0)])]) (fun _ hq => Gt (t := 110) (E := 109) (len := 5) (s := 2) (x := (.tmp 20)) (y := (.tmp 22)) (k := .i64) (i := x1.stage_) (n := 1) (cs := [(fV 153 #[]), (fV 154 #[]), (fV 190 #[(pt tbt53_0_0 0), (pt tbt53_0_1 0), (pt tbt53_0_2 0), (pt tbt53_0_3 0)]), (fV 191 #[(pt tbt53_0_0 0), (pt tbt53_0_3 0)]), (fV 190 #[(pt tbt53_0_4 0), (pt tbt53_0_5 0), (pt tbt53_0_6 0), (pt tbt53_0_7 0)]), (fV 191 #[(pt tbt53_0_4 0), (pt tbt53_0_7 0)]), (fV 190 #[(pt tbt53_0_8 0), (pt tbt53_0_9 0), (pt tbt53_0_10 0), (pt tbt53_0_11 0)]), (fV 191 #[(pt tbt53_0_8 0), (pt tbt53_0_11 0)]), (fV 159 #[]), (fV 160 #[])]) (C := [(fV 190 #[(pt tbt53_0_0 0), (pt tbt53_0_1 0), (pt tbt53_0_2 0), (pt tbt53_0_3 0)]), (fV 191 #[(pt tbt53_0_0 0), (pt tbt53_0_3 0)])]) rfl rfl (by kernel_rfl) (by kernel_rfl) hb64 (by decide) rfl rfl) ?_
      refine Dv [4] <| D1 6 ?_
      obtain ⟨r67, hr68, h69⟩ := bind_some h65
      refine DCB IM (Jw N (hG.mono le52) b27 (({ Call := ([] : WE), Category := 0, Power := 0, Claimed := 0, Jumps := ([] : List Int), Lines := ([] : List Line) } : Log)) none 0 none 0 Wn (.inl rfl) Wn (.inl rfl) x2 tbt53_0_0 ([67, 65, 84, 69, 71, 79, 82, 89] : WE) htbt53_0_0 tbt53_0_1 1 htbt53_0_1 tbt53_0_2 9 htbt53_0_2 tbt53_0_3 htbt53_0_3 hs51 _ hr68) ?_
      rintro _ F4 w70 _ hs71 le72 ⟨ar67_0_4, nr67_0_4, ar67_0_5, nr67_0_5, rfl, rfl, hbr67_0_4, hsr67_0_4, hbr67_0_5, hsr67_0_5⟩
      refine ⟨Bd hs71 (le52.t le72) (by simp) (zdT (by kernel_rfl)), ?_⟩
      refine Dv [7] ?_
      obtain rfl := Aa h69
      exact Ww (by kernel_rfl) ⟨F4, hs71.dr0, (le52.t le72), fI⟩
     ·refine Sd h66 (fun hb74 h75 => ?_) (fun hb74 h76 => ?_)
      ·refine Dt 3 23 109 (.agg #[(fV 190 #[(pt tbt53_0_4 0), (pt tbt53_0_5 0), (pt tbt53_0_6 0), (pt tbt53_0_7 0)]), (fV 191 #[(pt tbt53_0_4 0), (pt tbt53_0_7 0)])]) (fun _ hq => Gt (t := 110) (E := 109) (len := 5) (s := 2) (x := (.tmp 20)) (y := (.tmp 22)) (k := .i64) (i := x1.stage_) (n := 2) (cs := [(fV 153 #[]), (fV 154 #[]), (fV 190 #[(pt tbt53_0_0 0), (pt tbt53_0_1 0), (pt tbt53_0_2 0), (pt tbt53_0_3 0)]), (fV 191 #[(pt tbt53_0_0 0), (pt tbt53_0_3 0)]), (fV 190 #[(pt tbt53_0_4 0), (pt tbt53_0_5 0), (pt tbt53_0_6 0), (pt tbt53_0_7 0)]), (fV 191 #[(pt tbt53_0_4 0), (pt tbt53_0_7 0)]), (fV 190 #[(pt tbt53_0_8 0), (pt tbt53_0_9 0), (pt tbt53_0_10 0), (pt tbt53_0_11 0)]), (fV 191 #[(pt tbt53_0_8 0), (pt tbt53_0_11 0)]), (fV 159 #[]), (fV 160 #[])]) (C := [(fV 190 #[(pt tbt53_0_4 0), (pt tbt53_0_5 0), (pt tbt53_0_6 0), (pt tbt53_0_7 0)]), (fV 191 #[(pt tbt53_0_4 0), (pt tbt53_0_7 0)])]) rfl rfl (by kernel_rfl) (by kernel_rfl) hb74 (by decide) rfl rfl) ?_
       refine Dv [4] <| D1 6 ?_
       obtain ⟨r77, hr78, h79⟩ := bind_some h75
       refine DCB IK (Ju N (hG.mono le52) b27 (({ Call := ([] : WE), Category := 0, Power := 0, Claimed := 0, Jumps := ([] : List Int), Lines := ([] : List Line) } : Log)) none 0 none 0 Wn (.inl rfl) Wn (.inl rfl) x2 tbt53_0_4 ([80, 79, 87, 69, 82] : WE) htbt53_0_4 tbt53_0_5 1 htbt53_0_5 tbt53_0_6 9999 htbt53_0_6 tbt53_0_7 htbt53_0_7 hs51 _ hr78) ?_
       rintro _ F5 w80 _ hs81 le82 ⟨ar77_0_4, nr77_0_4, ar77_0_5, nr77_0_5, rfl, rfl, hbr77_0_4, hsr77_0_4, hbr77_0_5, hsr77_0_5⟩
       refine ⟨Bd hs81 (le52.t le82) (by simp) (zdT (by kernel_rfl)), ?_⟩
       refine Dv [7] ?_
       obtain rfl := Aa h79
       exact Ww (by kernel_rfl) ⟨F5, hs81.dr0, (le52.t le82), fI⟩
      ·refine Sd h76 (fun hb84 h85 => ?_) (fun hb84 h86 => ?_)
       ·refine Dt 3 23 109 (.agg #[(fV 190 #[(pt tbt53_0_8 0), (pt tbt53_0_9 0), (pt tbt53_0_10 0), (pt tbt53_0_11 0)]), (fV 191 #[(pt tbt53_0_8 0), (pt tbt53_0_11 0)])]) (fun _ hq => Gt (t := 110) (E := 109) (len := 5) (s := 2) (x := (.tmp 20)) (y := (.tmp 22)) (k := .i64) (i := x1.stage_) (n := 3) (cs := [(fV 153 #[]), (fV 154 #[]), (fV 190 #[(pt tbt53_0_0 0), (pt tbt53_0_1 0), (pt tbt53_0_2 0), (pt tbt53_0_3 0)]), (fV 191 #[(pt tbt53_0_0 0), (pt tbt53_0_3 0)]), (fV 190 #[(pt tbt53_0_4 0), (pt tbt53_0_5 0), (pt tbt53_0_6 0), (pt tbt53_0_7 0)]), (fV 191 #[(pt tbt53_0_4 0), (pt tbt53_0_7 0)]), (fV 190 #[(pt tbt53_0_8 0), (pt tbt53_0_9 0), (pt tbt53_0_10 0), (pt tbt53_0_11 0)]), (fV 191 #[(pt tbt53_0_8 0), (pt tbt53_0_11 0)]), (fV 159 #[]), (fV 160 #[])]) (C := [(fV 190 #[(pt tbt53_0_8 0), (pt tbt53_0_9 0), (pt tbt53_0_10 0), (pt tbt53_0_11 0)]), (fV 191 #[(pt tbt53_0_8 0), (pt tbt53_0_11 0)])]) rfl rfl (by kernel_rfl) (by kernel_rfl) hb84 (by decide) rfl rfl) ?_
        refine Dv [4] <| D1 6 ?_
        obtain ⟨r87, hr88, h89⟩ := bind_some h85
        refine DCB IL (Jv N (hG.mono le52) b27 (({ Call := ([] : WE), Category := 0, Power := 0, Claimed := 0, Jumps := ([] : List Int), Lines := ([] : List Line) } : Log)) none 0 none 0 Wn (.inl rfl) Wn (.inl rfl) x2 tbt53_0_8 ([67, 76, 65, 73, 77, 69, 68] : WE) htbt53_0_8 tbt53_0_9 0 htbt53_0_9 tbt53_0_10 1000000 htbt53_0_10 tbt53_0_11 htbt53_0_11 hs51 _ hr88) ?_
        rintro _ F6 w90 _ hs91 le92 ⟨ar87_0_4, nr87_0_4, ar87_0_5, nr87_0_5, rfl, rfl, hbr87_0_4, hsr87_0_4, hbr87_0_5, hsr87_0_5⟩
        refine ⟨Bd hs91 (le52.t le92) (by simp) (zdT (by kernel_rfl)), ?_⟩
        refine Dv [7] ?_
        obtain rfl := Aa h89
        exact Ww (by kernel_rfl) ⟨F6, hs91.dr0, (le52.t le92), fI⟩
       ·refine Sd h86 (fun hb94 h95 => ?_) (fun hb94 h96 => ?_)
        ·refine Dt 3 23 109 (.agg #[(fV 159 #[]), (fV 160 #[])]) (fun _ hq => Gt (t := 110) (E := 109) (len := 5) (s := 2) (x := (.tmp 20)) (y := (.tmp 22)) (k := .i64) (i := x1.stage_) (n := 4) (cs := [(fV 153 #[]), (fV 154 #[]), (fV 190 #[(pt tbt53_0_0 0), (pt tbt53_0_1 0), (pt tbt53_0_2 0), (pt tbt53_0_3 0)]), (fV 191 #[(pt tbt53_0_0 0), (pt tbt53_0_3 0)]), (fV 190 #[(pt tbt53_0_4 0), (pt tbt53_0_5 0), (pt tbt53_0_6 0), (pt tbt53_0_7 0)]), (fV 191 #[(pt tbt53_0_4 0), (pt tbt53_0_7 0)]), (fV 190 #[(pt tbt53_0_8 0), (pt tbt53_0_9 0), (pt tbt53_0_10 0), (pt tbt53_0_11 0)]), (fV 191 #[(pt tbt53_0_8 0), (pt tbt53_0_11 0)]), (fV 159 #[]), (fV 160 #[])]) (C := [(fV 159 #[]), (fV 160 #[])]) rfl rfl (by kernel_rfl) (by kernel_rfl) hb94 (by decide) rfl rfl) ?_
         refine Dv [4] <| D1 6 ?_
         obtain ⟨r97, hr98, h99⟩ := bind_some h95
         refine DCB J4 (KH N (hG.mono le52) b27 (({ Call := ([] : WE), Category := 0, Power := 0, Claimed := 0, Jumps := ([] : List Int), Lines := ([] : List Line) } : Log)) none 0 none 0 Wn (.inl rfl) Wn (.inl rfl) x2 hs51 _ hr98) ?_
         rintro _ F7 w100 _ hs101 le102 ⟨ar97_0_4, nr97_0_4, ar97_0_5, nr97_0_5, rfl, rfl, hbr97_0_4, hsr97_0_4, hbr97_0_5, hsr97_0_5⟩
         refine ⟨Bd hs101 (le52.t le102) (by simp) (zdT (by kernel_rfl)), ?_⟩
         refine Dv [7] ?_
         obtain rfl := Aa h99
         exact Ww (by kernel_rfl) ⟨F7, hs101.dr0, (le52.t le102), fI⟩
        ·cases h96
   ·rintro f w40 ⟨F1, hs41, le42, ⟨_, rfl⟩⟩
    refine Ab <| Sq (Rg (rG 5) ?_)
    refine Vs 1 <| Ld hs41.at1 <| Vs 2 <| St1 #[(vi x1.at_), (vi (W64 (x1.stage_ + 1))), (vi x1.num_), (vi x1.minute_)] hs41 (fun w104 hs105 => ?_)
    refine Nss (Rg (rG 4) ?_)
    refine Ld hs105.at1 <| Vs 1 <| St0 #[(vi x1.at_), (vi (W64 (x1.stage_ + 1))), (vi x1.num_), (vi x1.minute_)] hs105 (fun w106 hs107 => ?_)
    refine Vs 1 <| Nt <| Rt <| Ax <| Ae ?_
    obtain rfl := Aa h49
    exact ⟨rfl, (.tuple #[(.agg #[(vi x1.at_), (vi (W64 (x1.stage_ + 1))), (vi x1.num_), (vi x1.minute_)]), (.bool j43)]), AW (l := [.cell 6 143, .tmp 7]) (by kernel_rfl) (vs := [(.agg #[(vi x1.at_), (vi (W64 (x1.stage_ + 1))), (vi x1.num_), (vi x1.minute_)]), (.bool j43)]) ⟨b24, 0, rfl, Am (t := 143) (g := true) (s := 4) (by kernel_rfl) hs107.at0 rfl (by decide), ⟨rfl, trivial⟩⟩, F1, _, _, rfl, hs107.dr0.dr0, le42, ⟨a0_3, n0_3, e0_4, e0_5, rfl, rfl, hb0_3, (Wm hs0_3 le42), (hr0_4.mono le42), (hr0_5.mono le42)⟩⟩
  ·refine Sq (Rg [0, 1, 2] ?_)
   refine Vs 3 <| Nt <| Cd h37 (fun hb108 h109 => ?_) (fun hb108 h110 => ?_)
   ·refine Sq (Rg (rG 5) ?_)
    refine Vs 1 <| Ld hs29.at2 <| Vs 1 <| St1 #[(vi x1.at_), (vi 6), (vi 0), (vi 0)] hs29 (fun w111 hs112 => ?_)
    refine Vs 1 <| Nt <| Rt <| Ax <| Ae ?_
    obtain rfl := Aa h109
    exact ⟨rfl, (.tuple #[(.agg #[(vi x1.at_), (vi 6), (vi 0), (vi 0)]), (.bool true)]), AW (l := [.cell 6 143, .tmp 7]) (by kernel_rfl) (vs := [(.agg #[(vi x1.at_), (vi 6), (vi 0), (vi 0)]), (.bool true)]) ⟨b24, 0, rfl, Am (t := 143) (g := true) (s := 4) (by kernel_rfl) hs112.at1 rfl (by decide), ⟨rfl, trivial⟩⟩, F0, _, _, rfl, hs112.dr0.dr0.dr0, (Wk _), ⟨a0_3, n0_3, e0_4, e0_5, rfl, rfl, hb0_3, hs0_3, hr0_4, hr0_5⟩⟩
   ·refine Sc ?_
    refine Au <| Ab <| Sq (Rg (rG 5) ?_)
    refine Vs 2 ?_
    have hs113 := hs29.pk2.pk2.pk2.pk5.pk5.pk5
    obtain ⟨r114, hr115, h116⟩ := bind_some h110
    refine CB G4 (HB N hG bp0 x0 a0_3 n0_3 mb0_4 e0_4 mb0_5 e0_5 hb0_3 hs0_3 hr0_4 hr0_5 x2 hs113 _ hr115) ?_
    rintro _ F8 w117 _ hs118 le119 ⟨ar114_0_3, nr114_0_3, er114_0_4, er114_0_5, rfl, rfl, hbr114_0_3, hsr114_0_3, hrr114_0_4, hrr114_0_5⟩
    refine Al' 243 #[(vi 0), (vi 0), (vi 0), (vi 0), (sv (([] : WE))), (vi 0), (vi 0), (vi 0), (vi 0), (vi 0), (vi 0), (.bool false)] hs118 (fun b121 w122 hs123 => ?_)
    refine St0 (EH r114.2) hs123 (fun w124 hs125 => ?_)
    refine Nss ?_
    obtain ⟨j131, hj135, h136⟩ := bind_some h116
    refine RD 31 31 [(sb b121 (EH r114.2) 243), (sb bp0 #[(.bool r114.1.o_.Report), (.bool r114.1.o_.Serial), (.bool r114.1.o_.Zone), (.slice ar114_0_3 r114.1.lines_.length nr114_0_3), (.map (some mb0_4)), (.map (some mb0_5))] 148), er114_0_4, er114_0_5, (sb b27 #[(sv (([] : WE))), (vi 0), (vi 0), (vi 0), (.slice none ([] : List Int).length 0), (.slice none ([] : List Line).length 0)] 27), (sb b21 (Ah x1) 143)] [] hs125 (fun f w => ∃ (F9 : Mem), HS wb Fb w F9 ((sb bp0 #[(.bool r114.1.o_.Report), (.bool r114.1.o_.Serial), (.bool r114.1.o_.Zone), (.slice ar114_0_3 r114.1.lines_.length nr114_0_3), (.map (some mb0_4)), (.map (some mb0_5))] 148) :: er114_0_4 :: er114_0_5 :: (sb b24 #[(vi j131.2.1), (vi j131.2.2.1), (vi j131.2.2.2.1), (vi j131.2.2.2.2)] 143) :: Lf) /\ Wj F8 F9 /\ FI f [] [(6, (pt b24 0)), (7, (.bool j131.1))]) (fun wd126 hw127 => ?_) ?_
    ·refine Dvl [0] (tf 1 30) ?_
     refine Dl 1 (fun _ hq => (hq.1.2 5 _ _ rfl)) <| Dvl [2] (tf 3 28) <| Dl 3 (fun _ hq => (hq.1.2 5 _ _ rfl)) <| Dvl [4, 5] (tf 6 25) <| Dl 6 (fun _ hq => (hq.1.2 0 _ _ rfl)) <| Dvl [7, 8] (tf 9 22) <| Dl 9 (fun _ hq => (hq.1.2 0 _ _ rfl)) <| Dvl [10, 11] (tf 12 19) <| Dl 12 (fun _ hq => (hq.1.2 0 _ _ rfl)) <| Dvl [13] (tf 14 17) <| Sd hj135 (fun hb137 h138 => ?_) (fun hb137 h139 => ?_)
     ·refine Dgl 14 56 0 (pt b121 0) (tf 15 16) 13 true 55 hb137 (fun _ hq => fa 243 10 0 0 11 b121 0 0) ?_
      refine Dgl 15 57 0 (pt b121 0) (tf 16 15) 13 true 55 hb137 (fun _ hq => fa 34 56 0 0 1 b121 0 0) <| Dgl 16 58 3 _ (tf 17 14) 13 true 55 hb137 (fun _ hq => ld 3 57 b121 0 false 1 (vi r114.2.x_.Num) (hq.1.2 0 _ _ rfl)) <| Dgl 17 59 0 (pt b21 2) (tf 18 13) 13 true 55 hb137 (fun _ hq => fa 143 4 2 2 1 b21 0 2) <| Dgl 18 60 3 _ (tf 19 12) 13 true 55 hb137 (fun _ hq => ld 3 59 b21 2 false 1 (vi x1.num_) (hq.1.2 5 _ _ rfl)) <| Dgl 19 61 4 (.bool (decide (r114.2.x_.Num > x1.num_))) (tf 20 11) 13 true 55 hb137 (fun _ hq => N6 (t := 3) (t' := 3) (x := (.tmp 58)) (y := (.tmp 60)) (k := .i64) (a := r114.2.x_.Num) (b := x1.num_) rfl rfl) <| Dtl 20 62 4 _ (tf 21 10) (fun _ hq => p1 55 (.tmp 61) (.const (.bool false)) (.bool (decide (r114.2.x_.Num > x1.num_))) hb137) <| Dvl [21] (tf 22 9) <| Sd h138 (fun hb140 h141 => ?_) (fun hb140 h142 => ?_)
      ·refine Dgl 22 64 0 (pt b121 0) (tf 23 8) 21 true 63 hb140 (fun _ hq => fa 243 10 0 0 11 b121 0 0) ?_
       refine Dgl 23 65 0 (pt b121 3) (tf 24 7) 21 true 63 hb140 (fun _ hq => fa 34 64 3 3 1 b121 0 3) <| Dgl 24 66 3 _ (tf 25 6) 21 true 63 hb140 (fun _ hq => ld 3 65 b121 3 false 1 (vi r114.2.x_.Minute) (hq.1.2 0 _ _ rfl)) <| Dgl 25 67 0 (pt b21 3) (tf 26 5) 21 true 63 hb140 (fun _ hq => fa 143 4 3 3 1 b21 0 3) <| Dgl 26 68 3 _ (tf 27 4) 21 true 63 hb140 (fun _ hq => ld 3 67 b21 3 false 1 (vi x1.minute_) (hq.1.2 5 _ _ rfl)) <| Dgl 27 69 4 (.bool (decide (r114.2.x_.Minute >= x1.minute_))) (tf 28 3) 21 true 63 hb140 (fun _ hq => QF (t := 3) (t' := 3) (x := (.tmp 66)) (y := (.tmp 68)) (k := .i64) (a := r114.2.x_.Minute) (b := x1.minute_) rfl rfl) <| Dtl 28 70 4 _ (tf 29 2) (fun _ hq => p1 63 (.tmp 69) (.const (.bool false)) (.bool (decide (r114.2.x_.Minute >= x1.minute_))) hb140) <| D1 29 <| R6 #[(vi x1.at_), (vi x1.stage_), (vi r114.2.x_.Num), (vi r114.2.x_.Minute)] hw127 (Wk _) (fun w143 hs144 => ?_)
       refine Dvl [30] (tf 31 0) ?_
       obtain rfl := Aa h141
       exact Ww (by kernel_rfl) ⟨F8, hs144.dr0.dr3.dr4, (Wk _), fI⟩
      ·cases h142
     ·refine Dkl [(14, 56), (15, 57), (16, 58), (17, 59), (18, 60), (19, 61)] 13 true 55 hb137 (tf 20 11) ?_
      refine Dtl 20 62 4 _ (tf 21 10) (fun _ hq => p0 55 (.tmp 61) (.const (.bool false)) (.bool false) hb137) <| Dvl [21] (tf 22 9) <| Dkl [(22, 64), (23, 65), (24, 66), (25, 67), (26, 68), (27, 69)] 21 true 63 rfl (tf 28 3) <| Dtl 28 70 4 _ (tf 29 2) (fun _ hq => p0 63 (.tmp 69) (.const (.bool false)) (.bool false) rfl) <| D1 29 <| R6 #[(vi x1.at_), (vi x1.stage_), (vi r114.2.x_.Num), (vi r114.2.x_.Minute)] hw127 (Wk _) (fun w145 hs146 => ?_)
      refine Dvl [30] (tf 31 0) ?_
      obtain rfl := Aa h139
      exact Ww (by kernel_rfl) ⟨F8, hs146.dr0.dr3.dr4, (Wk _), fI⟩
    ·rintro f w128 ⟨F9, hs129, le130, ⟨_, rfl⟩⟩
     refine Ab <| Rt ?_
     obtain rfl := Aa h136
     exact ⟨rfl, (.tuple #[(.agg #[(vi j131.2.1), (vi j131.2.2.1), (vi j131.2.2.2.1), (vi j131.2.2.2.2)]), (.bool j131.1)]), AW (l := [.cell 6 143, .tmp 7]) (by kernel_rfl) (vs := [(.agg #[(vi j131.2.1), (vi j131.2.2.1), (vi j131.2.2.2.1), (vi j131.2.2.2.2)]), (.bool j131.1)]) ⟨b24, 0, rfl, Am (t := 143) (g := true) (s := 4) (by kernel_rfl) hs129.at3 rfl (by decide), ⟨rfl, trivial⟩⟩, F9, _, _, rfl, hs129.dr3, (le119.t le130), ⟨ar114_0_3, nr114_0_3, er114_0_4, er114_0_5, rfl, rfl, hbr114_0_3, (Wm hsr114_0_3 le130), (hrr114_0_4.mono le130), (hrr114_0_5.mono le130)⟩⟩
def JT (N : Nat) (x0 : WE) : (List Int × Int) -> Option (Bt WE (List Int × Int)) := fun s26 =>
 (bif (decide (s26.2 < (x0.length : Int))) then ((Rm x0 s26.2).bind fun c50 => ((AU N (W64 c50) 97 122).bind fun r53 => ((bif ((bif r53 then (IntKind.u8.wrap (c50 - 32)) else (bif ((c50 == 9) || (c50 == 13)) then 32 else c50)) != 32) then some true else (bif (decide ((s26.1.length : Int) > 0)) then ((idx s26.1 (W64 ((s26.1.length : Int) - 1))).bind fun x102 => some (x102 != 32)) else none)).bind fun j86 => (bif j86 then ((D3 s26.1 [(bif r53 then (IntKind.u8.wrap (c50 - 32)) else (bif ((c50 == 9) || (c50 == 13)) then 32 else c50))]).bind fun r122 => some (.next (r122, (W64 (s26.2 + 1))))) else none)))) else some (.done (s26.1, s26.2)))
def Ku (N : Nat) (x0 : WE) : Option WE :=
 ((AX (JT N x0) N (([] : List Int), 0)).bind fun o => o.k (fun r => some r) (fun s35 => ((strings_TrimSuffix N (toB s35.1) ([32] : WE)).bind fun r134 => some r134)))
theorem J8 : Af Tryz.prog 38 := fun _ _ => by kernel_rfl
theorem Le (N : Nat) (w0 : World) (F0 : Mem) (hF : WG w0 F0) (x0 : WE) (r : WE) (h : Ku N x0 = some r) :
  Calls Tryz.prog 38 ([(sv x0)] : List Value).toArray w0 (AB w0 F0 fun F' v => v = (sv r)) := by
 have hs0 := Wl hF
 refine Go 51 Tryz.func38 <| Sq (Rg [0] ?_)
 refine Vs 1 <| Nss (Rg [0] ?_)
 refine Vs 1 <| Nss <| Sq (Rg [0, 1, 2] ?_)
 refine Vs 3 <| Nt ?_
 have hs21 := hs0.dummy (oc #[] 0)
 obtain ⟨o23, ho24, h25⟩ := bind_some h
 refine Wq (fun f w => ∃ (s35 : (List Int × Int)) (F2 : Mem) (as35_0 : WF) (ns35_0 : Nat) (es35_0 : Option Nat × Obj), o23 = .done s35 /\ HS w0 F0 w F2 [es35_0] /\ Wj F0 F2 /\ FI f [] [(3, (.slice as35_0 s35.1.length ns35_0))] /\ Av tU8 5 F2 as35_0 ns35_0 s35.1 es35_0) ?_ ?_
 ·refine Bk ?_
  refine Wi (by kernel_rfl) (fun m f w => ∃ (s26 : (List Int × Int)) (F1 : Mem) (as26_0 : WF) (ns26_0 : Nat) (es26_0 : Option Nat × Obj), AX (JT N x0) m s26 = some o23 /\ HS w0 F0 w F1 [es26_0] /\ Wj F0 F1 /\ FI f [] [(0, (sv x0)), (3, (.slice as26_0 s26.1.length ns26_0)), (7, (vi (x0.length : Int))), (8, (vi s26.2))] /\ Av tU8 5 F1 as26_0 ns26_0 s26.1 es26_0) N ⟨(([] : List Int), 0), F0, none, 0, (none, .cells #[] 0 (0, 0)), ho24, hs21, (Wk _), fI, (Wy tU8 5 F0 _)⟩ ?_
  rintro m41 f w27 ⟨s26, F1, as26_0, ns26_0, es26_0, hit42, hs28, le29, ⟨_, rfl⟩, hrs26_0⟩
  obtain ⟨m43, fl44, rfl, hb45, hnx46⟩ := AN hit42
  refine Sq (Rg [0] ?_)
  refine Vs 1 <| Nss <| Cd hb45 (fun hb47 h48 => ?_) (fun hb47 h49 => ?_)
  ·refine Sc ?_
   refine Ab <| Sq <| Bk <| Sq (Rg [0, 1] ?_)
   refine Vs 2 <| Nss (Rg (rG 4) ?_)
   refine Vs 2 ?_
   obtain ⟨c50, hr51, h52⟩ := bind_some h48
   refine V 13 5 (OT (t := 9) (x := (.tmp 11)) (y := (.tmp 12)) (a := x0) (k := .i64) (i := s26.2) (v := c50) rfl rfl (by kernel_rfl) hr51) <| Vs 1 <| Nss <| Bk <| Sq (Rg (rG 4) ?_)
   refine Vs 2 ?_
   obtain ⟨r53, hr54, h55⟩ := bind_some h52
   refine Cl' AE hs28 (AL N w27 F1 hs28.pers ((W64 c50)) 97 122 _ hr54) ?_
   rintro _ F3 w57 hs58 le59 rfl
   refine Vs 1 <| Nt <| Wq (fun f w => ∃ (F4 : Mem), HS w0 F0 w F4 [es26_0] /\ Wj F3 F4 /\ FI f [] [(0, (sv x0)), (3, (.slice as26_0 s26.1.length ns26_0)), (5, (.int .u8 (bif r53 then (IntKind.u8.wrap (c50 - 32)) else (bif ((c50 == 9) || (c50 == 13)) then 32 else c50)))), (7, (vi (x0.length : Int))), (8, (vi s26.2))]) ?_ ?_
   ·refine Cp r53 (fun hb70 => ?_) (fun hb70 => ?_)
    ·refine Rg [0, 1, 2] ?_
     refine Vs 3 <| Wf ?_
     exact .inl ⟨rfl, F3, hs58, (Wk _), (fJ ⟨rfl, rfl, (congrArg (Value.int .u8) (UI hb70 rfl)), rfl, rfl, trivial⟩)⟩
    ·refine Sq (Rg (rG 7) ?_)
     refine Wp (fun f w => ∃ (F5 : Mem), HS w0 F0 w F5 [es26_0] /\ Wj F3 F5 /\ FI f [] [(0, (sv x0)), (3, (.slice as26_0 s26.1.length ns26_0)), (5, (.int .u8 c50)), (7, (vi (x0.length : Int))), (8, (vi s26.2)), (20, (.bool ((c50 == 9) || (c50 == 13))))]) ?_ ?_
     ·refine Vs 3 ?_
      refine Wo (c50 == 9) (fun hb81 => ?_) (fun hb81 => ?_)
      ·refine Ss hb81 2 ?_
       refine Pk1 hb81 <| Vs 1 ?_
       exact Wf ⟨rfl, F3, hs58, (Wk _), (fJ ⟨rfl, rfl, rfl, rfl, rfl, (congrArg Value.bool (Hv hb81 rfl)), trivial⟩)⟩
      ·refine Vgs hb81 2 ?_
       refine Pk0 hb81 <| Vs 1 ?_
       exact Wf ⟨rfl, F3, hs58, (Wk _), (fJ ⟨rfl, rfl, rfl, rfl, rfl, (congrArg Value.bool (Da hb81 rfl)), trivial⟩)⟩
     ·rintro f w71 ⟨F5, hs72, le73, ⟨_, rfl⟩⟩
      refine Ab <| Cp ((c50 == 9) || (c50 == 13)) (fun hb82 => ?_) (fun hb82 => ?_)
      ·refine Rg [0] ?_
       refine Vs 1 <| Wf ?_
       exact .inl ⟨rfl, F5, hs72, le73, (fJ ⟨rfl, rfl, (congrArg (Value.int .u8) (Ti hb70 (UI hb82 rfl))), rfl, rfl, trivial⟩)⟩
      ·refine Sc ?_
       exact .inl ⟨rfl, F5, hs72, le73, (fJ ⟨rfl, rfl, (congrArg (Value.int .u8) (Ti hb70 (Ti hb82 rfl))), rfl, rfl, trivial⟩)⟩
   ·rintro f w61 ⟨F4, hs62, le63, ⟨_, rfl⟩⟩
    refine Au <| Ab <| Sq (Rg (rG 16) ?_)
    obtain ⟨j86, hj94, h95⟩ := bind_some h55
    refine Wp (fun f w => ∃ (F6 : Mem), HS w0 F0 w F6 [es26_0] /\ Wj F4 F6 /\ FI f [] [(0, (sv x0)), (3, (.slice as26_0 s26.1.length ns26_0)), (5, (.int .u8 (bif r53 then (IntKind.u8.wrap (c50 - 32)) else (bif ((c50 == 9) || (c50 == 13)) then 32 else c50)))), (7, (vi (x0.length : Int))), (8, (vi s26.2)), (42, (.bool j86))]) ?_ ?_
    ·refine Vs 3 ?_
     refine Sp hj94 (fun hb96 h97 => ?_) (fun hb96 h98 => ?_)
     ·refine Ss hb96 4 ?_
      refine Su' 7 <| Ss hb96 1 <| Pk1 hb96 ?_
      obtain rfl := Aa h97
      exact Wf ⟨rfl, F4, hs62, (Wk _), fI⟩
     ·refine Vgs hb96 4 ?_
      refine Sp h98 (fun hb99 h100 => ?_) (fun hb99 h101 => ?_)
      ·refine Vgs hb99 4 ?_
       obtain ⟨x102, hx103, h105⟩ := bind_some h100
       obtain ⟨hi104, hx103'⟩ := Ap hx103
       obtain ⟨b106, C107, rfl, rfl, hE110⟩ := Av.open (hrs26_0.mono (le59.t le63)) hx103'
       have hr111 := (hrs26_0.mono (le59.t le63))
       have hc113 := hE110 _ _ hx103'
       refine Wa hb99 hi104 <| Lxg hb99 0 hs62.at0 hc113 <| Vgs hb99 1 <| Pg1 hb96 hb99 <| Pk0 hb96 ?_
       obtain rfl := Aa h105
       exact Wf ⟨rfl, F4, hs62, (Wk _), fI⟩
      ·cases h101
    ·rintro f w83 ⟨F6, hs84, le85, ⟨_, rfl⟩⟩
     refine Ab <| Cd h95 (fun hb114 h115 => ?_) (fun hb114 h116 => ?_)
     ·refine Rg (rG 5) ?_
      refine Vs 2 <| Bs 5 [(.int .u8 (bif r53 then (IntKind.u8.wrap (c50 - 32)) else (bif ((c50 == 9) || (c50 == 13)) then 32 else c50)))] hs84 (fun b117 w118 hs119 => ?_)
      have hr121 : Av tU8 5 F6 (some ⟨b117, 0, none⟩) 1 [(bif r53 then (IntKind.u8.wrap (c50 - 32)) else (bif ((c50 == 9) || (c50 == 13)) then 32 else c50))] (some b117, .cells ([(.int .u8 (bif r53 then (IntKind.u8.wrap (c50 - 32)) else (bif ((c50 == 9) || (c50 == 13)) then 32 else c50)))] : List Value).toArray 5 (0, 0)) := Wz ⟨rfl, rfl⟩ (by simp)
      obtain ⟨r122, hap123, h124⟩ := bind_some h115
      refine Ap1 oU8 hs119 (hrs26_0.mono ((le59.t le63).trans le85)) (hs119.rd0 hr121) hap123 (fun a125 n126 e127 w128 hs129 hr130 => ?_)
      refine Vs 1 <| Wf <| Au <| Ab <| Rg [0, 1] <| Vs 2 <| Wf ?_
      have hn131 := AO h124 hnx46
      exact ⟨m43, Nat.lt_succ_self _, (r122, (W64 (s26.2 + 1))), F6, a125, n126, e127, hn131, hs129.dr0, (((le29.t le59).trans le63).trans le85), fI, hr130⟩
     ·cases h116
  ·refine Ex ?_
   refine Ar <| Ar <| Az rfl ?_
   have ho132 := AP h49 hnx46
   exact .inl ⟨rfl, (s26.1, s26.2), F1, as26_0, ns26_0, es26_0, ho132, hs28, le29, fI, hrs26_0⟩
 ·rintro f w36 ⟨s35, F2, as35_0, ns35_0, es35_0, rfl, hs37, le38, ⟨_, rfl⟩, hrs35_0⟩
  have h133 := BL h25
  refine Ab <| Sq (Rg (rG 4) ?_)
  refine Vs 1 <| V 49 9 (TN (s := 103) (d := 9) (E := 5) (x := (.tmp 48)) (a := as35_0) (cap := ns35_0) (q := 0) (l := s35.1) rfl (by kernel_rfl) (by kernel_rfl) (by kernel_rfl) hs37 rfl hrs35_0) ?_
  obtain ⟨r134, hr135, h136⟩ := bind_some h133
  refine Cl' Hz hs37 (Ik N w36 F2 hs37.pers ((toB s35.1)) (([32] : WE)) _ hr135) ?_
  rintro _ F7 w138 hs139 le140 rfl
  refine Vs 1 <| Nt <| Rt ?_
  obtain rfl := Aa h136
  exact Re [(sv r134)] hs139 rfl
def EA (N : Nat) (x0 : Al) (x1 : An) (x2 : Int) : Option (Al × An × Et × Bool) :=
 (bif (x2 == 4) then (bif ((x1.stage_ == 0) || (x1.stage_ == 6)) then some (x0, x1, ({ Kind := x2, At := x1.at_, Text := ([] : WE) } : Et), false) else ((Cl N x1.stage_).bind fun r65 => ((CI N x0 x1 r65).bind fun r76 => ((some (r76.2.1.at_, r76.2.1.stage_, r76.2.1.num_, r76.2.1.minute_, x2, x1.at_, r65)).bind fun j93 => some (r76.1, ({ at_ := j93.1, stage_ := j93.2.1, num_ := j93.2.2.1, minute_ := j93.2.2.2.1 } : An), ({ Kind := j93.2.2.2.2.1, At := j93.2.2.2.2.2.1, Text := j93.2.2.2.2.2.2 } : Et), r76.2.2))))) else (bif (x1.at_ == (x0.lines_.length : Int)) then some (x0, x1, ({ Kind := x2, At := x1.at_, Text := ([] : WE) } : Et), false) else ((bif (x2 == 1) then (((idx x0.lines_ x1.at_).bind fun x169 => ((CI N x0 x1 x169).bind fun r184 => some (r184.2.2, r184.2.1.at_, r184.2.1.stage_, r184.2.1.num_, r184.2.1.minute_, r184.1.o_.Report, r184.1.o_.Serial, r184.1.o_.Zone, r184.1.lines_, r184.1.known_, r184.1.read_))).bind fun j159 => some (j159.1, j159.2.1, j159.2.2.1, j159.2.2.2.1, j159.2.2.2.2.1, j159.2.2.2.2.2.1, j159.2.2.2.2.2.2.1, j159.2.2.2.2.2.2.2.1, j159.2.2.2.2.2.2.2.2.1, j159.2.2.2.2.2.2.2.2.2.1, j159.2.2.2.2.2.2.2.2.2.2)) else ((bif (x2 == 2) then (((idx x0.lines_ x1.at_).bind fun x225 => ((Ku N x225).bind fun r239 => ((CI N x0 x1 r239).bind fun r248 => some (r248.2.2, r248.2.1.at_, r248.2.1.stage_, r248.2.1.num_, r248.2.1.minute_, r248.1.o_.Report, r248.1.o_.Serial, r248.1.o_.Zone, r248.1.lines_, r248.1.known_, r248.1.read_)))).bind fun j215 => some (j215.1, j215.2.1, j215.2.2.1, j215.2.2.2.1, j215.2.2.2.2.1, j215.2.2.2.2.2.1, j215.2.2.2.2.2.2.1, j215.2.2.2.2.2.2.2.1, j215.2.2.2.2.2.2.2.2.1, j215.2.2.2.2.2.2.2.2.2.1, j215.2.2.2.2.2.2.2.2.2.2)) else some (true, x1.at_, x1.stage_, x1.num_, x1.minute_, x0.o_.Report, x0.o_.Serial, x0.o_.Zone, x0.lines_, x0.known_, x0.read_)).bind fun j197 => some (j197.1, j197.2.1, j197.2.2.1, j197.2.2.2.1, j197.2.2.2.2.1, j197.2.2.2.2.2.1, j197.2.2.2.2.2.2.1, j197.2.2.2.2.2.2.2.1, j197.2.2.2.2.2.2.2.2.1, j197.2.2.2.2.2.2.2.2.2.1, j197.2.2.2.2.2.2.2.2.2.2))).bind fun j141 => some (({ o_ := ({ Report := j141.2.2.2.2.2.1, Serial := j141.2.2.2.2.2.2.1, Zone := j141.2.2.2.2.2.2.2.1 } : Ac), lines_ := j141.2.2.2.2.2.2.2.2.1, known_ := j141.2.2.2.2.2.2.2.2.2.1, read_ := j141.2.2.2.2.2.2.2.2.2.2 } : Al), ({ at_ := (W64 (x1.at_ + 1)), stage_ := j141.2.2.1, num_ := j141.2.2.2.1, minute_ := j141.2.2.2.2.1 } : An), ({ Kind := x2, At := x1.at_, Text := ([] : WE) } : Et), j141.1))))
theorem Ff : Af Tryz.prog 111 := fun _ _ => by kernel_rfl
theorem Fz (N : Nat) {wb w0 : World} {Fb F0 : Mem} {Lf : Own} (hG : Bz F0) (bp0 : Nat) (x0 : Al) (a0_3 : WF) (n0_3 : Nat) (mb0_4 : Nat) (e0_4 : Option Nat × Obj) (mb0_5 : Nat) (e0_5 : Option Nat × Obj) (hb0_3 : LC x0.lines_.length n0_3) (hs0_3 : SlA AM F0 a0_3 x0.lines_) (hr0_4 : Bb Ay AD F0 mb0_4 x0.known_ e0_4) (hr0_5 : Bb AM As F0 mb0_5 x0.read_ e0_5) (x1 : An) (x2 : Int) (hs0 : HS wb Fb w0 F0 ((sb bp0 #[(.bool x0.o_.Report), (.bool x0.o_.Serial), (.bool x0.o_.Zone), (.slice a0_3 x0.lines_.length n0_3), (.map (some mb0_4)), (.map (some mb0_5))] 148) :: e0_4 :: e0_5 :: Lf)) (r : (Al × An × Et × Bool)) (h : EA N x0 x1 x2 = some r) :
  Calls Tryz.prog 111 ([(pt bp0 0), (.agg (Ah x1)), (vi x2)] : List Value).toArray w0 (EE wb Fb F0 fun F' v L' => ∃ (aq0_3 : WF) (nq0_3 : Nat) (eq0_4 : Option Nat × Obj) (eq0_5 : Option Nat × Obj), v = (.tuple #[(.agg (Ah r.2.1)), (.agg (FV r.2.2.1)), (.bool r.2.2.2)]) /\ L' = (sb bp0 #[(.bool r.1.o_.Report), (.bool r.1.o_.Serial), (.bool r.1.o_.Zone), (.slice aq0_3 r.1.lines_.length nq0_3), (.map (some mb0_4)), (.map (some mb0_5))] 148) :: eq0_4 :: eq0_5 :: Lf /\ LC r.1.lines_.length nq0_3 /\ SlA AM F' aq0_3 r.1.lines_ /\ Bb Ay AD F' mb0_4 r.1.known_ eq0_4 /\ Bb AM As F' mb0_5 r.1.read_ eq0_5) := by
 refine Go 97 Tryz.func111 <| Sq (Rg (rG 4) ?_)
 refine Bx' 143 (Ah x1) hs0 (fun b21 w22 hs23 => ?_)
 refine Al' 143 #[(vi 0), (vi 0), (vi 0), (vi 0)] hs23 (fun b24 w25 hs26 => ?_)
 refine Al' 150 #[(vi 0), (vi 0), (sv (([] : WE)))] hs26 (fun b27 w28 hs29 => ?_)
 refine Vs 1 <| Nss (Rg (rG 6) ?_)
 refine Vs 2 <| Ld hs29.at2 <| Vs 1 <| Al' 150 #[(vi 0), (vi 0), (sv (([] : WE)))] hs29 (fun b30 w31 hs32 => ?_)
 refine St0 #[(vi x2), (vi x1.at_), (sv (([] : WE)))] hs32 (fun w33 hs34 => ?_)
 refine Nss <| Sq (Rg [0, 1] ?_)
 refine Vs 2 <| Nt <| Cd h (fun hb35 h36 => ?_) (fun hb35 h37 => ?_)
 ·refine Sq ?_
  refine Sq (Rg (rG 8) ?_)
  refine Wp (fun f w => ∃ (F1 : Mem), HS wb Fb w F1 ((sb b30 #[(vi x2), (vi x1.at_), (sv (([] : WE)))] 150) :: (sb b27 #[(vi 0), (vi 0), (sv (([] : WE)))] 150) :: (sb b24 #[(vi 0), (vi 0), (vi 0), (vi 0)] 143) :: (sb b21 (Ah x1) 143) :: (sb bp0 #[(.bool x0.o_.Report), (.bool x0.o_.Serial), (.bool x0.o_.Zone), (.slice a0_3 x0.lines_.length n0_3), (.map (some mb0_4)), (.map (some mb0_5))] 148) :: e0_4 :: e0_5 :: Lf) /\ Wj F0 F1 /\ FI f [] [(0, (pt bp0 0)), (4, (pt b21 0)), (6, (pt b24 0)), (7, (pt b27 0)), (9, (pt b30 0)), (27, (.bool ((x1.stage_ == 0) || (x1.stage_ == 6))))]) ?_ ?_
  ·refine Vs 1 ?_
   refine Ld hs34.at3 <| Vs 2 <| Wo (x1.stage_ == 0) (fun hb48 => ?_) (fun hb48 => ?_)
   ·refine Ss hb48 3 ?_
    refine Pk1 hb48 ?_
    exact Wf ⟨rfl, F0, hs34, (Wk _), (fJ ⟨rfl, rfl, rfl, rfl, rfl, (congrArg Value.bool (Hv hb48 rfl)), trivial⟩)⟩
   ·refine Vgs hb48 1 ?_
    refine Lg hb48 hs34.at3 <| Vgs hb48 1 <| Pk0 hb48 ?_
    exact Wf ⟨rfl, F0, hs34, (Wk _), (fJ ⟨rfl, rfl, rfl, rfl, rfl, (congrArg Value.bool (Da hb48 rfl)), trivial⟩)⟩
  ·rintro f w38 ⟨F1, hs39, le40, ⟨_, rfl⟩⟩
   refine Ab <| Cd h36 (fun hb49 h50 => ?_) (fun hb49 h51 => ?_)
   ·refine Sq ?_
    refine RD 5 5 [(sb b30 #[(vi x2), (vi x1.at_), (sv (([] : WE)))] 150), (sb b21 (Ah x1) 143), (sb bp0 #[(.bool x0.o_.Report), (.bool x0.o_.Serial), (.bool x0.o_.Zone), (.slice a0_3 x0.lines_.length n0_3), (.map (some mb0_4)), (.map (some mb0_5))] 148), e0_4, e0_5] [] hs39 (fun f w => ∃ (F2 : Mem), HS wb Fb w F2 ((sb b27 #[(vi x2), (vi x1.at_), (sv (([] : WE)))] 150) :: (sb b24 (Ah x1) 143) :: (sb bp0 #[(.bool x0.o_.Report), (.bool x0.o_.Serial), (.bool x0.o_.Zone), (.slice a0_3 x0.lines_.length n0_3), (.map (some mb0_4)), (.map (some mb0_5))] 148) :: e0_4 :: e0_5 :: Lf) /\ Wj F1 F2 /\ FI f [] [(6, (pt b24 0)), (7, (pt b27 0)), (8, (.bool false))]) (fun wd52 hw53 => ?_) ?_
    ·refine Dl 0 (fun _ hq => (hq.1.2 1 _ _ rfl)) ?_
     refine Dl 1 (fun _ hq => (hq.1.2 0 _ _ rfl)) <| D1 2 <| Nx (Ah x1) hw53 (Wk _) (fun w61 hs62 => ?_)
     refine D1 3 <| Ly #[(vi x2), (vi x1.at_), (sv (([] : WE)))] hs62 (Wk _) (fun w63 hs64 => ?_)
     refine Dv [4] ?_
     exact Ww (by kernel_rfl) ⟨F1, hs64.dr0.dr2, (Wk _), fI⟩
    ·rintro f w54 ⟨F2, hs55, le56, ⟨_, rfl⟩⟩
     refine Ab <| Rt <| Ae <| Ae ?_
     obtain rfl := Aa h50
     exact ⟨rfl, (.tuple #[(.agg (Ah x1)), (.agg #[(vi x2), (vi x1.at_), (sv (([] : WE)))]), (.bool false)]), AW (l := [.cell 6 143, .cell 7 150, .tmp 8]) (by kernel_rfl) (vs := [(.agg (Ah x1)), (.agg #[(vi x2), (vi x1.at_), (sv (([] : WE)))]), (.bool false)]) ⟨b24, 0, rfl, Am (t := 143) (g := true) (s := 4) (by kernel_rfl) hs55.at1 rfl (by decide), ⟨b27, 0, rfl, Am (t := 150) (g := true) (s := 3) (by kernel_rfl) hs55.at0 rfl (by decide), ⟨rfl, trivial⟩⟩⟩, F2, _, _, rfl, hs55.dr0.dr0, (le40.t le56), ⟨a0_3, n0_3, e0_4, e0_5, rfl, rfl, hb0_3, (Wm hs0_3 (le40.t le56)), (hr0_4.mono (le40.t le56)), (hr0_5.mono (le40.t le56))⟩⟩
   ·refine Sc ?_
    refine Ab <| Sq (Rg (rG 5) ?_)
    refine Vs 1 <| Ld hs39.at3 ?_
    obtain ⟨r65, hr66, h67⟩ := bind_some h51
    refine Cl' BX hs39 (B9 N w38 F1 hs39.pers x1.stage_ _ hr66) ?_
    rintro _ F3 w69 hs70 le71 rfl
    refine Vs 1 <| St0 #[(vi x2), (vi x1.at_), (sv r65)] hs70 (fun w73 hs74 => ?_)
    refine Nss (Rg (rG 11) ?_)
    refine Vs 1 <| Ld hs74.at3 <| Vs 1 <| Ld hs74.at0 ?_
    have hs75 := hs74.pk3.pk3.pk3.pk3.pk6.pk6
    obtain ⟨r76, hr77, h78⟩ := bind_some h67
    refine CB CY (Dj N (hG.mono (le40.t le71)) bp0 x0 a0_3 n0_3 mb0_4 e0_4 mb0_5 e0_5 hb0_3 (Wm hs0_3 (le40.t le71)) (hr0_4.mono (le40.t le71)) (hr0_5.mono (le40.t le71)) x1 r65 hs75.pk6 _ hr77) ?_
    rintro _ F4 w79 _ hs80 le81 ⟨ar76_0_3, nr76_0_3, er76_0_4, er76_0_5, rfl, rfl, hbr76_0_3, hsr76_0_3, hrr76_0_4, hrr76_0_5⟩
    refine Vs 3 <| Al' 143 #[(vi 0), (vi 0), (vi 0), (vi 0)] hs80 (fun b83 w84 hs85 => ?_)
    refine St0 (Ah r76.2.1) hs85 (fun w86 hs87 => ?_)
    refine Vs 1 <| Nss ?_
    obtain ⟨j93, hj98, h99⟩ := bind_some h78
    refine RD 6 6 [(sb b83 (Ah r76.2.1) 143), (sb bp0 #[(.bool r76.1.o_.Report), (.bool r76.1.o_.Serial), (.bool r76.1.o_.Zone), (.slice ar76_0_3 r76.1.lines_.length nr76_0_3), (.map (some mb0_4)), (.map (some mb0_5))] 148), er76_0_4, er76_0_5, (sb b30 #[(vi x2), (vi x1.at_), (sv r65)] 150), (sb b21 (Ah x1) 143)] [] hs87 (fun f w => ∃ (F5 : Mem), HS wb Fb w F5 ((sb bp0 #[(.bool r76.1.o_.Report), (.bool r76.1.o_.Serial), (.bool r76.1.o_.Zone), (.slice ar76_0_3 r76.1.lines_.length nr76_0_3), (.map (some mb0_4)), (.map (some mb0_5))] 148) :: er76_0_4 :: er76_0_5 :: (sb b27 #[(vi j93.2.2.2.2.1), (vi j93.2.2.2.2.2.1), (sv j93.2.2.2.2.2.2)] 150) :: (sb b24 #[(vi j93.1), (vi j93.2.1), (vi j93.2.2.1), (vi j93.2.2.2.1)] 143) :: Lf) /\ Wj F4 F5 /\ FI f [] [(6, (pt b24 0)), (7, (pt b27 0)), (8, (.bool r76.2.2))]) (fun wd88 hw89 => ?_) ?_
    ·refine Dl 0 (fun _ hq => (hq.1.2 0 _ _ rfl)) ?_
     refine Dl 1 (fun _ hq => (hq.1.2 4 _ _ rfl)) <| Dv [2] <| D1 3 <| Ux (Ah r76.2.1) hw89 (Wk _) (fun w100 hs101 => ?_)
     refine D1 4 <| R6 #[(vi x2), (vi x1.at_), (sv r65)] hs101 (Wk _) (fun w102 hs103 => ?_)
     refine Dv [5] ?_
     obtain rfl := Aa hj98
     exact Ww (by kernel_rfl) ⟨F4, hs103.dr0.dr3.dr5, (Wk _), fI⟩
    ·rintro f w90 ⟨F5, hs91, le92, ⟨_, rfl⟩⟩
     refine Ab <| Rt <| Ae ?_
     obtain rfl := Aa h99
     exact ⟨rfl, (.tuple #[(.agg #[(vi j93.1), (vi j93.2.1), (vi j93.2.2.1), (vi j93.2.2.2.1)]), (.agg #[(vi j93.2.2.2.2.1), (vi j93.2.2.2.2.2.1), (sv j93.2.2.2.2.2.2)]), (.bool r76.2.2)]), AW (l := [.cell 6 143, .cell 7 150, .tmp 8]) (by kernel_rfl) (vs := [(.agg #[(vi j93.1), (vi j93.2.1), (vi j93.2.2.1), (vi j93.2.2.2.1)]), (.agg #[(vi j93.2.2.2.2.1), (vi j93.2.2.2.2.2.1), (sv j93.2.2.2.2.2.2)]), (.bool r76.2.2)]) ⟨b24, 0, rfl, Am (t := 143) (g := true) (s := 4) (by kernel_rfl) hs91.at4 rfl (by decide), ⟨b27, 0, rfl, Am (t := 150) (g := true) (s := 3) (by kernel_rfl) hs91.at3 rfl (by decide), ⟨rfl, trivial⟩⟩⟩, F5, _, _, rfl, hs91.dr3.dr3, (((le40.t le71).trans le81).trans le92), ⟨ar76_0_3, nr76_0_3, er76_0_4, er76_0_5, rfl, rfl, hbr76_0_3, (Wm hsr76_0_3 le92), (hrr76_0_4.mono le92), (hrr76_0_5.mono le92)⟩⟩
 ·refine Sc ?_
  refine Ab <| Sq <| Sq <| RD 8 8 [(sb b30 #[(vi x2), (vi x1.at_), (sv (([] : WE)))] 150), (sb b27 #[(vi 0), (vi 0), (sv (([] : WE)))] 150), (sb b24 #[(vi 0), (vi 0), (vi 0), (vi 0)] 143), (sb b21 (Ah x1) 143), (sb bp0 #[(.bool x0.o_.Report), (.bool x0.o_.Serial), (.bool x0.o_.Zone), (.slice a0_3 x0.lines_.length n0_3), (.map (some mb0_4)), (.map (some mb0_5))] 148), e0_4, e0_5] [] hs34 (fun f w => ∃ (F6 : Mem), HS wb Fb w F6 ((sb b30 #[(vi x2), (vi x1.at_), (sv (([] : WE)))] 150) :: (sb b27 #[(vi 0), (vi 0), (sv (([] : WE)))] 150) :: (sb b24 #[(vi 0), (vi 0), (vi 0), (vi 0)] 143) :: (sb b21 (Ah x1) 143) :: (sb bp0 #[(.bool x0.o_.Report), (.bool x0.o_.Serial), (.bool x0.o_.Zone), (.slice a0_3 x0.lines_.length n0_3), (.map (some mb0_4)), (.map (some mb0_5))] 148) :: e0_4 :: e0_5 :: Lf) /\ Wj F0 F6 /\ FI f [] [(0, (pt bp0 0)), (2, (vi x2)), (4, (pt b21 0)), (6, (pt b24 0)), (7, (pt b27 0)), (9, (pt b30 0)), (52, (.bool (x1.at_ == (x0.lines_.length : Int))))]) (fun wd104 hw105 => ?_) ?_
  ·refine Dv [0] ?_
   refine Dl 1 (fun _ hq => (hq.1.2 3 _ _ rfl)) <| Dv [2, 3, 4] <| Dl 5 (fun _ hq => (hq.1.2 4 _ _ rfl)) <| Dv [6, 7] ?_
   exact Ww (by kernel_rfl) ⟨F0, hw105, (Wk _), fI⟩
  ·rintro f w106 ⟨F6, hs107, le108, ⟨_, rfl⟩⟩
   refine Ab <| Cd h37 (fun hb117 h118 => ?_) (fun hb117 h119 => ?_)
   ·refine Sq ?_
    refine RD 5 5 [(sb b30 #[(vi x2), (vi x1.at_), (sv (([] : WE)))] 150), (sb b21 (Ah x1) 143), (sb bp0 #[(.bool x0.o_.Report), (.bool x0.o_.Serial), (.bool x0.o_.Zone), (.slice a0_3 x0.lines_.length n0_3), (.map (some mb0_4)), (.map (some mb0_5))] 148), e0_4, e0_5] [] hs107 (fun f w => ∃ (F7 : Mem), HS wb Fb w F7 ((sb b27 #[(vi x2), (vi x1.at_), (sv (([] : WE)))] 150) :: (sb b24 (Ah x1) 143) :: (sb bp0 #[(.bool x0.o_.Report), (.bool x0.o_.Serial), (.bool x0.o_.Zone), (.slice a0_3 x0.lines_.length n0_3), (.map (some mb0_4)), (.map (some mb0_5))] 148) :: e0_4 :: e0_5 :: Lf) /\ Wj F6 F7 /\ FI f [] [(6, (pt b24 0)), (7, (pt b27 0)), (8, (.bool false))]) (fun wd120 hw121 => ?_) ?_
    ·refine Dl 0 (fun _ hq => (hq.1.2 1 _ _ rfl)) ?_
     refine Dl 1 (fun _ hq => (hq.1.2 0 _ _ rfl)) <| D1 2 <| Nx (Ah x1) hw121 (Wk _) (fun w129 hs130 => ?_)
     refine D1 3 <| Ly #[(vi x2), (vi x1.at_), (sv (([] : WE)))] hs130 (Wk _) (fun w131 hs132 => ?_)
     refine Dv [4] ?_
     exact Ww (by kernel_rfl) ⟨F6, hs132.dr0.dr2, (Wk _), fI⟩
    ·rintro f w122 ⟨F7, hs123, le124, ⟨_, rfl⟩⟩
     refine Ab <| Rt <| Ae ?_
     obtain rfl := Aa h118
     exact ⟨rfl, (.tuple #[(.agg (Ah x1)), (.agg #[(vi x2), (vi x1.at_), (sv (([] : WE)))]), (.bool false)]), AW (l := [.cell 6 143, .cell 7 150, .tmp 8]) (by kernel_rfl) (vs := [(.agg (Ah x1)), (.agg #[(vi x2), (vi x1.at_), (sv (([] : WE)))]), (.bool false)]) ⟨b24, 0, rfl, Am (t := 143) (g := true) (s := 4) (by kernel_rfl) hs123.at1 rfl (by decide), ⟨b27, 0, rfl, Am (t := 150) (g := true) (s := 3) (by kernel_rfl) hs123.at0 rfl (by decide), ⟨rfl, trivial⟩⟩⟩, F7, _, _, rfl, hs123.dr0.dr0, (le108.t le124), ⟨a0_3, n0_3, e0_4, e0_5, rfl, rfl, hb0_3, (Wm hs0_3 (le108.t le124)), (hr0_4.mono (le108.t le124)), (hr0_5.mono (le108.t le124))⟩⟩
   ·refine Sc ?_
    refine Ab <| Sq (Rg (rG 4) ?_)
    refine Ld hs107.at3 <| Al' 143 #[(vi 0), (vi 0), (vi 0), (vi 0)] hs107 (fun b133 w134 hs135 => ?_)
    refine St0 (Ah x1) hs135 (fun w136 hs137 => ?_)
    refine Vs 1 <| Nss <| Sq (Rg [0] ?_)
    refine Vs 1 <| Nt <| Bk <| Sq (Rg [0, 1] ?_)
    refine Vs 2 <| Nt ?_
    obtain ⟨j141, hj149, h150⟩ := bind_some h119
    refine Wq (fun f w => ∃ (F8 : Mem) (aj141_8 : WF) (nj141_8 : Nat) (ej141_9 : Option Nat × Obj) (ej141_10 : Option Nat × Obj), HS wb Fb w F8 ((sb b133 #[(vi j141.2.1), (vi j141.2.2.1), (vi j141.2.2.2.1), (vi j141.2.2.2.2.1)] 143) :: (sb b30 #[(vi x2), (vi x1.at_), (sv (([] : WE)))] 150) :: (sb b27 #[(vi 0), (vi 0), (sv (([] : WE)))] 150) :: (sb b24 #[(vi 0), (vi 0), (vi 0), (vi 0)] 143) :: (sb b21 (Ah x1) 143) :: (sb bp0 #[(.bool j141.2.2.2.2.2.1), (.bool j141.2.2.2.2.2.2.1), (.bool j141.2.2.2.2.2.2.2.1), (.slice aj141_8 j141.2.2.2.2.2.2.2.2.1.length nj141_8), (.map (some mb0_4)), (.map (some mb0_5))] 148) :: ej141_9 :: ej141_10 :: Lf) /\ Wj F6 F8 /\ FI f [] [(4, (pt b21 0)), (6, (pt b24 0)), (7, (pt b27 0)), (9, (pt b30 0)), (12, (pt b133 0)), (13, (.bool j141.1))] /\ LC j141.2.2.2.2.2.2.2.2.1.length nj141_8 /\ SlA AM F8 aj141_8 j141.2.2.2.2.2.2.2.2.1 /\ Bb Ay AD F8 mb0_4 j141.2.2.2.2.2.2.2.2.2.1 ej141_9 /\ Bb AM As F8 mb0_5 j141.2.2.2.2.2.2.2.2.2.2 ej141_10) ?_ ?_
    ·refine Cd hj149 (fun hb151 h152 => ?_) (fun hb151 h153 => ?_)
     ·obtain ⟨j159, hj167, h168⟩ := bind_some h152
      refine RD 16 16 [(sb b30 #[(vi x2), (vi x1.at_), (sv (([] : WE)))] 150), (sb b27 #[(vi 0), (vi 0), (sv (([] : WE)))] 150), (sb b24 #[(vi 0), (vi 0), (vi 0), (vi 0)] 143), (sb b21 (Ah x1) 143)] [] hs137 (fun f w => ∃ (F9 : Mem) (aj159_8 : WF) (nj159_8 : Nat) (ej159_9 : Option Nat × Obj) (ej159_10 : Option Nat × Obj), HS wb Fb w F9 ((sb b133 #[(vi j159.2.1), (vi j159.2.2.1), (vi j159.2.2.2.1), (vi j159.2.2.2.2.1)] 143) :: (sb b30 #[(vi x2), (vi x1.at_), (sv (([] : WE)))] 150) :: (sb b27 #[(vi 0), (vi 0), (sv (([] : WE)))] 150) :: (sb b24 #[(vi 0), (vi 0), (vi 0), (vi 0)] 143) :: (sb b21 (Ah x1) 143) :: (sb bp0 #[(.bool j159.2.2.2.2.2.1), (.bool j159.2.2.2.2.2.2.1), (.bool j159.2.2.2.2.2.2.2.1), (.slice aj159_8 j159.2.2.2.2.2.2.2.2.1.length nj159_8), (.map (some mb0_4)), (.map (some mb0_5))] 148) :: ej159_9 :: ej159_10 :: Lf) /\ Wj F6 F9 /\ FI f [] [(4, (pt b21 0)), (6, (pt b24 0)), (7, (pt b27 0)), (9, (pt b30 0)), (12, (pt b133 0)), (13, (.bool j159.1))] /\ LC j159.2.2.2.2.2.2.2.2.1.length nj159_8 /\ SlA AM F9 aj159_8 j159.2.2.2.2.2.2.2.2.1 /\ Bb Ay AD F9 mb0_4 j159.2.2.2.2.2.2.2.2.2.1 ej159_9 /\ Bb AM As F9 mb0_5 j159.2.2.2.2.2.2.2.2.2.2 ej159_10) (fun wd154 hw155 => ?_) ?_
      ·refine Dv [0] ?_
       refine Dl 1 (fun _ hq => (hq.1.2 3 _ _ rfl)) <| Dv [2, 3, 4, 6] <| Dl 7 (fun _ hq => (hq.1.2 3 _ _ rfl)) <| D1 5 <| Wt (l' := [true, true, true, true, true, true, true, true, false, false, false, false, false, false, false, false]) (zd := true) (by kernel_rfl) (by kernel_rfl) (dst := (some 65)) (ty := 55) (g := none) (by kernel_rfl) rfl (BF (t := 55) (x := (.tmp 64)) (b := bp0) (o := 3) (g := false) (s := 1) (C := #[(.bool x0.o_.Report), (.bool x0.o_.Serial), (.bool x0.o_.Zone), (.slice a0_3 x0.lines_.length n0_3), (.map (some mb0_4)), (.map (some mb0_5))]) (v := (.slice a0_3 x0.lines_.length n0_3)) rfl (by kernel_rfl) hw155.at5 rfl rfl rfl) (Bd hw155 (Wk _) (by simp) (fun e => by cases e)) ?_
       obtain ⟨x169, hx170, h172⟩ := bind_some hj167
       obtain ⟨hi171, hx170'⟩ := Ap hx170
       obtain ⟨b173, o174, C175, E176, fz177, rfl, hF179, hE180⟩ := Wr (Wm hs0_3 le108) hx170'
       have hc182 := hE180 _ _ hx170'
       refine Di 8 hi171 <| Dx 9 0 (fun _ hq => hq.1.1 _ _ hF179) hc182 <| D1 10 ?_
       have hs183 := hw155.pk4.pk4.pk4.pk4.pk4
       obtain ⟨r184, hr185, h186⟩ := bind_some h172
       refine DCB CY (Dj N (hG.mono le108) bp0 x0 (some ⟨b173, o174, none⟩) n0_3 mb0_4 e0_4 mb0_5 e0_5 hb0_3 (Wm hs0_3 le108) (hr0_4.mono le108) (hr0_5.mono le108) x1 x169 hs183.pk7.pk7.pk7 _ hr185) ?_
       rintro _ F10 w187 _ hs188 le189 ⟨ar184_0_3, nr184_0_3, er184_0_4, er184_0_5, rfl, rfl, hbr184_0_3, hsr184_0_3, hrr184_0_4, hrr184_0_5⟩
       refine ⟨Bd hs188 le189 (by simp) (zdT (by kernel_rfl)), ?_⟩
       refine Dv [11, 12, 13] <| D1 14 <| Uy (Ah r184.2.1) hs188 le189 (fun w191 hs192 => ?_)
       refine Dv [15] ?_
       obtain rfl := Aa h186
       have hs193 := hs192.pk2.pk2.pk2.pk7.pk7
       exact Ww (by kernel_rfl) ⟨F10, ar184_0_3, nr184_0_3, er184_0_4, er184_0_5, hs193.pk7.pk7.pk7, le189, fI, hbr184_0_3, hsr184_0_3, hrr184_0_4, hrr184_0_5⟩
      ·rintro f w156 ⟨F9, aj159_8, nj159_8, ej159_9, ej159_10, hs157, le158, ⟨_, rfl⟩, hbj159_8, hsj159_8, hrj159_9, hrj159_10⟩
       obtain rfl := Aa h168
       exact .inl ⟨rfl, F9, aj159_8, nj159_8, ej159_9, ej159_10, hs157, le158, fI, hbj159_8, hsj159_8, hrj159_9, hrj159_10⟩
     ·refine Sq (Rg [0, 1] ?_)
      refine Vs 2 <| Nt ?_
      obtain ⟨j197, hj205, h206⟩ := bind_some h153
      refine Wq (fun f w => ∃ (F11 : Mem) (aj197_8 : WF) (nj197_8 : Nat) (ej197_9 : Option Nat × Obj) (ej197_10 : Option Nat × Obj), HS wb Fb w F11 ((sb b133 #[(vi j197.2.1), (vi j197.2.2.1), (vi j197.2.2.2.1), (vi j197.2.2.2.2.1)] 143) :: (sb b30 #[(vi x2), (vi x1.at_), (sv (([] : WE)))] 150) :: (sb b27 #[(vi 0), (vi 0), (sv (([] : WE)))] 150) :: (sb b24 #[(vi 0), (vi 0), (vi 0), (vi 0)] 143) :: (sb b21 (Ah x1) 143) :: (sb bp0 #[(.bool j197.2.2.2.2.2.1), (.bool j197.2.2.2.2.2.2.1), (.bool j197.2.2.2.2.2.2.2.1), (.slice aj197_8 j197.2.2.2.2.2.2.2.2.1.length nj197_8), (.map (some mb0_4)), (.map (some mb0_5))] 148) :: ej197_9 :: ej197_10 :: Lf) /\ Wj F6 F11 /\ FI f [] [(4, (pt b21 0)), (6, (pt b24 0)), (7, (pt b27 0)), (9, (pt b30 0)), (12, (pt b133 0)), (13, (.bool j197.1))] /\ LC j197.2.2.2.2.2.2.2.2.1.length nj197_8 /\ SlA AM F11 aj197_8 j197.2.2.2.2.2.2.2.2.1 /\ Bb Ay AD F11 mb0_4 j197.2.2.2.2.2.2.2.2.2.1 ej197_9 /\ Bb AM As F11 mb0_5 j197.2.2.2.2.2.2.2.2.2.2 ej197_10) ?_ ?_
      ·refine Cd hj205 (fun hb207 h208 => ?_) (fun hb207 h209 => ?_)
       ·obtain ⟨j215, hj223, h224⟩ := bind_some h208
        refine RD 17 17 [(sb b30 #[(vi x2), (vi x1.at_), (sv (([] : WE)))] 150), (sb b27 #[(vi 0), (vi 0), (sv (([] : WE)))] 150), (sb b24 #[(vi 0), (vi 0), (vi 0), (vi 0)] 143), (sb b21 (Ah x1) 143)] [] hs137 (fun f w => ∃ (F12 : Mem) (aj215_8 : WF) (nj215_8 : Nat) (ej215_9 : Option Nat × Obj) (ej215_10 : Option Nat × Obj), HS wb Fb w F12 ((sb b133 #[(vi j215.2.1), (vi j215.2.2.1), (vi j215.2.2.2.1), (vi j215.2.2.2.2.1)] 143) :: (sb b30 #[(vi x2), (vi x1.at_), (sv (([] : WE)))] 150) :: (sb b27 #[(vi 0), (vi 0), (sv (([] : WE)))] 150) :: (sb b24 #[(vi 0), (vi 0), (vi 0), (vi 0)] 143) :: (sb b21 (Ah x1) 143) :: (sb bp0 #[(.bool j215.2.2.2.2.2.1), (.bool j215.2.2.2.2.2.2.1), (.bool j215.2.2.2.2.2.2.2.1), (.slice aj215_8 j215.2.2.2.2.2.2.2.2.1.length nj215_8), (.map (some mb0_4)), (.map (some mb0_5))] 148) :: ej215_9 :: ej215_10 :: Lf) /\ Wj F6 F12 /\ FI f [] [(4, (pt b21 0)), (6, (pt b24 0)), (7, (pt b27 0)), (9, (pt b30 0)), (12, (pt b133 0)), (13, (.bool j215.1))] /\ LC j215.2.2.2.2.2.2.2.2.1.length nj215_8 /\ SlA AM F12 aj215_8 j215.2.2.2.2.2.2.2.2.1 /\ Bb Ay AD F12 mb0_4 j215.2.2.2.2.2.2.2.2.2.1 ej215_9 /\ Bb AM As F12 mb0_5 j215.2.2.2.2.2.2.2.2.2.2 ej215_10) (fun wd210 hw211 => ?_) ?_
        ·refine Dv [0] ?_
         refine Dl 1 (fun _ hq => (hq.1.2 3 _ _ rfl)) <| Dv [2, 3, 4, 6] <| Dl 7 (fun _ hq => (hq.1.2 3 _ _ rfl)) <| D1 5 <| Wt (l' := [true, true, true, true, true, true, true, true, false, false, false, false, false, false, false, false, false]) (zd := true) (by kernel_rfl) (by kernel_rfl) (dst := (some 81)) (ty := 55) (g := none) (by kernel_rfl) rfl (BF (t := 55) (x := (.tmp 80)) (b := bp0) (o := 3) (g := false) (s := 1) (C := #[(.bool x0.o_.Report), (.bool x0.o_.Serial), (.bool x0.o_.Zone), (.slice a0_3 x0.lines_.length n0_3), (.map (some mb0_4)), (.map (some mb0_5))]) (v := (.slice a0_3 x0.lines_.length n0_3)) rfl (by kernel_rfl) hw211.at5 rfl rfl rfl) (Bd hw211 (Wk _) (by simp) (fun e => by cases e)) ?_
         obtain ⟨x225, hx226, h228⟩ := bind_some hj223
         obtain ⟨hi227, hx226'⟩ := Ap hx226
         obtain ⟨b229, o230, C231, E232, fz233, rfl, hF235, hE236⟩ := Wr (Wm hs0_3 le108) hx226'
         have hc238 := hE236 _ _ hx226'
         refine Di 8 hi227 <| Dx 9 0 (fun _ hq => hq.1.1 _ _ hF235) hc238 <| D1 10 ?_
         obtain ⟨r239, hr240, h241⟩ := bind_some h228
         refine DCl J8 hw211 (Le N wd210 F6 hw211.pers x225 _ hr240) ?_
         rintro _ F13 w243 hs244 le245 rfl
         refine D1 11 ?_
         have hs247 := hs244.pk4.pk4.pk4.pk4.pk4
         obtain ⟨r248, hr249, h250⟩ := bind_some h241
         refine DCB CY (Dj N (hG.mono (le108.t le245)) bp0 x0 (some ⟨b229, o230, none⟩) n0_3 mb0_4 e0_4 mb0_5 e0_5 hb0_3 (Wm hs0_3 (le108.t le245)) (hr0_4.mono (le108.t le245)) (hr0_5.mono (le108.t le245)) x1 r239 hs247.pk7.pk7.pk7 _ hr249) ?_
         rintro _ F14 w251 _ hs252 le253 ⟨ar248_0_3, nr248_0_3, er248_0_4, er248_0_5, rfl, rfl, hbr248_0_3, hsr248_0_3, hrr248_0_4, hrr248_0_5⟩
         refine ⟨Bd hs252 (le245.t le253) (by simp) (zdT (by kernel_rfl)), ?_⟩
         refine Dv [12, 13, 14] <| D1 15 <| Uy (Ah r248.2.1) hs252 (le245.t le253) (fun w255 hs256 => ?_)
         refine Dv [16] ?_
         obtain rfl := Aa h250
         have hs257 := hs256.pk2.pk2.pk2.pk7.pk7
         exact Ww (by kernel_rfl) ⟨F14, ar248_0_3, nr248_0_3, er248_0_4, er248_0_5, hs257.pk7.pk7.pk7, (le245.t le253), fI, hbr248_0_3, hsr248_0_3, hrr248_0_4, hrr248_0_5⟩
        ·rintro f w212 ⟨F12, aj215_8, nj215_8, ej215_9, ej215_10, hs213, le214, ⟨_, rfl⟩, hbj215_8, hsj215_8, hrj215_9, hrj215_10⟩
         obtain rfl := Aa h224
         exact .inl ⟨rfl, F12, aj215_8, nj215_8, ej215_9, ej215_10, hs213, le214, fI, hbj215_8, hsj215_8, hrj215_9, hrj215_10⟩
       ·refine Sc ?_
        obtain rfl := Aa h209
        exact .inl ⟨rfl, F6, a0_3, n0_3, e0_4, e0_5, hs137, (Wk _), fI, hb0_3, (Wm hs0_3 le108), (hr0_4.mono le108), (hr0_5.mono le108)⟩
      ·rintro f w194 ⟨F11, aj197_8, nj197_8, ej197_9, ej197_10, hs195, le196, ⟨_, rfl⟩, hbj197_8, hsj197_8, hrj197_9, hrj197_10⟩
       obtain rfl := Aa h206
       exact .inl ⟨rfl, F11, aj197_8, nj197_8, ej197_9, ej197_10, hs195, le196, fI, hbj197_8, hsj197_8, hrj197_9, hrj197_10⟩
    ·rintro f w138 ⟨F8, aj141_8, nj141_8, ej141_9, ej141_10, hs139, le140, ⟨_, rfl⟩, hbj141_8, hsj141_8, hrj141_9, hrj141_10⟩
     refine Au <| Ab <| Sq (Rg (rG 5) ?_)
     refine Vs 1 <| Ld hs139.at4 <| Vs 2 <| St0 #[(vi (W64 (x1.at_ + 1))), (vi j141.2.2.1), (vi j141.2.2.2.1), (vi j141.2.2.2.2.1)] hs139 (fun w258 hs259 => ?_)
     refine Nss <| RD 6 6 [(sb b133 #[(vi (W64 (x1.at_ + 1))), (vi j141.2.2.1), (vi j141.2.2.2.1), (vi j141.2.2.2.2.1)] 143), (sb b30 #[(vi x2), (vi x1.at_), (sv (([] : WE)))] 150), (sb b21 (Ah x1) 143), (sb bp0 #[(.bool j141.2.2.2.2.2.1), (.bool j141.2.2.2.2.2.2.1), (.bool j141.2.2.2.2.2.2.2.1), (.slice aj141_8 j141.2.2.2.2.2.2.2.2.1.length nj141_8), (.map (some mb0_4)), (.map (some mb0_5))] 148), ej141_9, ej141_10] [] hs259 (fun f w => ∃ (F15 : Mem), HS wb Fb w F15 ((sb b27 #[(vi x2), (vi x1.at_), (sv (([] : WE)))] 150) :: (sb b24 #[(vi (W64 (x1.at_ + 1))), (vi j141.2.2.1), (vi j141.2.2.2.1), (vi j141.2.2.2.2.1)] 143) :: (sb bp0 #[(.bool j141.2.2.2.2.2.1), (.bool j141.2.2.2.2.2.2.1), (.bool j141.2.2.2.2.2.2.2.1), (.slice aj141_8 j141.2.2.2.2.2.2.2.2.1.length nj141_8), (.map (some mb0_4)), (.map (some mb0_5))] 148) :: ej141_9 :: ej141_10 :: Lf) /\ Wj F8 F15 /\ FI f [] [(6, (pt b24 0)), (7, (pt b27 0)), (8, (.bool j141.1))]) (fun wd260 hw261 => ?_) ?_
     ·refine Dl 0 (fun _ hq => (hq.1.2 0 _ _ rfl)) ?_
      refine Dl 1 (fun _ hq => (hq.1.2 1 _ _ rfl)) <| Dv [2] <| D1 3 <| Uy #[(vi (W64 (x1.at_ + 1))), (vi j141.2.2.1), (vi j141.2.2.2.1), (vi j141.2.2.2.2.1)] hw261 (Wk _) (fun w269 hs270 => ?_)
      refine D1 4 <| Nx #[(vi x2), (vi x1.at_), (sv (([] : WE)))] hs270 (Wk _) (fun w271 hs272 => ?_)
      refine Dv [5] ?_
      exact Ww (by kernel_rfl) ⟨F8, hs272.dr0.dr0.dr2, (Wk _), fI⟩
     ·rintro f w262 ⟨F15, hs263, le264, ⟨_, rfl⟩⟩
      refine Ab <| Rt ?_
      obtain rfl := Aa h150
      exact ⟨rfl, (.tuple #[(.agg #[(vi (W64 (x1.at_ + 1))), (vi j141.2.2.1), (vi j141.2.2.2.1), (vi j141.2.2.2.2.1)]), (.agg #[(vi x2), (vi x1.at_), (sv (([] : WE)))]), (.bool j141.1)]), AW (l := [.cell 6 143, .cell 7 150, .tmp 8]) (by kernel_rfl) (vs := [(.agg #[(vi (W64 (x1.at_ + 1))), (vi j141.2.2.1), (vi j141.2.2.2.1), (vi j141.2.2.2.2.1)]), (.agg #[(vi x2), (vi x1.at_), (sv (([] : WE)))]), (.bool j141.1)]) ⟨b24, 0, rfl, Am (t := 143) (g := true) (s := 4) (by kernel_rfl) hs263.at1 rfl (by decide), ⟨b27, 0, rfl, Am (t := 150) (g := true) (s := 3) (by kernel_rfl) hs263.at0 rfl (by decide), ⟨rfl, trivial⟩⟩⟩, F15, _, _, rfl, hs263.dr0.dr0, ((le108.t le140).trans le264), ⟨aj141_8, nj141_8, ej141_9, ej141_10, rfl, rfl, hbj141_8, (Wm hsj141_8 le264), (hrj141_9.mono le264), (hrj141_10.mono le264)⟩⟩
def Kt (N : Nat) (x0 : Int) : Option Int :=
 ((idx ([0, 0, 1, 4, 6] : List Int) x0).bind fun c21 => some c21)
theorem J6 : Af Tryz.prog 112 := fun _ _ => by kernel_rfl
theorem Lb (N : Nat) (w0 : World) (F0 : Mem) (hF : WG w0 F0) (x0 : Int) (r : Int) (h : Kt N x0 = some r) :
  Calls Tryz.prog 112 ([(vi x0)] : List Value).toArray w0 (AB w0 F0 fun F' v => v = (vi r)) := by
 have hs0 := Wl hF
 refine Go 6 Tryz.func112 <| Sq (Rg [0] ?_)
 refine Vs 1 <| Nss (Rg (rG 4) ?_)
 refine V 3 204 (Je (t := 204) (parts := #[(2, (.const (vi 1))), (3, (.const (vi 4))), (4, (.const (vi 6)))]) (vs := [(2, (vi 1)), (3, (vi 4)), (4, (vi 6))]) rfl (cs := [(vi 0), (vi 0), (vi 1), (vi 4), (vi 6)]) (by kernel_rfl)) <| Vs 1 ?_
 obtain ⟨c21, hr22, h23⟩ := bind_some h
 refine V 5 3 (QI (t := 204) (E := 3) (len := 5) (x := (.tmp 3)) (y := (.tmp 4)) (k := .i64) (i := x0) (cs := (([0, 0, 1, 4, 6] : List Int)).map (fun x : Int => Value.int .i64 x)) (v := (vi c21)) rfl rfl (by kernel_rfl) (by kernel_rfl) rfl (Pl (f := (fun x : Int => Value.int .i64 x)) hr22)) <| Vs 1 <| Nt <| Rt ?_
 obtain rfl := Aa h23
 exact Re [(vi c21)] hs0 rfl
def HT (N : Nat) (x0 : WE) (x1 : (List Et)) (m30 : Al) (r36 : WE) (r44 : WE) (r52 : WE) (r60 : WE) (r68 : WE) : (Int × Int × WE) -> Option (Bt (WE × Int) (Int × Int × WE)) := fun s95 =>
 (bif (decide (s95.2.1 < (x1.length : Int))) then ((idx x1 s95.2.1).bind fun x128 => ((bif (x128.At != s95.1) then none else (bif (decide (x128.Kind < 1)) then none else (bif (decide (x128.Kind > 4)) then none else (bif (!((x128.Kind == 4) == (x128.Text != ([] : WE)))) then none else (bif (x128.Kind == 4) then ((CE N ([r36, r44, r52, r60, r68]) x128.Text).bind fun r178 => (bif (!r178) then none else (bif (!(x128.Kind == 4)) then some (s95.1 == (m30.lines_.length : Int)) else some false))) else (bif (!(x128.Kind == 4)) then some (s95.1 == (m30.lines_.length : Int)) else some false)))))).bind fun j150 => (bif j150 then none else (bif (x128.Kind == 4) then ((C5 x128.Text ([10] : WE)).bind fun r201 => ((Hg s95.2.2 r201).bind fun t207 => some (.next (s95.1, (W64 (s95.2.1 + 1)), t207)))) else ((bif (x128.Kind == 1) then ((idx m30.lines_ s95.1).bind fun x233 => ((C5 x233 ([10] : WE)).bind fun r247 => ((Hg s95.2.2 r247).bind fun t253 => some t253))) else (bif (x128.Kind == 2) then ((idx m30.lines_ s95.1).bind fun x262 => ((Ku N x262).bind fun r276 => ((C5 r276 ([10] : WE)).bind fun r284 => ((Hg s95.2.2 r284).bind fun t290 => some t290)))) else none)).bind fun j217 => some (.next ((W64 (s95.1 + 1)), (W64 (s95.2.1 + 1)), j217))))))) else some (.done (s95.1, s95.2.1, s95.2.2)))
def K2 (N : Nat) (x0 : WE) (x1 : (List Et)) : Option (WE × Int) :=
 ((GX N ({ Report := false, Serial := false, Zone := false } : Ac) x0).bind fun r21 => osk r21 (some (([] : WE), 2)) (fun m30 => ((Cl N 1).bind fun r36 => ((Cl N 2).bind fun r44 => ((Cl N 3).bind fun r52 => ((Cl N 4).bind fun r60 => ((Cl N 5).bind fun r68 => ((AX (HT N x0 x1 m30 r36 r44 r52 r60 r68) N (0, 0, ([] : WE))).bind fun o => o.k (fun r => some r) (fun s109 => (bif (decide (s109.1 < (m30.lines_.length : Int))) then none else some (s109.2.2, 0)))))))))))
theorem MM : Af Tryz.prog 44 := fun _ _ => by kernel_rfl
theorem Nn (N : Nat) (w0 : World) (F0 : Mem) (hF : WG w0 F0) (hG : Bz F0) (x0 : WE) (x1 : (List Et)) (a1_0 : WF) (n1_0 : Nat) (hb1_0 : LC x1.length n1_0) (hs1_0 : SlA JC F0 a1_0 x1) (r : (WE × Int)) (h : K2 N x0 x1 = some r) :
  Calls Tryz.prog 44 ([(sv x0), (.slice a1_0 x1.length n1_0)] : List Value).toArray w0 (AB w0 F0 fun F' v => v = (.tuple #[(sv r.1), (vi r.2)])) := by
 have hs0 := Wl hF
 refine Go 124 Tryz.func44 <| Sq (Rg [0, 1] ?_)
 refine Vs 2 <| Nss (Rg (rG 8) ?_)
 refine Vs 2 ?_
 obtain ⟨r21, hr22, h23⟩ := bind_some h
 refine RWP.callO (dst := (some 17)) (ty := 139) (g := none) (by kernel_rfl) rfl (f0 := (.func 108)) (aos := #[(.tmp 15), (.tmp 16)]) (ats := #[23, 9]) (fid := 108) (first := #[]) (cap := #[]) (args := [(.agg #[(.bool false), (.bool false), (.bool false)]), (sv x0)]) rfl Ho rfl hs0 (Im N w0 F0 hs0.pers hG (({ Report := false, Serial := false, Zone := false } : Ac)) x0 _ hr22) ?_
 rintro v24 F1 w25 L29 hs26 le27 hp28
 rcases r21 with _ | m30
 ·obtain ⟨rfl, rfl⟩ := FH hp28
  have h31 := UD h23
  have hs32 : HS w0 F0 w25 F1 [] := hs26
  refine Vs 5 <| Nss <| Sq (Rg [0, 1] ?_)
  refine Vs 2 <| Nt <| C1 (rfl : true = true) <| Sq (Rg [0, 1, 2] ?_)
  refine Vs 3 <| Nt <| Rt <| Ae ?_
  obtain rfl := Aa h31
  exact Re [(sv (([] : WE))), (vi 2)] hs32 rfl
 ·obtain ⟨b33, am30_3, nm30_3, mbm30_4, em30_4, mbm30_5, em30_5, rfl, rfl, hbm30_3, hsm30_3, hrm30_4, hrm30_5⟩ := FG hp28
  have h34 := UC h23
  have hs35 : HS w0 F0 w25 F1 [(sb b33 #[(.bool m30.o_.Report), (.bool m30.o_.Serial), (.bool m30.o_.Zone), (.slice am30_3 m30.lines_.length nm30_3), (.map (some mbm30_4)), (.map (some mbm30_5))] 148), em30_4, em30_5] := hs26
  refine Vs 5 <| Nss <| Sq (Rg [0, 1] ?_)
  refine Vs 2 <| Nt <| C0 (rfl : false = false) <| Sc <| Ab <| Sq (Rg (rG 7) ?_)
  obtain ⟨r36, hr37, h38⟩ := bind_some h34
  refine Cl' BX hs35 (B9 N w25 F1 hs35.pers 1 _ hr37) ?_
  rintro _ F2 w40 hs41 le42 rfl
  obtain ⟨r44, hr45, h46⟩ := bind_some h38
  refine Cl' BX hs41 (B9 N w40 F2 hs41.pers 2 _ hr45) ?_
  rintro _ F3 w48 hs49 le50 rfl
  obtain ⟨r52, hr53, h54⟩ := bind_some h46
  refine Cl' BX hs49 (B9 N w48 F3 hs49.pers 3 _ hr53) ?_
  rintro _ F4 w56 hs57 le58 rfl
  obtain ⟨r60, hr61, h62⟩ := bind_some h54
  refine Cl' BX hs57 (B9 N w56 F4 hs57.pers 4 _ hr61) ?_
  rintro _ F5 w64 hs65 le66 rfl
  obtain ⟨r68, hr69, h70⟩ := bind_some h62
  refine Cl' BX hs65 (B9 N w64 F5 hs65.pers 5 _ hr69) ?_
  rintro _ F6 w72 hs73 le74 rfl
  refine Bs 9 [(sv r36), (sv r44), (sv r52), (sv r60), (sv r68)] hs73 (fun b76 w77 hs78 => ?_)
  have hr80 : Av AM 9 F6 (some ⟨b76, 0, none⟩) 5 [r36, r44, r52, r60, r68] (some b76, .cells ([(sv r36), (sv r44), (sv r52), (sv r60), (sv r68)] : List Value).toArray 9 (0, 0)) := Wz ⟨rfl, ⟨rfl, ⟨rfl, ⟨rfl, ⟨rfl, rfl⟩⟩⟩⟩⟩ (by simp)
  refine Vs 1 <| Nss (Rg [0] ?_)
  refine Al' 105 #[.pointer none, .slice none 0 0] hs78 (fun b81 w82 hs83 => ?_)
  obtain ⟨Lf84, hs85, hJ86⟩ := Fo.new hs83
  have hs87 : HS w0 F0 w82 F6 ((some b76, .cells ([(sv r36), (sv r44), (sv r52), (sv r60), (sv r68)] : List Value).toArray 9 (0, 0)) :: (sb b33 #[(.bool m30.o_.Report), (.bool m30.o_.Serial), (.bool m30.o_.Zone), (.slice am30_3 m30.lines_.length nm30_3), (.map (some mbm30_4)), (.map (some mbm30_5))] 148) :: em30_4 :: em30_5 :: Lf84) := hs85
  refine Nss (Rg [0] ?_)
  refine Vs 1 <| Nss <| Sq (Rg [0, 1, 2] ?_)
  refine Vs 3 <| Nt ?_
  have hb91 := Wx hr80
  obtain ⟨F7, hs88, le89, hs90⟩ := hs87.fr0 hr80
  obtain ⟨o92, ho93, h94⟩ := bind_some h70
  refine Wq (fun f w => ∃ (s109 : (Int × Int × WE)) (F9 : Mem) (Lf113 : Own), o92 = .done s109 /\ HS w0 F0 w F9 ((sb b33 #[(.bool m30.o_.Report), (.bool m30.o_.Serial), (.bool m30.o_.Zone), (.slice am30_3 m30.lines_.length nm30_3), (.map (some mbm30_4)), (.map (some mbm30_5))] 148) :: em30_4 :: em30_5 :: Lf113) /\ Wj F7 F9 /\ FI f [] [(6, (pt b33 0)), (9, (pt b81 0)), (10, (vi s109.1))] /\ Fo b81 s109.2.2 F9 Lf113) ?_ ?_
  ·refine Bk ?_
   refine Wi (by kernel_rfl) (fun m f w => ∃ (s95 : (Int × Int × WE)) (F8 : Mem) (Lf99 : Own), AX (HT N x0 x1 m30 r36 r44 r52 r60 r68) m s95 = some o92 /\ HS w0 F0 w F8 ((sb b33 #[(.bool m30.o_.Report), (.bool m30.o_.Serial), (.bool m30.o_.Zone), (.slice am30_3 m30.lines_.length nm30_3), (.map (some mbm30_4)), (.map (some mbm30_5))] 148) :: em30_4 :: em30_5 :: Lf99) /\ Wj F7 F8 /\ FI f [] [(6, (pt b33 0)), (8, (.slice (some ⟨b76, 0, none⟩) [r36, r44, r52, r60, r68].length 5)), (9, (pt b81 0)), (10, (vi s95.1)), (29, (.slice a1_0 x1.length n1_0)), (30, (vi (x1.length : Int))), (31, (vi s95.2.1))] /\ Fo b81 s95.2.2 F8 Lf99) N ⟨(0, 0, ([] : WE)), F7, Lf84, ho93, hs88, (Wk _), fI, (Fo.mono _ _ _ _ hJ86 le89)⟩ ?_
   rintro m119 f w96 ⟨s95, F8, Lf99, hit120, hs97, le98, ⟨_, rfl⟩, hJ100⟩
   obtain ⟨m121, fl122, rfl, hb123, hnx124⟩ := AN hit120
   refine Sq (Rg [0] ?_)
   refine Vs 1 <| Nss <| Cd hb123 (fun hb125 h126 => ?_) (fun hb125 h127 => ?_)
   ·refine Sc ?_
    refine Ab <| Sq <| Bk <| Sq (Rg (rG 4) ?_)
    obtain ⟨x128, hx129, h131⟩ := bind_some h126
    obtain ⟨hi130, hx129'⟩ := Ap hx129
    obtain ⟨b132, o133, C134, E135, fz136, rfl, hF138, hE139⟩ := Wr (Wm hs1_0 (((((((le27.t le42).trans le50).trans le58).trans le66).trans le74).trans le89).trans le98)) hx129'
    have hc141 := hE139 _ _ hx129'
    refine Ix hi130 <| Lx 0 (hs97.pers _ _ hF138) hc141 <| Al' 150 #[(vi 0), (vi 0), (sv (([] : WE)))] hs97 (fun b142 w143 hs144 => ?_)
    refine St0 (FV x128) hs144 (fun w145 hs146 => ?_)
    refine Nss (Rg (rG 4) ?_)
    refine Vs 1 <| Ld hs146.at0 <| Vs 2 <| Nss <| Sq (Rg (rG 44) ?_)
    obtain ⟨j150, hj161, h162⟩ := bind_some h131
    refine Wp (fun f w => ∃ (F10 : Mem), HS w0 F0 w F10 ((sb b142 (FV x128) 150) :: (sb b33 #[(.bool m30.o_.Report), (.bool m30.o_.Serial), (.bool m30.o_.Zone), (.slice am30_3 m30.lines_.length nm30_3), (.map (some mbm30_4)), (.map (some mbm30_5))] 148) :: em30_4 :: em30_5 :: Lf99) /\ Wj F8 F10 /\ FI f [] [(6, (pt b33 0)), (8, (.slice (some ⟨b76, 0, none⟩) [r36, r44, r52, r60, r68].length 5)), (9, (pt b81 0)), (10, (vi s95.1)), (12, (pt b142 0)), (29, (.slice (some ⟨b132, o133, none⟩) x1.length n1_0)), (30, (vi (x1.length : Int))), (31, (vi s95.2.1)), (81, (.bool j150))]) ?_ ?_
    ·refine Vs 1 ?_
     refine Ld hs146.at0 <| Vs 3 <| Sp hj161 (fun hb163 h164 => ?_) (fun hb163 h165 => ?_)
     ·cases h164
     ·refine Vgs hb163 1 ?_
      refine Lg hb163 hs146.at0 <| Vgs hb163 1 <| Pk0 hb163 <| Vs 1 <| Sp h165 (fun hb166 h167 => ?_) (fun hb166 h168 => ?_)
      ·cases h167
      ·refine Vgs hb166 1 ?_
       refine Lg hb166 hs146.at0 <| Vgs hb166 1 <| Pk0 hb166 <| Vs 1 <| Sp h168 (fun hb169 h170 => ?_) (fun hb169 h171 => ?_)
       ·cases h170
       ·refine Vgs hb169 2 ?_
        refine Lg hb169 hs146.at0 <| Vgs hb169 2 <| Pk0 hb169 <| Vs 1 <| Sp h171 (fun hb172 h173 => ?_) (fun hb172 h174 => ?_)
        ·cases h173
        ·refine Vgs hb172 2 ?_
         refine Sp h174 (fun hb175 h176 => ?_) (fun hb175 h177 => ?_)
         ·refine Vgs hb175 2 ?_
          refine Lg hb175 hs146.at0 ?_
          obtain ⟨r178, hr179, h180⟩ := bind_some h176
          refine Cg hb175 Ek hs146 (Ev N w145 F8 hs146.pers ([r36, r44, r52, r60, r68]) (some ⟨b76, 0, none⟩) 5 hb91 (Wm hs90 le98) x128.Text _ hr179) ?_
          rintro _ F11 w182 hs183 le184 rfl
          refine Vgs hb175 1 <| Pg1 hb172 hb175 <| Pk0 hb172 <| Vs 1 <| Sp h180 (fun hb186 h187 => ?_) (fun hb186 h188 => ?_)
          ·cases h187
          ·refine Vgs hb186 3 ?_
           refine Sp h188 (fun hb189 h190 => ?_) (fun hb189 h191 => ?_)
           ·refine Vgs hb189 4 ?_
            refine Lg hb189 hs183.at1 <| Vgs hb189 2 <| Pg1 hb186 hb189 <| Pk0 hb186 ?_
            obtain rfl := Aa h190
            exact Wf ⟨rfl, F11, hs183, le184, fI⟩
           ·refine Ss hb189 7 ?_
            refine Pg0 hb186 hb189 <| Pk0 hb186 ?_
            obtain rfl := Aa h191
            exact Wf ⟨rfl, F11, hs183, le184, fI⟩
         ·refine Ss hb175 5 ?_
          refine Pg0 hb172 hb175 <| Pk0 hb172 <| Vs 1 <| Vg 70 4 31 false 69 rfl (mv 13 (.bool (x128.Kind == 4))) <| Vg 71 4 31 false 69 rfl (N2 (t := 4) (x := (.tmp 70)) (a := (x128.Kind == 4)) rfl) <| Vg 72 4 31 false 69 rfl (mv 71 (.bool (!(x128.Kind == 4)))) <| Sp h177 (fun hb192 h193 => ?_) (fun hb192 h194 => ?_)
          ·refine Vgs hb192 4 ?_
           refine Lg hb192 hs146.at1 <| Vgs hb192 2 <| Vg 80 4 31 false 69 rfl (p1 72 (.tmp 79) (.const (.bool false)) (.bool (s95.1 == (m30.lines_.length : Int))) hb192) <| Pk0 (rfl : false = false) ?_
           obtain rfl := Aa h193
           exact Wf ⟨rfl, F8, hs146, (Wk _), fI⟩
          ·refine Ss hb192 7 ?_
           refine Vg 80 4 31 false 69 rfl (p0 72 (.tmp 79) (.const (.bool false)) (.bool false) hb192) <| Pk0 (rfl : false = false) ?_
           obtain rfl := Aa h194
           exact Wf ⟨rfl, F8, hs146, (Wk _), fI⟩
    ·rintro f w147 ⟨F10, hs148, le149, ⟨_, rfl⟩⟩
     refine Ab <| Cd h162 (fun hb195 h196 => ?_) (fun hb195 h197 => ?_)
     ·cases h196
     ·refine Sc ?_
      refine Ab <| Sq <| Sq (Rg [0, 1] ?_)
      refine Vs 1 <| Ld hs148.at0 <| Nt <| Bk <| Sq (Rg [0, 1] ?_)
      refine Vs 2 <| Nt <| Cd h197 (fun hb198 h199 => ?_) (fun hb198 h200 => ?_)
      ·refine Sq (Rg (rG 4) ?_)
       refine Vs 1 <| Ld hs148.at0 ?_
       obtain ⟨r201, hr202, h203⟩ := bind_some h199
       refine V 88 9 (AV (t := 9) (t' := 9) (x := (.tmp 87)) (y := (.const (sv ([10] : WE)))) (a := x128.Text) (b := ([10] : WE)) (v := r201) rfl rfl hr202) ?_
       obtain ⟨t207, ht208, h209⟩ := bind_some h203
       refine CB Bp (DP (L := [(sb b142 (FV x128) 150), (sb b33 #[(.bool m30.o_.Report), (.bool m30.o_.Serial), (.bool m30.o_.Zone), (.slice am30_3 m30.lines_.length nm30_3), (.map (some mbm30_4)), (.map (some mbm30_5))] 148), em30_4, em30_5]) ht208 (Fo.mono _ _ _ _ hJ100 le149) hs148) ?_
       rintro _ F12 w204 _ hs205 le206 ⟨rfl, Lf210, rfl, hJ211⟩
       have hs212 : HS w0 F0 w204 F12 ((sb b142 (FV x128) 150) :: (sb b33 #[(.bool m30.o_.Report), (.bool m30.o_.Serial), (.bool m30.o_.Zone), (.slice am30_3 m30.lines_.length nm30_3), (.map (some mbm30_4)), (.map (some mbm30_5))] 148) :: em30_4 :: em30_5 :: Lf210) := hs205
       refine Nt <| Ex <| Lh (by decide) <| Ar <| Az rfl <| Ab <| Rg [0, 1] <| Vs 2 <| Wf ?_
       have hn213 := AO h209 hnx124
       exact ⟨m121, Nat.lt_succ_self _, (s95.1, (W64 (s95.2.1 + 1)), t207), F12, Lf210, hn213, hs212.dr0, ((le98.t le149).trans le206), fI, hJ211⟩
      ·refine Sq (Rg [0, 1] ?_)
       refine Vs 2 <| Nt ?_
       obtain ⟨j217, hj228, h229⟩ := bind_some h200
       refine Wq (fun f w => ∃ (F13 : Mem) (Lf218 : Own), HS w0 F0 w F13 ((sb b33 #[(.bool m30.o_.Report), (.bool m30.o_.Serial), (.bool m30.o_.Zone), (.slice am30_3 m30.lines_.length nm30_3), (.map (some mbm30_4)), (.map (some mbm30_5))] 148) :: em30_4 :: em30_5 :: Lf218) /\ Wj F10 F13 /\ FI f [] [(6, (pt b33 0)), (8, (.slice (some ⟨b76, 0, none⟩) [r36, r44, r52, r60, r68].length 5)), (9, (pt b81 0)), (10, (vi s95.1)), (29, (.slice (some ⟨b132, o133, none⟩) x1.length n1_0)), (30, (vi (x1.length : Int))), (31, (vi s95.2.1))] /\ Fo b81 j217 F13 Lf218) ?_ ?_
       ·refine Cd hj228 (fun hb230 h231 => ?_) (fun hb230 h232 => ?_)
        ·refine Rg (rG 9) ?_
         refine Vs 3 <| Ld hs148.at1 <| Vs 1 ?_
         obtain ⟨x233, hx234, h236⟩ := bind_some h231
         obtain ⟨hi235, hx234'⟩ := Ap hx234
         obtain ⟨b237, o238, C239, E240, fz241, rfl, hF243, hE244⟩ := Wr (Wm hsm30_3 (((((((le42.t le50).trans le58).trans le66).trans le74).trans le89).trans le98).trans le149)) hx234'
         have hc246 := hE244 _ _ hx234'
         refine Ix hi235 <| Lx 0 (hs148.pers _ _ hF243) hc246 ?_
         obtain ⟨r247, hr248, h249⟩ := bind_some h236
         refine V 99 9 (AV (t := 9) (t' := 9) (x := (.tmp 98)) (y := (.const (sv ([10] : WE)))) (a := x233) (b := ([10] : WE)) (v := r247) rfl rfl hr248) ?_
         obtain ⟨t253, ht254, h255⟩ := bind_some h249
         refine CB Bp (DP (L := [(sb b142 (FV x128) 150), (sb b33 #[(.bool m30.o_.Report), (.bool m30.o_.Serial), (.bool m30.o_.Zone), (.slice (some ⟨b237, o238, none⟩) m30.lines_.length nm30_3), (.map (some mbm30_4)), (.map (some mbm30_5))] 148), em30_4, em30_5]) ht254 (Fo.mono _ _ _ _ hJ100 le149) hs148) ?_
         rintro _ F14 w250 _ hs251 le252 ⟨rfl, Lf256, rfl, hJ257⟩
         have hs258 : HS w0 F0 w250 F14 ((sb b142 (FV x128) 150) :: (sb b33 #[(.bool m30.o_.Report), (.bool m30.o_.Serial), (.bool m30.o_.Zone), (.slice (some ⟨b237, o238, none⟩) m30.lines_.length nm30_3), (.map (some mbm30_4)), (.map (some mbm30_5))] 148) :: em30_4 :: em30_5 :: Lf256) := hs251
         refine Wf ?_
         obtain rfl := Aa h255
         exact .inl ⟨rfl, F14, Lf256, hs258.dr0, le252, fI, hJ257⟩
        ·refine Sq (Rg [0, 1] ?_)
         refine Vs 2 <| Nt <| Cd h232 (fun hb259 h260 => ?_) (fun hb259 h261 => ?_)
         ·refine Rg (rG 10) ?_
          refine Vs 3 <| Ld hs148.at1 <| Vs 1 ?_
          obtain ⟨x262, hx263, h265⟩ := bind_some h260
          obtain ⟨hi264, hx263'⟩ := Ap hx263
          obtain ⟨b266, o267, C268, E269, fz270, rfl, hF272, hE273⟩ := Wr (Wm hsm30_3 (((((((le42.t le50).trans le58).trans le66).trans le74).trans le89).trans le98).trans le149)) hx263'
          have hc275 := hE273 _ _ hx263'
          refine Ix hi264 <| Lx 0 (hs148.pers _ _ hF272) hc275 ?_
          obtain ⟨r276, hr277, h278⟩ := bind_some h265
          refine Cl' J8 hs148 (Le N w147 F10 hs148.pers x262 _ hr277) ?_
          rintro _ F15 w280 hs281 le282 rfl
          obtain ⟨r284, hr285, h286⟩ := bind_some h278
          refine V 111 9 (AV (t := 9) (t' := 9) (x := (.tmp 110)) (y := (.const (sv ([10] : WE)))) (a := r276) (b := ([10] : WE)) (v := r284) rfl rfl hr285) ?_
          obtain ⟨t290, ht291, h292⟩ := bind_some h286
          refine CB Bp (DP (L := [(sb b142 (FV x128) 150), (sb b33 #[(.bool m30.o_.Report), (.bool m30.o_.Serial), (.bool m30.o_.Zone), (.slice (some ⟨b266, o267, none⟩) m30.lines_.length nm30_3), (.map (some mbm30_4)), (.map (some mbm30_5))] 148), em30_4, em30_5]) ht291 (Fo.mono _ _ _ _ hJ100 (le149.t le282)) hs281) ?_
          rintro _ F16 w287 _ hs288 le289 ⟨rfl, Lf293, rfl, hJ294⟩
          have hs295 : HS w0 F0 w287 F16 ((sb b142 (FV x128) 150) :: (sb b33 #[(.bool m30.o_.Report), (.bool m30.o_.Serial), (.bool m30.o_.Zone), (.slice (some ⟨b266, o267, none⟩) m30.lines_.length nm30_3), (.map (some mbm30_4)), (.map (some mbm30_5))] 148) :: em30_4 :: em30_5 :: Lf293) := hs288
          refine Wf ?_
          obtain rfl := Aa h292
          exact .inl ⟨rfl, F16, Lf293, hs295.dr0, (le282.t le289), fI, hJ294⟩
         ·cases h261
       ·rintro f w214 ⟨F13, Lf218, hs215, le216, ⟨_, rfl⟩, hJ219⟩
        refine Au <| Ab <| Rg [0, 1, 2] <| Vs 3 <| Wf <| Au <| Ab <| Rg [0, 1] <| Vs 2 <| Wf ?_
        have hn296 := AO h229 hnx124
        exact ⟨m121, Nat.lt_succ_self _, ((W64 (s95.1 + 1)), (W64 (s95.2.1 + 1)), j217), F13, Lf218, hn296, hs215, ((le98.t le149).trans le216), fI, hJ219⟩
   ·refine Ex ?_
    refine Ar <| Ar <| Az rfl ?_
    have ho297 := AP h127 hnx124
    exact .inl ⟨rfl, (s95.1, s95.2.1, s95.2.2), F8, Lf99, ho297, hs97, le98, fI, hJ100⟩
  ·rintro f w110 ⟨s109, F9, Lf113, rfl, hs111, le112, ⟨_, rfl⟩, hJ114⟩
   have h298 := BL h94
   refine Ab <| Sq <| Sq (Rg (rG 7) ?_)
   refine Vs 4 <| Ld hs111.at0 <| Vs 2 <| Nt <| Cd h298 (fun hb299 h300 => ?_) (fun hb299 h301 => ?_)
   ·cases h300
   ·refine Sc ?_
    refine Ab <| Sq (Rg [0, 1, 2] ?_)
    refine CB MP (NT (L := [(sb b33 #[(.bool m30.o_.Report), (.bool m30.o_.Serial), (.bool m30.o_.Zone), (.slice am30_3 m30.lines_.length nm30_3), (.map (some mbm30_4)), (.map (some mbm30_5))] 148), em30_4, em30_5]) hJ114 hs111) ?_
    rintro _ _ w302 _ hs303 _ ⟨rfl, rfl, rfl⟩
    refine Vs 2 <| Nt <| Rt ?_
    obtain rfl := Aa h301
    exact Re [(sv s109.2.2), (vi 0)] hs303 rfl
def OJ (sR109 : Al -> An -> Option (Al × Int)) : Prop := ∀ {wb w0 : World} {Fb F0 : Mem} {Lf : Own} (hG : Bz F0) (bp0 : Nat) (x0 : Al) (a0_3 : WF) (n0_3 : Nat) (mb0_4 : Nat) (e0_4 : Option Nat × Obj) (mb0_5 : Nat) (e0_5 : Option Nat × Obj) (hb0_3 : LC x0.lines_.length n0_3) (hs0_3 : SlA AM F0 a0_3 x0.lines_) (hr0_4 : Bb Ay AD F0 mb0_4 x0.known_ e0_4) (hr0_5 : Bb AM As F0 mb0_5 x0.read_ e0_5) (x1 : An) (hs0 : HS wb Fb w0 F0 ((some bp0, (.cells #[(.bool x0.o_.Report), (.bool x0.o_.Serial), (.bool x0.o_.Zone), (.slice a0_3 x0.lines_.length n0_3), (.map (some mb0_4)), (.map (some mb0_5))] 148 (0, 0))) :: e0_4 :: e0_5 :: Lf)) (r : (Al × Int)), sR109 x0 x1 = some r -> Calls Tryz.prog 109 ([(.pointer (some ⟨bp0, 0, none⟩)), (.agg #[(.int .i64 x1.at_), (.int .i64 x1.stage_), (.int .i64 x1.num_), (.int .i64 x1.minute_)])] : List Value).toArray w0 (EE wb Fb F0 fun F' v L' => ∃ (aq0_3 : WF) (nq0_3 : Nat) (eq0_4 : Option Nat × Obj) (eq0_5 : Option Nat × Obj), v = (.int .i64 r.2) /\ L' = (some bp0, (.cells #[(.bool r.1.o_.Report), (.bool r.1.o_.Serial), (.bool r.1.o_.Zone), (.slice aq0_3 r.1.lines_.length nq0_3), (.map (some mb0_4)), (.map (some mb0_5))] 148 (0, 0))) :: eq0_4 :: eq0_5 :: Lf /\ LC r.1.lines_.length nq0_3 /\ SlA AM F' aq0_3 r.1.lines_ /\ Bb Ay AD F' mb0_4 r.1.known_ eq0_4 /\ Bb AM As F' mb0_5 r.1.read_ eq0_5)
theorem Ci : Af Tryz.prog 109 := fun _ _ => by kernel_rfl
def ET (N : Nat) (sR109 : Al -> An -> Option (Al × Int)) (x0 : Al) (x1 : An) : (Int × Int × Bool × Bool × Bool × List WE × List (An × Int) × List (WE × Aq)) -> Option (Bt (Al × Int) (Int × Int × Bool × Bool × Bool × List WE × List (An × Int) × List (WE × Aq))) := fun s53 =>
 (bif (decide (s53.2.1 <= 4)) then ((EA N ({ o_ := ({ Report := s53.2.2.1, Serial := s53.2.2.2.1, Zone := s53.2.2.2.2.1 } : Ac), lines_ := s53.2.2.2.2.2.1, known_ := s53.2.2.2.2.2.2.1, read_ := s53.2.2.2.2.2.2.2 } : Al) x1 s53.2.1).bind fun r79 => ((bif r79.2.2.2 then (((Kt N s53.2.1).bind fun r123 => ((sR109 r79.1 r79.2.1).bind fun r132 => some ((min s53.1 (W64 (r123 + r132.2))), r132.1.o_.Report, r132.1.o_.Serial, r132.1.o_.Zone, r132.1.lines_, r132.1.known_, r132.1.read_))).bind fun j115 => some (j115.1, j115.2.1, j115.2.2.1, j115.2.2.2.1, j115.2.2.2.2.1, j115.2.2.2.2.2.1, j115.2.2.2.2.2.2)) else some (s53.1, r79.1.o_.Report, r79.1.o_.Serial, r79.1.o_.Zone, r79.1.lines_, r79.1.known_, r79.1.read_)).bind fun j99 => some (.next (j99.1, (W64 (s53.2.1 + 1)), j99.2.1, j99.2.2.1, j99.2.2.2.1, j99.2.2.2.2.1, j99.2.2.2.2.2.1, j99.2.2.2.2.2.2)))) else some (.done (s53.1, s53.2.1, s53.2.2.1, s53.2.2.2.1, s53.2.2.2.2.1, s53.2.2.2.2.2.1, s53.2.2.2.2.2.2.1, s53.2.2.2.2.2.2.2)))
def Fa (N : Nat) (sR109 : Al -> An -> Option (Al × Int)) (x0 : Al) (x1 : An) : Option (Al × Int) :=
 (bif ((x1.at_ == (x0.lines_.length : Int)) && (x1.stage_ == 6)) then some (x0, 0) else (bif (Oe x0.known_ x1) then some (x0, (DE x0.known_ x1 0)) else ((AX (ET N sR109 x0 x1) N (1099511627776, 1, x0.o_.Report, x0.o_.Serial, x0.o_.Zone, x0.lines_, x0.known_, x0.read_)).bind fun o => o.k (fun r => some r) (fun s62 => ((some (M8 s62.2.2.2.2.2.2.1 x1 s62.1)).bind fun j147 => some (({ o_ := ({ Report := s62.2.2.1, Serial := s62.2.2.2.1, Zone := s62.2.2.2.2.1 } : Ac), lines_ := s62.2.2.2.2.2.1, known_ := j147, read_ := s62.2.2.2.2.2.2.2 } : Al), s62.1))))))
theorem Iq (N : Nat) (sR109 : Al -> An -> Option (Al × Int)) (hsR109 : OJ sR109) {wb w0 : World} {Fb F0 : Mem} {Lf : Own} (hG : Bz F0) (bp0 : Nat) (x0 : Al) (a0_3 : WF) (n0_3 : Nat) (mb0_4 : Nat) (e0_4 : Option Nat × Obj) (mb0_5 : Nat) (e0_5 : Option Nat × Obj) (hb0_3 : LC x0.lines_.length n0_3) (hs0_3 : SlA AM F0 a0_3 x0.lines_) (hr0_4 : Bb Ay AD F0 mb0_4 x0.known_ e0_4) (hr0_5 : Bb AM As F0 mb0_5 x0.read_ e0_5) (x1 : An) (hs0 : HS wb Fb w0 F0 ((sb bp0 #[(.bool x0.o_.Report), (.bool x0.o_.Serial), (.bool x0.o_.Zone), (.slice a0_3 x0.lines_.length n0_3), (.map (some mb0_4)), (.map (some mb0_5))] 148) :: e0_4 :: e0_5 :: Lf)) (r : (Al × Int)) (h : Fa N sR109 x0 x1 = some r) :
  Calls Tryz.prog 109 ([(pt bp0 0), (.agg (Ah x1))] : List Value).toArray w0 (EE wb Fb F0 fun F' v L' => ∃ (aq0_3 : WF) (nq0_3 : Nat) (eq0_4 : Option Nat × Obj) (eq0_5 : Option Nat × Obj), v = (vi r.2) /\ L' = (sb bp0 #[(.bool r.1.o_.Report), (.bool r.1.o_.Serial), (.bool r.1.o_.Zone), (.slice aq0_3 r.1.lines_.length nq0_3), (.map (some mb0_4)), (.map (some mb0_5))] 148) :: eq0_4 :: eq0_5 :: Lf /\ LC r.1.lines_.length nq0_3 /\ SlA AM F' aq0_3 r.1.lines_ /\ Bb Ay AD F' mb0_4 r.1.known_ eq0_4 /\ Bb AM As F' mb0_5 r.1.read_ eq0_5) := by
 refine Go 64 Tryz.func109 <| Sq (Rg [0, 1] ?_)
 refine Bx' 143 (Ah x1) hs0 (fun b21 w22 hs23 => ?_)
 refine Vs 1 <| Nss <| Sq <| RD 13 13 [(sb b21 (Ah x1) 143), (sb bp0 #[(.bool x0.o_.Report), (.bool x0.o_.Serial), (.bool x0.o_.Zone), (.slice a0_3 x0.lines_.length n0_3), (.map (some mb0_4)), (.map (some mb0_5))] 148), e0_4, e0_5] [] hs23 (fun f w => ∃ (F1 : Mem), HS wb Fb w F1 ((sb b21 (Ah x1) 143) :: (sb bp0 #[(.bool x0.o_.Report), (.bool x0.o_.Serial), (.bool x0.o_.Zone), (.slice a0_3 x0.lines_.length n0_3), (.map (some mb0_4)), (.map (some mb0_5))] 148) :: e0_4 :: e0_5 :: Lf) /\ Wj F0 F1 /\ FI f [] [(0, (pt bp0 0)), (3, (pt b21 0)), (24, (.bool ((x1.at_ == (x0.lines_.length : Int)) && (x1.stage_ == 6))))]) (fun wd24 hw25 => ?_) ?_
 ·refine Dv [0] ?_
  refine Dl 1 (fun _ hq => (hq.1.2 0 _ _ rfl)) <| Dv [2, 3, 4] <| Dl 5 (fun _ hq => (hq.1.2 1 _ _ rfl)) <| Dv [6, 7, 8] <| DWP.split (x1.at_ == (x0.lines_.length : Int)) (fun hb33 => ?_) (fun hb33 => ?_)
  ·refine Dg 9 21 0 (pt b21 1) 8 true 20 hb33 (fun _ hq => fa 143 3 1 1 1 b21 0 1) ?_
   refine Dg 10 22 3 _ 8 true 20 hb33 (fun _ hq => ld 3 21 b21 1 false 1 (vi x1.stage_) (hq.1.2 0 _ _ rfl)) <| Dg 11 23 4 (.bool (x1.stage_ == 6)) 8 true 20 hb33 (fun _ hq => JJ (t := 3) (t' := 3) (x := (.tmp 22)) (y := (.const (vi 6))) (k := .i64) (a := x1.stage_) (b := 6) rfl rfl) <| Dt 12 24 4 _ (fun _ hq => p1 20 (.tmp 23) (.const (.bool false)) (.bool (x1.stage_ == 6)) hb33) ?_
   exact Ww (by kernel_rfl) ⟨F0, hw25, (Wk _), (fJ ⟨rfl, rfl, (congrArg Value.bool (Hu hb33 rfl)), trivial⟩)⟩
  ·refine Dk [(9, 21), (10, 22), (11, 23)] 8 true 20 hb33 ?_
   refine Dt 12 24 4 _ (fun _ hq => p0 20 (.tmp 23) (.const (.bool false)) (.bool false) hb33) ?_
   exact Ww (by kernel_rfl) ⟨F0, hw25, (Wk _), (fJ ⟨rfl, rfl, (congrArg Value.bool (I9 hb33 rfl)), trivial⟩)⟩
 ·rintro f w26 ⟨F1, hs27, le28, ⟨_, rfl⟩⟩
  refine Ab <| Cd h (fun hb34 h35 => ?_) (fun hb34 h36 => ?_)
  ·refine Sq (Rg [0] ?_)
   refine Vs 1 <| Nt <| Rt <| Ae ?_
   obtain rfl := Aa h35
   exact ReB [(vi 0)] hs27.dr0 le28 ⟨a0_3, n0_3, e0_4, e0_5, rfl, rfl, hb0_3, (Wm hs0_3 le28), (hr0_4.mono le28), (hr0_5.mono le28)⟩
  ·refine Sc ?_
   refine Ab <| Sq <| Sq <| RD 11 11 [(sb b21 (Ah x1) 143), (sb bp0 #[(.bool x0.o_.Report), (.bool x0.o_.Serial), (.bool x0.o_.Zone), (.slice a0_3 x0.lines_.length n0_3), (.map (some mb0_4)), (.map (some mb0_5))] 148), e0_4, e0_5] [] hs27 (fun f w => ∃ (F2 : Mem), HS wb Fb w F2 ((sb b21 (Ah x1) 143) :: (sb bp0 #[(.bool x0.o_.Report), (.bool x0.o_.Serial), (.bool x0.o_.Zone), (.slice a0_3 x0.lines_.length n0_3), (.map (some mb0_4)), (.map (some mb0_5))] 148) :: e0_4 :: e0_5 :: Lf) /\ Wj F1 F2 /\ FI f [] [(0, (pt bp0 0)), (3, (pt b21 0)), (5, (vi (DE x0.known_ x1 0))), (6, (.bool (Oe x0.known_ x1)))]) (fun wd37 hw38 => ?_) ?_
   ·refine Dv [0, 1, 2] ?_
    refine Dl 3 (fun _ hq => (hq.1.2 1 _ _ rfl)) <| Dl 4 (fun _ hq => (hq.1.2 0 _ _ rfl)) <| Dt 5 31 119 (.tuple #[(vi (DE x0.known_ x1 0)), (.bool (Oe x0.known_ x1))]) (fun _ hq => LZ (mt := 145) (k := 143) (vt := 3) (m := (.tmp 29)) (x := (.tmp 30)) (kv := (.agg (Ah x1))) (kx := x1) (z := (vi 0)) (zx := 0) (K := Ay) (T := AD) UF rfl rfl ⟨_, rfl, rfl⟩ (by kernel_rfl) (by kernel_rfl) ⟨_, rfl, rfl⟩ (Bb.mpwD (i := 2) hq.1 rfl (hr0_4.mono le28)) (fun h => by obtain ⟨_, rfl, rfl⟩ := h; rfl)) <| Dv [6, 7, 8, 9, 10] ?_
    exact Ww (by kernel_rfl) ⟨F1, hw38, (Wk _), fI⟩
   ·rintro f w39 ⟨F2, hs40, le41, ⟨_, rfl⟩⟩
    refine Ab <| Sq (Rg [0] ?_)
    refine Vs 1 <| Nt <| Cd h36 (fun hb47 h48 => ?_) (fun hb47 h49 => ?_)
    ·refine Sq (Rg [0, 1] ?_)
     refine Vs 2 <| Nt <| Rt <| Ae ?_
     obtain rfl := Aa h48
     exact ReB [(vi (DE x0.known_ x1 0))] hs40.dr0 (le28.t le41) ⟨a0_3, n0_3, e0_4, e0_5, rfl, rfl, hb0_3, (Wm hs0_3 (le28.t le41)), (hr0_4.mono (le28.t le41)), (hr0_5.mono (le28.t le41))⟩
    ·refine Sc ?_
     refine Ab <| Sq (Rg [0] ?_)
     refine Vs 1 <| Nss <| Sq (Rg [0] ?_)
     refine Vs 1 <| Nt ?_
     obtain ⟨o50, ho51, h52⟩ := bind_some h49
     refine Wq (fun f w => ∃ (s62 : (Int × Int × Bool × Bool × Bool × List WE × List (An × Int) × List (WE × Aq))) (F4 : Mem) (as62_5 : WF) (ns62_5 : Nat) (es62_6 : Option Nat × Obj) (es62_7 : Option Nat × Obj), o50 = .done s62 /\ HS wb Fb w F4 ((sb b21 (Ah x1) 143) :: (sb bp0 #[(.bool s62.2.2.1), (.bool s62.2.2.2.1), (.bool s62.2.2.2.2.1), (.slice as62_5 s62.2.2.2.2.2.1.length ns62_5), (.map (some mb0_4)), (.map (some mb0_5))] 148) :: es62_6 :: es62_7 :: Lf) /\ Wj F2 F4 /\ FI f [] [(0, (pt bp0 0)), (3, (pt b21 0)), (7, (vi s62.1))] /\ LC s62.2.2.2.2.2.1.length ns62_5 /\ SlA AM F4 as62_5 s62.2.2.2.2.2.1 /\ Bb Ay AD F4 mb0_4 s62.2.2.2.2.2.2.1 es62_6 /\ Bb AM As F4 mb0_5 s62.2.2.2.2.2.2.2 es62_7) ?_ ?_
     ·refine Bk ?_
      refine Wi (by kernel_rfl) (fun m f w => ∃ (s53 : (Int × Int × Bool × Bool × Bool × List WE × List (An × Int) × List (WE × Aq))) (F3 : Mem) (as53_5 : WF) (ns53_5 : Nat) (es53_6 : Option Nat × Obj) (es53_7 : Option Nat × Obj), AX (ET N sR109 x0 x1) m s53 = some o50 /\ HS wb Fb w F3 ((sb b21 (Ah x1) 143) :: (sb bp0 #[(.bool s53.2.2.1), (.bool s53.2.2.2.1), (.bool s53.2.2.2.2.1), (.slice as53_5 s53.2.2.2.2.2.1.length ns53_5), (.map (some mb0_4)), (.map (some mb0_5))] 148) :: es53_6 :: es53_7 :: Lf) /\ Wj F2 F3 /\ FI f [] [(0, (pt bp0 0)), (3, (pt b21 0)), (7, (vi s53.1)), (8, (vi s53.2.1))] /\ LC s53.2.2.2.2.2.1.length ns53_5 /\ SlA AM F3 as53_5 s53.2.2.2.2.2.1 /\ Bb Ay AD F3 mb0_4 s53.2.2.2.2.2.2.1 es53_6 /\ Bb AM As F3 mb0_5 s53.2.2.2.2.2.2.2 es53_7) N ⟨(1099511627776, 1, x0.o_.Report, x0.o_.Serial, x0.o_.Zone, x0.lines_, x0.known_, x0.read_), F2, a0_3, n0_3, e0_4, e0_5, ho51, hs40, (Wk _), fI, hb0_3, (Wm hs0_3 (le28.t le41)), (hr0_4.mono (le28.t le41)), (hr0_5.mono (le28.t le41))⟩ ?_
      rintro m70 f w54 ⟨s53, F3, as53_5, ns53_5, es53_6, es53_7, hit71, hs55, le56, ⟨_, rfl⟩, hbs53_5, hss53_5, hrs53_6, hrs53_7⟩
      obtain ⟨m72, fl73, rfl, hb74, hnx75⟩ := AN hit71
      refine Sq <| Sq (Rg [0, 1] ?_)
      refine Vs 2 <| Nt <| Cd hb74 (fun hb76 h77 => ?_) (fun hb76 h78 => ?_)
      ·refine Sc ?_
       refine Ab <| Sq <| Bk <| Sq (Rg (rG 13) ?_)
       refine Vs 1 <| Ld hs55.at0 <| Vs 1 ?_
       obtain ⟨r79, hr80, h81⟩ := bind_some h77
       refine CB Ff (Fz N (hG.mono ((le28.t le41).trans le56)) bp0 (({ o_ := ({ Report := s53.2.2.1, Serial := s53.2.2.2.1, Zone := s53.2.2.2.2.1 } : Ac), lines_ := s53.2.2.2.2.2.1, known_ := s53.2.2.2.2.2.2.1, read_ := s53.2.2.2.2.2.2.2 } : Al)) as53_5 ns53_5 mb0_4 es53_6 mb0_5 es53_7 hbs53_5 hss53_5 hrs53_6 hrs53_7 x1 s53.2.1 hs55.pk3.pk3.pk3 _ hr80) ?_
       rintro _ F5 w82 _ hs83 le84 ⟨ar79_0_3, nr79_0_3, er79_0_4, er79_0_5, rfl, rfl, hbr79_0_3, hsr79_0_3, hrr79_0_4, hrr79_0_5⟩
       refine Vs 4 <| Al' 143 #[(vi 0), (vi 0), (vi 0), (vi 0)] hs83 (fun b86 w87 hs88 => ?_)
       refine Al' 150 #[(vi 0), (vi 0), (sv (([] : WE)))] hs88 (fun b89 w90 hs91 => ?_)
       refine St1 (Ah r79.2.1) hs91 (fun w92 hs93 => ?_)
       refine St0 (FV r79.2.2.1) hs93 (fun w94 hs95 => ?_)
       refine Vs 1 <| Nss (Rg [0] ?_)
       refine Vs 1 <| Nt ?_
       obtain ⟨j99, hj105, h106⟩ := bind_some h81
       refine Wq (fun f w => ∃ (F6 : Mem) (aj99_4 : WF) (nj99_4 : Nat) (ej99_5 : Option Nat × Obj) (ej99_6 : Option Nat × Obj), HS wb Fb w F6 ((sb bp0 #[(.bool j99.2.1), (.bool j99.2.2.1), (.bool j99.2.2.2.1), (.slice aj99_4 j99.2.2.2.2.1.length nj99_4), (.map (some mb0_4)), (.map (some mb0_5))] 148) :: ej99_5 :: ej99_6 :: (sb b21 (Ah x1) 143) :: Lf) /\ Wj F5 F6 /\ FI f [] [(0, (pt bp0 0)), (3, (pt b21 0)), (7, (vi j99.1)), (8, (vi s53.2.1))] /\ LC j99.2.2.2.2.1.length nj99_4 /\ SlA AM F6 aj99_4 j99.2.2.2.2.1 /\ Bb Ay AD F6 mb0_4 j99.2.2.2.2.2.1 ej99_5 /\ Bb AM As F6 mb0_5 j99.2.2.2.2.2.2 ej99_6) ?_ ?_
       ·refine Cd hj105 (fun hb107 h108 => ?_) (fun hb107 h109 => ?_)
        ·obtain ⟨j115, hj121, h122⟩ := bind_some h108
         refine RD 9 9 [(sb b89 (FV r79.2.2.1) 150), (sb b86 (Ah r79.2.1) 143), (sb b21 (Ah x1) 143)] [] hs95 (fun f w => ∃ (F7 : Mem) (aj115_4 : WF) (nj115_4 : Nat) (ej115_5 : Option Nat × Obj) (ej115_6 : Option Nat × Obj), HS wb Fb w F7 ((sb bp0 #[(.bool j115.2.1), (.bool j115.2.2.1), (.bool j115.2.2.2.1), (.slice aj115_4 j115.2.2.2.2.1.length nj115_4), (.map (some mb0_4)), (.map (some mb0_5))] 148) :: ej115_5 :: ej115_6 :: (sb b21 (Ah x1) 143) :: Lf) /\ Wj F5 F7 /\ FI f [] [(0, (pt bp0 0)), (3, (pt b21 0)), (7, (vi j115.1)), (8, (vi s53.2.1))] /\ LC j115.2.2.2.2.1.length nj115_4 /\ SlA AM F7 aj115_4 j115.2.2.2.2.1 /\ Bb Ay AD F7 mb0_4 j115.2.2.2.2.2.1 ej115_5 /\ Bb AM As F7 mb0_5 j115.2.2.2.2.2.2 ej115_6) (fun wd110 hw111 => ?_) ?_
         ·refine Dv [0, 1, 3] ?_
          refine Dl 4 (fun _ hq => (hq.1.2 1 _ _ rfl)) <| D1 2 ?_
          obtain ⟨r123, hr124, h125⟩ := bind_some hj121
          refine DCl J6 hw111 (Lb N wd110 F5 hw111.pers s53.2.1 _ hr124) ?_
          rintro _ F8 w127 hs128 le129 rfl
          refine D1 5 ?_
          have hs131 := hs128.pk5.pk2.pk2.pk5.pk5
          obtain ⟨r132, hr133, h134⟩ := bind_some h125
          refine DCB Ci (hsR109 (hG.mono ((((le28.t le41).trans le56).trans le84).trans le129)) bp0 r79.1 ar79_0_3 nr79_0_3 mb0_4 er79_0_4 mb0_5 er79_0_5 hbr79_0_3 (Wm hsr79_0_3 le129) (hrr79_0_4.mono le129) (hrr79_0_5.mono le129) r79.2.1 hs131.pk5 _ hr133) ?_
          rintro _ F9 w135 _ hs136 le137 ⟨ar132_0_3, nr132_0_3, er132_0_4, er132_0_5, rfl, rfl, hbr132_0_3, hsr132_0_3, hrr132_0_4, hrr132_0_5⟩
          refine ⟨Bd hs136 (le129.t le137) (by simp) (zdT (by kernel_rfl)), ?_⟩
          refine Dv [6, 7, 8] ?_
          obtain rfl := Aa h134
          exact Ww (by kernel_rfl) ⟨F9, ar132_0_3, nr132_0_3, er132_0_4, er132_0_5, hs136.dr3.dr3, (le129.t le137), fI, hbr132_0_3, hsr132_0_3, hrr132_0_4, hrr132_0_5⟩
         ·rintro f w112 ⟨F7, aj115_4, nj115_4, ej115_5, ej115_6, hs113, le114, ⟨_, rfl⟩, hbj115_4, hsj115_4, hrj115_5, hrj115_6⟩
          obtain rfl := Aa h122
          exact .inl ⟨rfl, F7, aj115_4, nj115_4, ej115_5, ej115_6, hs113, le114, fI, hbj115_4, hsj115_4, hrj115_5, hrj115_6⟩
        ·refine Sc ?_
         obtain rfl := Aa h109
         exact .inl ⟨rfl, F5, ar79_0_3, nr79_0_3, er79_0_4, er79_0_5, hs95.dr0.dr0, (Wk _), fI, hbr79_0_3, hsr79_0_3, hrr79_0_4, hrr79_0_5⟩
       ·rintro f w96 ⟨F6, aj99_4, nj99_4, ej99_5, ej99_6, hs97, le98, ⟨_, rfl⟩, hbj99_4, hsj99_4, hrj99_5, hrj99_6⟩
        refine Au <| Ab <| Rg [0, 1, 2] <| Vs 3 <| Wf ?_
        have hn139 := AO h106 hnx75
        exact ⟨m72, Nat.lt_succ_self _, (j99.1, (W64 (s53.2.1 + 1)), j99.2.1, j99.2.2.1, j99.2.2.2.1, j99.2.2.2.2.1, j99.2.2.2.2.2.1, j99.2.2.2.2.2.2), F6, aj99_4, nj99_4, ej99_5, ej99_6, hn139, hs97.pk2.pk2.pk2.pk3, ((le56.t le84).trans le98), fI, hbj99_4, hsj99_4, hrj99_5, hrj99_6⟩
      ·refine Ex ?_
       refine Ar <| Ar <| Az rfl ?_
       have ho140 := AP h78 hnx75
       exact .inl ⟨rfl, (s53.1, s53.2.1, s53.2.2.1, s53.2.2.2.1, s53.2.2.2.2.1, s53.2.2.2.2.2.1, s53.2.2.2.2.2.2.1, s53.2.2.2.2.2.2.2), F3, as53_5, ns53_5, es53_6, es53_7, ho140, hs55, le56, fI, hbs53_5, hss53_5, hrs53_6, hrs53_7⟩
     ·rintro f w63 ⟨s62, F4, as62_5, ns62_5, es62_6, es62_7, rfl, hs64, le65, ⟨_, rfl⟩, hbs62_5, hss62_5, hrs62_6, hrs62_7⟩
      have h141 := BL h52
      refine Ab <| Sq ?_
      obtain ⟨j147, hj150, h151⟩ := bind_some h141
      refine RD 7 7 [(sb b21 (Ah x1) 143), (sb bp0 #[(.bool s62.2.2.1), (.bool s62.2.2.2.1), (.bool s62.2.2.2.2.1), (.slice as62_5 s62.2.2.2.2.2.1.length ns62_5), (.map (some mb0_4)), (.map (some mb0_5))] 148), es62_7] [] hs64 (fun f w => ∃ (F10 : Mem) (ej147_0 : Option Nat × Obj), HS wb Fb w F10 ((sb bp0 #[(.bool s62.2.2.1), (.bool s62.2.2.2.1), (.bool s62.2.2.2.2.1), (.slice as62_5 s62.2.2.2.2.2.1.length ns62_5), (.map (some mb0_4)), (.map (some mb0_5))] 148) :: ej147_0 :: es62_7 :: Lf) /\ Wj F4 F10 /\ FI f [] [(7, (vi s62.1))] /\ Bb Ay AD F10 mb0_4 j147 ej147_0) (fun wd142 hw143 => ?_) ?_
      ·refine Dv [0, 1, 2] ?_
       refine Dl 3 (fun _ hq => (hq.1.2 1 _ _ rfl)) <| Dl 4 (fun _ hq => (hq.1.2 0 _ _ rfl)) <| Dv [5] <| D1 6 <| Aw.mapPut (l' := [true, true, true, true, true, true, true]) (zd := true) (by kernel_rfl) (by kernel_rfl) UF (ty := 0) (g := none) (mt := 145) (k := 143) (vt := 3) (m := (.tmp 60)) (x := (.tmp 61)) (y := (.tmp 62)) (b := mb0_4) (kx := x1) (u := s62.1) (kv := (.agg (Ah x1))) (v := (vi s62.1)) (K := Ay) (T := AD) (by kernel_rfl) rfl rfl rfl rfl ⟨_, rfl, rfl⟩ ⟨_, rfl, rfl⟩ (by kernel_rfl) hw143 (q := 2) rfl hrs62_6 (Wk _) (fun _ => by simp) (fun e => by cases e) (fun e152 w153 (hs154 : HS wb Fb w153 F4 ((sb b21 (Ah x1) 143) :: (sb bp0 #[(.bool s62.2.2.1), (.bool s62.2.2.2.1), (.bool s62.2.2.2.2.1), (.slice as62_5 s62.2.2.2.2.2.1.length ns62_5), (.map (some mb0_4)), (.map (some mb0_5))] 148) :: e152 :: es62_7 :: Lf)) hr155 => ?_)
       obtain rfl := Aa hj150
       exact Ww (by kernel_rfl) ⟨F4, e152, hs154.dr0, (Wk _), fI, hr155⟩
      ·rintro f w144 ⟨F10, ej147_0, hs145, le146, ⟨_, rfl⟩, hrj147_0⟩
       refine Ab <| Sq (Rg [0, 1] ?_)
       refine Vs 2 <| Nt <| Rt ?_
       obtain rfl := Aa h151
       exact ReB [(vi s62.1)] hs145 (((le28.t le41).trans le65).trans le146) ⟨as62_5, ns62_5, ej147_0, es62_7, rfl, rfl, hbs62_5, (Wm hss62_5 le146), hrj147_0, (hrs62_7.mono le146)⟩
structure Vt where
 q109 : Al -> An -> Option (Al × Int)
def N9 (N : Nat) : Nat -> Vt
 | 0 => ⟨fun _ _ => none⟩
 | k + 1 => ⟨Fa N (N9 N k).q109⟩
theorem Ru (N : Nat) : ∀ k, OJ (N9 N k).q109 := by
 intro k
 induction k with
 | zero => unfold OJ; intros; rename_i h; cases h
 | succ k ih => exact @Iq N (N9 N k).q109 ih
def CZ (N : Nat) (x0 : Al) (x1 : An) : Option (Al × Int) := (N9 N N).q109 x0 x1
theorem DG (N : Nat) {wb w0 : World} {Fb F0 : Mem} {Lf : Own} (hG : Bz F0) (bp0 : Nat) (x0 : Al) (a0_3 : WF) (n0_3 : Nat) (mb0_4 : Nat) (e0_4 : Option Nat × Obj) (mb0_5 : Nat) (e0_5 : Option Nat × Obj) (hb0_3 : LC x0.lines_.length n0_3) (hs0_3 : SlA AM F0 a0_3 x0.lines_) (hr0_4 : Bb Ay AD F0 mb0_4 x0.known_ e0_4) (hr0_5 : Bb AM As F0 mb0_5 x0.read_ e0_5) (x1 : An) (hs0 : HS wb Fb w0 F0 ((some bp0, (.cells #[(.bool x0.o_.Report), (.bool x0.o_.Serial), (.bool x0.o_.Zone), (.slice a0_3 x0.lines_.length n0_3), (.map (some mb0_4)), (.map (some mb0_5))] 148 (0, 0))) :: e0_4 :: e0_5 :: Lf)) (r : (Al × Int)) (h : CZ N x0 x1 = some r) :
  Calls Tryz.prog 109 ([(.pointer (some ⟨bp0, 0, none⟩)), (.agg #[(.int .i64 x1.at_), (.int .i64 x1.stage_), (.int .i64 x1.num_), (.int .i64 x1.minute_)])] : List Value).toArray w0 (EE wb Fb F0 fun F' v L' => ∃ (aq0_3 : WF) (nq0_3 : Nat) (eq0_4 : Option Nat × Obj) (eq0_5 : Option Nat × Obj), v = (.int .i64 r.2) /\ L' = (some bp0, (.cells #[(.bool r.1.o_.Report), (.bool r.1.o_.Serial), (.bool r.1.o_.Zone), (.slice aq0_3 r.1.lines_.length nq0_3), (.map (some mb0_4)), (.map (some mb0_5))] 148 (0, 0))) :: eq0_4 :: eq0_5 :: Lf /\ LC r.1.lines_.length nq0_3 /\ SlA AM F' aq0_3 r.1.lines_ /\ Bb Ay AD F' mb0_4 r.1.known_ eq0_4 /\ Bb AM As F' mb0_5 r.1.read_ eq0_5) := (Ru N N) hG bp0 x0 a0_3 n0_3 mb0_4 e0_4 mb0_5 e0_5 hb0_3 hs0_3 hr0_4 hr0_5 x1 hs0 r h
def HP (N : Nat) (x0 : Ac) (x1 : WE) (m33 : Al) (r39 : An) (r47 : (Al × Int)) (r57 : An) (s75 : (List Et × Bool × Bool × Bool × List WE × Int × Int × Int × Int × List (An × Int) × List (WE × Aq))) : (List Et × Int × Bool × Bool × Bool × List WE × Int × Int × Int × Int × List (An × Int) × List (WE × Aq)) -> Option (Bt (WE × (List Et) × Int × Int) (List Et × Int × Bool × Bool × Bool × List WE × Int × Int × Int × Int × List (An × Int) × List (WE × Aq))) := fun s118 =>
 ((EA N ({ o_ := ({ Report := s118.2.2.1, Serial := s118.2.2.2.1, Zone := s118.2.2.2.2.1 } : Ac), lines_ := s118.2.2.2.2.2.1, known_ := s118.2.2.2.2.2.2.2.2.2.2.1, read_ := s118.2.2.2.2.2.2.2.2.2.2.2 } : Al) ({ at_ := s118.2.2.2.2.2.2.1, stage_ := s118.2.2.2.2.2.2.2.1, num_ := s118.2.2.2.2.2.2.2.2.1, minute_ := s118.2.2.2.2.2.2.2.2.2.1 } : An) s118.2.1).bind fun r146 => ((bif r146.2.2.2 then ((Kt N s118.2.1).bind fun r184 => ((CZ N r146.1 r146.2.1).bind fun r193 => ((CZ N r193.1 ({ at_ := s118.2.2.2.2.2.2.1, stage_ := s118.2.2.2.2.2.2.2.1, num_ := s118.2.2.2.2.2.2.2.2.1, minute_ := s118.2.2.2.2.2.2.2.2.2.1 } : An)).bind fun r200 => some (((W64 (r184 + r193.2)) == r200.2), r200.1.o_.Report, r200.1.o_.Serial, r200.1.o_.Zone, r200.1.lines_, r200.1.known_, r200.1.read_)))) else some (false, r146.1.o_.Report, r146.1.o_.Serial, r146.1.o_.Zone, r146.1.lines_, r146.1.known_, r146.1.read_)).bind fun j168 => (bif j168.1 then ((D3 s118.1 [r146.2.2.1]).bind fun r216 => some (.done (r216, s118.2.1, j168.2.1, j168.2.2.1, j168.2.2.2.1, j168.2.2.2.2.1, r146.2.1.at_, r146.2.1.stage_, r146.2.1.num_, r146.2.1.minute_, j168.2.2.2.2.2.1, j168.2.2.2.2.2.2))) else some (.next (s118.1, (W64 (s118.2.1 + 1)), j168.2.1, j168.2.2.1, j168.2.2.2.1, j168.2.2.2.2.1, s118.2.2.2.2.2.2.1, s118.2.2.2.2.2.2.2.1, s118.2.2.2.2.2.2.2.2.1, s118.2.2.2.2.2.2.2.2.2.1, j168.2.2.2.2.2.1, j168.2.2.2.2.2.2)))))
def HQ (N : Nat) (x0 : Ac) (x1 : WE) (m33 : Al) (r39 : An) (r47 : (Al × Int)) (r57 : An) : (List Et × Bool × Bool × Bool × List WE × Int × Int × Int × Int × List (An × Int) × List (WE × Aq)) -> Option (Bt (WE × (List Et) × Int × Int) (List Et × Bool × Bool × Bool × List WE × Int × Int × Int × Int × List (An × Int) × List (WE × Aq))) := fun s75 =>
 (bif ((decide (s75.2.2.2.2.2.1 < (s75.2.2.2.2.1.length : Int))) || (decide (s75.2.2.2.2.2.2.1 < 6))) then ((AX (HP N x0 x1 m33 r39 r47 r57 s75) N (s75.1, 1, s75.2.1, s75.2.2.1, s75.2.2.2.1, s75.2.2.2.2.1, s75.2.2.2.2.2.1, s75.2.2.2.2.2.2.1, s75.2.2.2.2.2.2.2.1, s75.2.2.2.2.2.2.2.2.1, s75.2.2.2.2.2.2.2.2.2.1, s75.2.2.2.2.2.2.2.2.2.2)).bind fun o => o.k (fun r => some (.ret r)) (fun s129 => some (.next (s129.1, s129.2.2.1, s129.2.2.2.1, s129.2.2.2.2.1, s129.2.2.2.2.2.1, s129.2.2.2.2.2.2.1, s129.2.2.2.2.2.2.2.1, s129.2.2.2.2.2.2.2.2.1, s129.2.2.2.2.2.2.2.2.2.1, s129.2.2.2.2.2.2.2.2.2.2.1, s129.2.2.2.2.2.2.2.2.2.2.2)))) else some (.done (s75.1, s75.2.1, s75.2.2.1, s75.2.2.2.1, s75.2.2.2.2.1, s75.2.2.2.2.2.1, s75.2.2.2.2.2.2.1, s75.2.2.2.2.2.2.2.1, s75.2.2.2.2.2.2.2.2.1, s75.2.2.2.2.2.2.2.2.2.1, s75.2.2.2.2.2.2.2.2.2.2)))
def K1 (N : Nat) (x0 : Ac) (x1 : WE) : Option (WE × (List Et) × Int × Int) :=
 ((GX N ({ Report := x0.Report, Serial := x0.Serial, Zone := x0.Zone } : Ac) x1).bind fun r24 => osk r24 (some (([] : WE), ([] : List Et), 0, 2)) (fun m33 => ((Jl N ).bind fun r39 => ((CZ N m33 r39).bind fun r47 => (bif (decide (r47.2 >= 1099511627776)) then none else ((Jl N ).bind fun r57 => ((AX (HQ N x0 x1 m33 r39 r47 r57) N (([] : List Et), r47.1.o_.Report, r47.1.o_.Serial, r47.1.o_.Zone, r47.1.lines_, r57.at_, r57.stage_, r57.num_, r57.minute_, r47.1.known_, r47.1.read_)).bind fun o => o.k (fun r => some r) (fun s85 => ((K2 N x1 s85.1).bind fun r245 => some (r245.1, s85.1, r47.2, r245.2))))))))))
theorem ML : Af Tryz.prog 36 := fun _ _ => by kernel_rfl
theorem Nm (N : Nat) (w0 : World) (F0 : Mem) (hF : WG w0 F0) (hG : Bz F0) (x0 : Ac) (x1 : WE) (r : (WE × (List Et) × Int × Int)) (h : K1 N x0 x1 = some r) :
  Calls Tryz.prog 36 ([(.agg (Ak x0)), (sv x1)] : List Value).toArray w0 (AB w0 F0 fun F' v => ∃ (aq1_0 : WF) (nq1_0 : Nat), v = (.tuple #[(sv r.1), (.slice aq1_0 r.2.1.length nq1_0), (vi r.2.2.1), (vi r.2.2.2)]) /\ LC r.2.1.length nq1_0 /\ SlA JC F' aq1_0 r.2.1) := by
 have hs0 := Wl hF
 refine Go 85 Tryz.func36 <| Sq (Rg (rG 5) ?_)
 refine Bx' 23 (Ak x0) hs0 (fun b21 w22 hs23 => ?_)
 refine Vs 4 <| Nss (Rg (rG 8) ?_)
 refine Ld hs23.at0 <| Vs 1 ?_
 obtain ⟨r24, hr25, h26⟩ := bind_some h
 refine RWP.callO (dst := (some 21)) (ty := 139) (g := none) (by kernel_rfl) rfl (f0 := (.func 108)) (aos := #[(.tmp 19), (.tmp 20)]) (ats := #[23, 9]) (fid := 108) (first := #[]) (cap := #[]) (args := [(.agg (Ak x0)), (sv x1)]) rfl Ho rfl hs23 (Im N w22 F0 hs23.pers hG (({ Report := x0.Report, Serial := x0.Serial, Zone := x0.Zone } : Ac)) x1 _ hr25) ?_
 rintro v27 F1 w28 L32 hs29 le30 hp31
 rcases r24 with _ | m33
 ·obtain ⟨rfl, rfl⟩ := FH hp31
  have h34 := UD h26
  have hs35 : HS w0 F0 w28 F1 [(sb b21 (Ak x0) 23)] := hs29
  refine Vs 5 <| Nss <| Sq (Rg [0, 1] ?_)
  refine Vs 2 <| Nt <| C1 (rfl : true = true) <| Sq (Rg (rG 5) ?_)
  refine Vs 5 <| Nt <| Rt <| Ae ?_
  obtain rfl := Aa h34
  exact Re [(sv (([] : WE))), (.slice none ([] : List Et).length 0), (vi 0), (vi 2)] hs35 ⟨none, 0, rfl, Wn, (.inl rfl)⟩
 ·obtain ⟨b36, am33_3, nm33_3, mbm33_4, em33_4, mbm33_5, em33_5, rfl, rfl, hbm33_3, hsm33_3, hrm33_4, hrm33_5⟩ := FG hp31
  have h37 := UC h26
  have hs38 : HS w0 F0 w28 F1 [(sb b36 #[(.bool m33.o_.Report), (.bool m33.o_.Serial), (.bool m33.o_.Zone), (.slice am33_3 m33.lines_.length nm33_3), (.map (some mbm33_4)), (.map (some mbm33_5))] 148), em33_4, em33_5, (sb b21 (Ak x0) 23)] := hs29
  refine Vs 5 <| Nss <| Sq (Rg [0, 1] ?_)
  refine Vs 2 <| Nt <| C0 (rfl : false = false) <| Sc <| Ab <| Sq (Rg (rG 4) ?_)
  refine Vs 1 ?_
  obtain ⟨r39, hr40, h41⟩ := bind_some h37
  refine Cl' I4 hs38 (Ke N w28 F1 hs38.pers  _ hr40) ?_
  rintro _ F2 w43 hs44 le45 rfl
  obtain ⟨r47, hr48, h49⟩ := bind_some h41
  refine CB Ci (DG N (hG.mono (le30.t le45)) b36 m33 am33_3 nm33_3 mbm33_4 em33_4 mbm33_5 em33_5 hbm33_3 (Wm hsm33_3 le45) (hrm33_4.mono le45) (hrm33_5.mono le45) r39 hs44 _ hr48) ?_
  rintro _ F3 w50 _ hs51 le52 ⟨ar47_0_3, nr47_0_3, er47_0_4, er47_0_5, rfl, rfl, hbr47_0_3, hsr47_0_3, hrr47_0_4, hrr47_0_5⟩
  refine Vs 1 <| Nss <| Sq (Rg [0, 1] ?_)
  refine Vs 2 <| Nt <| Cd h49 (fun hb54 h55 => ?_) (fun hb54 h56 => ?_)
  ·cases h55
  ·refine Sc ?_
   refine Ab <| Sq (Rg [0] ?_)
   refine Vs 1 <| Nss <| Sq (Rg [0, 1, 2] ?_)
   obtain ⟨r57, hr58, h59⟩ := bind_some h56
   refine Cl' I4 hs51 (Ke N w50 F3 hs51.pers  _ hr58) ?_
   rintro _ F4 w61 hs62 le63 rfl
   refine Al' 143 #[(vi 0), (vi 0), (vi 0), (vi 0)] hs62 (fun b65 w66 hs67 => ?_)
   refine St0 (Ah r57) hs67 (fun w68 hs69 => ?_)
   refine Nt ?_
   have hs70 := hs69.dr4.dummy (oc #[] 0)
   obtain ⟨o72, ho73, h74⟩ := bind_some h59
   refine Wq (fun f w => ∃ (s85 : (List Et × Bool × Bool × Bool × List WE × Int × Int × Int × Int × List (An × Int) × List (WE × Aq))) (F6 : Mem) (as85_0 : WF) (ns85_0 : Nat) (es85_0 : Option Nat × Obj), o72 = .done s85 /\ HS w0 F0 w F6 [es85_0] /\ Wj F4 F6 /\ FI f [] [(1, (sv x1)), (10, (vi r47.2)), (11, (.slice as85_0 s85.1.length ns85_0))] /\ Av JC 150 F6 as85_0 ns85_0 s85.1 es85_0) ?_ ?_
   ·refine Bk ?_
    refine Wi (by kernel_rfl) (fun m f w => ∃ (s75 : (List Et × Bool × Bool × Bool × List WE × Int × Int × Int × Int × List (An × Int) × List (WE × Aq))) (F5 : Mem) (b65 : Nat) (as75_4 : WF) (ns75_4 : Nat) (es75_9 : Option Nat × Obj) (es75_10 : Option Nat × Obj) (as75_0 : WF) (ns75_0 : Nat) (es75_0 : Option Nat × Obj), AX (HQ N x0 x1 m33 r39 r47 r57) m s75 = some o72 /\ HS w0 F0 w F5 [es75_0, (sb b65 #[(vi s75.2.2.2.2.2.1), (vi s75.2.2.2.2.2.2.1), (vi s75.2.2.2.2.2.2.2.1), (vi s75.2.2.2.2.2.2.2.2.1)] 143), (sb b36 #[(.bool s75.2.1), (.bool s75.2.2.1), (.bool s75.2.2.2.1), (.slice as75_4 s75.2.2.2.2.1.length ns75_4), (.map (some mbm33_4)), (.map (some mbm33_5))] 148), es75_9, es75_10] /\ Wj F4 F5 /\ FI f [] [(1, (sv x1)), (8, (pt b36 0)), (10, (vi r47.2)), (11, (.slice as75_0 s75.1.length ns75_0)), (12, (pt b65 0))] /\ LC s75.2.2.2.2.1.length ns75_4 /\ SlA AM F5 as75_4 s75.2.2.2.2.1 /\ Bb Ay AD F5 mbm33_4 s75.2.2.2.2.2.2.2.2.2.1 es75_9 /\ Bb AM As F5 mbm33_5 s75.2.2.2.2.2.2.2.2.2.2 es75_10 /\ Av JC 150 F5 as75_0 ns75_0 s75.1 es75_0) N ⟨(([] : List Et), r47.1.o_.Report, r47.1.o_.Serial, r47.1.o_.Zone, r47.1.lines_, r57.at_, r57.stage_, r57.num_, r57.minute_, r47.1.known_, r47.1.read_), F4, b65, ar47_0_3, nr47_0_3, er47_0_4, er47_0_5, none, 0, (none, .cells #[] 0 (0, 0)), ho73, hs70, (Wk _), fI, hbr47_0_3, (Wm hsr47_0_3 le63), (hrr47_0_4.mono le63), (hrr47_0_5.mono le63), (Wy JC 150 F4 _)⟩ ?_
    rintro m93 f w76 ⟨s75, F5, b65, as75_4, ns75_4, es75_9, es75_10, as75_0, ns75_0, es75_0, hit94, hs77, le78, ⟨_, rfl⟩, hbs75_4, hss75_4, hrs75_9, hrs75_10, hrs75_0⟩
    obtain ⟨m95, fl96, rfl, hb97, hnx98⟩ := AN hit94
    refine Sq <| Sq <| RD 13 13 [es75_0, (sb b65 #[(vi s75.2.2.2.2.2.1), (vi s75.2.2.2.2.2.2.1), (vi s75.2.2.2.2.2.2.2.1), (vi s75.2.2.2.2.2.2.2.2.1)] 143), (sb b36 #[(.bool s75.2.1), (.bool s75.2.2.1), (.bool s75.2.2.2.1), (.slice as75_4 s75.2.2.2.2.1.length ns75_4), (.map (some mbm33_4)), (.map (some mbm33_5))] 148), es75_9, es75_10] [] hs77 (fun f w => ∃ (F7 : Mem), HS w0 F0 w F7 [es75_0, (sb b65 #[(vi s75.2.2.2.2.2.1), (vi s75.2.2.2.2.2.2.1), (vi s75.2.2.2.2.2.2.2.1), (vi s75.2.2.2.2.2.2.2.2.1)] 143), (sb b36 #[(.bool s75.2.1), (.bool s75.2.2.1), (.bool s75.2.2.2.1), (.slice as75_4 s75.2.2.2.2.1.length ns75_4), (.map (some mbm33_4)), (.map (some mbm33_5))] 148), es75_9, es75_10] /\ Wj F5 F7 /\ FI f [] [(1, (sv x1)), (8, (pt b36 0)), (10, (vi r47.2)), (11, (.slice as75_0 s75.1.length ns75_0)), (12, (pt b65 0)), (45, (.bool ((decide (s75.2.2.2.2.2.1 < (s75.2.2.2.2.1.length : Int))) || (decide (s75.2.2.2.2.2.2.1 < 6)))))]) (fun wd99 hw100 => ?_) ?_
    ·refine Dv [0] ?_
     refine Dl 1 (fun _ hq => (hq.1.2 1 _ _ rfl)) <| Dv [2, 3, 4] <| Dl 5 (fun _ hq => (hq.1.2 2 _ _ rfl)) <| Dv [6, 7, 8] <| DWP.split (decide (s75.2.2.2.2.2.1 < (s75.2.2.2.2.1.length : Int))) (fun hb111 => ?_) (fun hb111 => ?_)
     ·refine Dk [(9, 42), (10, 43), (11, 44)] 8 false 41 hb111 ?_
      refine Dt 12 45 4 _ (fun _ hq => p1 41 (.const (.bool true)) (.tmp 44) (.bool true) hb111) ?_
      exact Ww (by kernel_rfl) ⟨F5, hw100, (Wk _), (fJ ⟨rfl, rfl, rfl, rfl, rfl, (congrArg Value.bool (Hv hb111 rfl)), trivial⟩)⟩
     ·refine Dg 9 42 0 (pt b65 1) 8 false 41 hb111 (fun _ hq => fa 143 12 1 1 1 b65 0 1) ?_
      refine Dg 10 43 3 _ 8 false 41 hb111 (fun _ hq => ld 3 42 b65 1 false 1 (vi s75.2.2.2.2.2.2.1) (hq.1.2 1 _ _ rfl)) <| Dg 11 44 4 (.bool (decide (s75.2.2.2.2.2.2.1 < 6))) 8 false 41 hb111 (fun _ hq => JH (t := 3) (t' := 3) (x := (.tmp 43)) (y := (.const (vi 6))) (k := .i64) (a := s75.2.2.2.2.2.2.1) (b := 6) rfl rfl) <| Dt 12 45 4 _ (fun _ hq => p0 41 (.const (.bool true)) (.tmp 44) (.bool (decide (s75.2.2.2.2.2.2.1 < 6))) hb111) ?_
      exact Ww (by kernel_rfl) ⟨F5, hw100, (Wk _), (fJ ⟨rfl, rfl, rfl, rfl, rfl, (congrArg Value.bool (Da hb111 rfl)), trivial⟩)⟩
    ·rintro f w101 ⟨F7, hs102, le103, ⟨_, rfl⟩⟩
     refine Ab <| Cd hb97 (fun hb112 h113 => ?_) (fun hb112 h114 => ?_)
     ·refine Sc ?_
      refine Ab <| Sq <| Bk <| Sq (Rg [0] ?_)
      refine Vs 1 <| Nt ?_
      obtain ⟨o115, ho116, h117⟩ := bind_some h113
      refine Wq (fun f w => ∃ (s129 : (List Et × Int × Bool × Bool × Bool × List WE × Int × Int × Int × Int × List (An × Int) × List (WE × Aq))) (F9 : Mem) (as129_5 : WF) (ns129_5 : Nat) (es129_10 : Option Nat × Obj) (es129_11 : Option Nat × Obj) (as129_0 : WF) (ns129_0 : Nat) (es129_0 : Option Nat × Obj), o115 = .done s129 /\ HS w0 F0 w F9 [es129_0, (sb b65 #[(vi s129.2.2.2.2.2.2.1), (vi s129.2.2.2.2.2.2.2.1), (vi s129.2.2.2.2.2.2.2.2.1), (vi s129.2.2.2.2.2.2.2.2.2.1)] 143), (sb b36 #[(.bool s129.2.2.1), (.bool s129.2.2.2.1), (.bool s129.2.2.2.2.1), (.slice as129_5 s129.2.2.2.2.2.1.length ns129_5), (.map (some mbm33_4)), (.map (some mbm33_5))] 148), es129_10, es129_11] /\ Wj F7 F9 /\ FI f [] [(1, (sv x1)), (8, (pt b36 0)), (10, (vi r47.2)), (11, (.slice as129_0 s129.1.length ns129_0)), (12, (pt b65 0))] /\ LC s129.2.2.2.2.2.1.length ns129_5 /\ SlA AM F9 as129_5 s129.2.2.2.2.2.1 /\ Bb Ay AD F9 mbm33_4 s129.2.2.2.2.2.2.2.2.2.2.1 es129_10 /\ Bb AM As F9 mbm33_5 s129.2.2.2.2.2.2.2.2.2.2.2 es129_11 /\ Av JC 150 F9 as129_0 ns129_0 s129.1 es129_0) ?_ ?_
      ·refine Bk ?_
       refine Wi (by kernel_rfl) (fun m f w => ∃ (s118 : (List Et × Int × Bool × Bool × Bool × List WE × Int × Int × Int × Int × List (An × Int) × List (WE × Aq))) (F8 : Mem) (as118_5 : WF) (ns118_5 : Nat) (es118_10 : Option Nat × Obj) (es118_11 : Option Nat × Obj) (as118_0 : WF) (ns118_0 : Nat) (es118_0 : Option Nat × Obj), AX (HP N x0 x1 m33 r39 r47 r57 s75) m s118 = some o115 /\ HS w0 F0 w F8 [es118_0, (sb b65 #[(vi s118.2.2.2.2.2.2.1), (vi s118.2.2.2.2.2.2.2.1), (vi s118.2.2.2.2.2.2.2.2.1), (vi s118.2.2.2.2.2.2.2.2.2.1)] 143), (sb b36 #[(.bool s118.2.2.1), (.bool s118.2.2.2.1), (.bool s118.2.2.2.2.1), (.slice as118_5 s118.2.2.2.2.2.1.length ns118_5), (.map (some mbm33_4)), (.map (some mbm33_5))] 148), es118_10, es118_11] /\ Wj F7 F8 /\ FI f [] [(1, (sv x1)), (8, (pt b36 0)), (10, (vi r47.2)), (11, (.slice as118_0 s118.1.length ns118_0)), (12, (pt b65 0)), (13, (vi s118.2.1))] /\ LC s118.2.2.2.2.2.1.length ns118_5 /\ SlA AM F8 as118_5 s118.2.2.2.2.2.1 /\ Bb Ay AD F8 mbm33_4 s118.2.2.2.2.2.2.2.2.2.2.1 es118_10 /\ Bb AM As F8 mbm33_5 s118.2.2.2.2.2.2.2.2.2.2.2 es118_11 /\ Av JC 150 F8 as118_0 ns118_0 s118.1 es118_0) N ⟨(s75.1, 1, s75.2.1, s75.2.2.1, s75.2.2.2.1, s75.2.2.2.2.1, s75.2.2.2.2.2.1, s75.2.2.2.2.2.2.1, s75.2.2.2.2.2.2.2.1, s75.2.2.2.2.2.2.2.2.1, s75.2.2.2.2.2.2.2.2.2.1, s75.2.2.2.2.2.2.2.2.2.2), F7, as75_4, ns75_4, es75_9, es75_10, as75_0, ns75_0, es75_0, ho116, hs102, (Wk _), fI, hbs75_4, (Wm hss75_4 le103), (hrs75_9.mono le103), (hrs75_10.mono le103), (hrs75_0.mono le103)⟩ ?_
       rintro m139 f w119 ⟨s118, F8, as118_5, ns118_5, es118_10, es118_11, as118_0, ns118_0, es118_0, hit140, hs120, le121, ⟨_, rfl⟩, hbs118_5, hss118_5, hrs118_10, hrs118_11, hrs118_0⟩
       obtain ⟨m141, fl142, rfl, hb143, hnx144⟩ := AN hit140
       refine Sq <| Bk <| Sq (Rg (rG 13) ?_)
       refine Vs 1 <| Ld hs120.at1 <| Vs 1 ?_
       have hs145 := hs120.pk1.pk1.pk4.pk4.pk4
       obtain ⟨r146, hr147, h148⟩ := bind_some hb143
       refine CB Ff (Fz N (hG.mono ((((((le30.t le45).trans le52).trans le63).trans le78).trans le103).trans le121)) b36 (({ o_ := ({ Report := s118.2.2.1, Serial := s118.2.2.2.1, Zone := s118.2.2.2.2.1 } : Ac), lines_ := s118.2.2.2.2.2.1, known_ := s118.2.2.2.2.2.2.2.2.2.2.1, read_ := s118.2.2.2.2.2.2.2.2.2.2.2 } : Al)) as118_5 ns118_5 mbm33_4 es118_10 mbm33_5 es118_11 hbs118_5 hss118_5 hrs118_10 hrs118_11 (({ at_ := s118.2.2.2.2.2.2.1, stage_ := s118.2.2.2.2.2.2.2.1, num_ := s118.2.2.2.2.2.2.2.2.1, minute_ := s118.2.2.2.2.2.2.2.2.2.1 } : An)) s118.2.1 hs145 _ hr147) ?_
       rintro _ F10 w149 _ hs150 le151 ⟨ar146_0_3, nr146_0_3, er146_0_4, er146_0_5, rfl, rfl, hbr146_0_3, hsr146_0_3, hrr146_0_4, hrr146_0_5⟩
       refine Vs 4 <| Al' 143 #[(vi 0), (vi 0), (vi 0), (vi 0)] hs150 (fun b153 w154 hs155 => ?_)
       refine Al' 150 #[(vi 0), (vi 0), (sv (([] : WE)))] hs155 (fun b156 w157 hs158 => ?_)
       refine St1 (Ah r146.2.1) hs158 (fun w159 hs160 => ?_)
       refine St0 (FV r146.2.2.1) hs160 (fun w161 hs162 => ?_)
       refine Vs 1 <| Nss ?_
       obtain ⟨j168, hj179, h180⟩ := bind_some h148
       refine RD 13 13 [(sb b156 (FV r146.2.2.1) 150), (sb b153 (Ah r146.2.1) 143), es118_0, (sb b65 #[(vi s118.2.2.2.2.2.2.1), (vi s118.2.2.2.2.2.2.2.1), (vi s118.2.2.2.2.2.2.2.2.1), (vi s118.2.2.2.2.2.2.2.2.2.1)] 143)] [] hs162 (fun f w => ∃ (F11 : Mem) (aj168_4 : WF) (nj168_4 : Nat) (ej168_5 : Option Nat × Obj) (ej168_6 : Option Nat × Obj), HS w0 F0 w F11 [(sb b156 (FV r146.2.2.1) 150), (sb b153 (Ah r146.2.1) 143), (sb b36 #[(.bool j168.2.1), (.bool j168.2.2.1), (.bool j168.2.2.2.1), (.slice aj168_4 j168.2.2.2.2.1.length nj168_4), (.map (some mbm33_4)), (.map (some mbm33_5))] 148), ej168_5, ej168_6, es118_0, (sb b65 #[(vi s118.2.2.2.2.2.2.1), (vi s118.2.2.2.2.2.2.2.1), (vi s118.2.2.2.2.2.2.2.2.1), (vi s118.2.2.2.2.2.2.2.2.2.1)] 143)] /\ Wj F10 F11 /\ FI f [] [(1, (sv x1)), (8, (pt b36 0)), (10, (vi r47.2)), (11, (.slice as118_0 s118.1.length ns118_0)), (12, (pt b65 0)), (13, (vi s118.2.1)), (14, (pt b153 0)), (15, (pt b156 0)), (68, (.bool j168.1))] /\ LC j168.2.2.2.2.1.length nj168_4 /\ SlA AM F11 aj168_4 j168.2.2.2.2.1 /\ Bb Ay AD F11 mbm33_4 j168.2.2.2.2.2.1 ej168_5 /\ Bb AM As F11 mbm33_5 j168.2.2.2.2.2.2 ej168_6) (fun wd163 hw164 => ?_) ?_
       ·refine Dv [0, 1] ?_
        refine Sd hj179 (fun hb181 h182 => ?_) (fun hb181 h183 => ?_)
        ·refine Dg 2 58 3 _ 1 true 57 hb181 (fun _ hq => mv 13 (vi s118.2.1)) ?_
         refine Dg 4 60 138 _ 1 true 57 hb181 (fun _ hq => mv 8 (pt b36 0)) <| Dg 5 61 143 _ 1 true 57 hb181 (fun _ hq => ld 143 14 b153 0 true 4 (.agg (Ah r146.2.1)) (hq.1.2 1 _ _ rfl)) <| Dg 8 64 138 _ 1 true 57 hb181 (fun _ hq => mv 8 (pt b36 0)) <| Dg 9 65 143 _ 1 true 57 hb181 (fun _ hq => ld 143 12 b65 0 true 4 (.agg #[(vi s118.2.2.2.2.2.2.1), (vi s118.2.2.2.2.2.2.2.1), (vi s118.2.2.2.2.2.2.2.2.1), (vi s118.2.2.2.2.2.2.2.2.2.1)]) (hq.1.2 3 _ _ rfl)) <| D1 3 ?_
         obtain ⟨r184, hr185, h186⟩ := bind_some h182
         refine Wv (l' := [true, true, true, true, true, true, false, false, true, true, false, false, false]) (zd := true) (by kernel_rfl) (by kernel_rfl) (by kernel_rfl) (dst := (some 59)) (ty := 3) (g := (some (1, true))) (by kernel_rfl) (HY (d := 57) (by kernel_rfl) rfl hb181) (f0 := (.func 112)) (aos := #[(.tmp 58)]) (ats := #[3]) (fid := 112) (first := #[]) (cap := #[]) (args := [(vi s118.2.1)]) rfl J6 rfl hw164 (Lb N wd163 F10 hw164.pers s118.2.1 _ hr185) ?_
         rintro _ F12 w188 hs189 le190 rfl
         refine D1 6 ?_
         have hs192 := hs189.pk6.pk6.pk3.pk3.pk6
         obtain ⟨r193, hr194, h195⟩ := bind_some h186
         refine Aw.callB (l' := [true, true, true, true, true, true, true, false, true, true, false, false, false]) (zd := true) (by kernel_rfl) (by kernel_rfl) (dst := (some 62)) (ty := 3) (g := (some (1, true))) (by kernel_rfl) (HY (d := 57) (by kernel_rfl) rfl hb181) (f0 := (.func 109)) (aos := #[(.tmp 60), (.tmp 61)]) (ats := #[138, 143]) (fid := 109) (first := #[]) (cap := #[]) (args := [(pt b36 0), (.agg (Ah r146.2.1))]) rfl Ci rfl (DG N (hG.mono ((((((((le30.t le45).trans le52).trans le63).trans le78).trans le103).trans le121).trans le151).trans le190)) b36 r146.1 ar146_0_3 nr146_0_3 mbm33_4 er146_0_4 mbm33_5 er146_0_5 hbr146_0_3 (Wm hsr146_0_3 le190) (hrr146_0_4.mono le190) (hrr146_0_5.mono le190) r146.2.1 hs192.pk6.pk6 _ hr194) ?_
         rintro _ F13 w196 _ hs197 le198 ⟨ar193_0_3, nr193_0_3, er193_0_4, er193_0_5, rfl, rfl, hbr193_0_3, hsr193_0_3, hrr193_0_4, hrr193_0_5⟩
         refine ⟨Bd hs197 (le190.t le198) (by simp) (zdT (by kernel_rfl)), ?_⟩
         refine Dg 7 63 3 (vi (W64 (r184 + r193.2))) 1 true 57 hb181 (fun _ hq => QJ (t := 3) (t' := 3) (x := (.tmp 59)) (y := (.tmp 62)) (k := .i64) (a := r184) (b := r193.2) rfl rfl) <| D1 10 ?_
         obtain ⟨r200, hr201, h202⟩ := bind_some h195
         refine Aw.callB (l' := [true, true, true, true, true, true, true, true, true, true, true, false, false]) (zd := true) (by kernel_rfl) (by kernel_rfl) (dst := (some 66)) (ty := 3) (g := (some (1, true))) (by kernel_rfl) (HY (d := 57) (by kernel_rfl) rfl hb181) (f0 := (.func 109)) (aos := #[(.tmp 64), (.tmp 65)]) (ats := #[138, 143]) (fid := 109) (first := #[]) (cap := #[]) (args := [(pt b36 0), (.agg #[(vi s118.2.2.2.2.2.2.1), (vi s118.2.2.2.2.2.2.2.1), (vi s118.2.2.2.2.2.2.2.2.1), (vi s118.2.2.2.2.2.2.2.2.2.1)])]) rfl Ci rfl (DG N (hG.mono (((((((((le30.t le45).trans le52).trans le63).trans le78).trans le103).trans le121).trans le151).trans le190).trans le198)) b36 r193.1 ar193_0_3 nr193_0_3 mbm33_4 er193_0_4 mbm33_5 er193_0_5 hbr193_0_3 hsr193_0_3 hrr193_0_4 hrr193_0_5 (({ at_ := s118.2.2.2.2.2.2.1, stage_ := s118.2.2.2.2.2.2.2.1, num_ := s118.2.2.2.2.2.2.2.2.1, minute_ := s118.2.2.2.2.2.2.2.2.2.1 } : An)) hs197 _ hr201) ?_
         rintro _ F14 w203 _ hs204 le205 ⟨ar200_0_3, nr200_0_3, er200_0_4, er200_0_5, rfl, rfl, hbr200_0_3, hsr200_0_3, hrr200_0_4, hrr200_0_5⟩
         refine ⟨Bd hs204 ((le190.t le198).trans le205) (by simp) (zdT (by kernel_rfl)), ?_⟩
         refine Dg 11 67 4 (.bool ((W64 (r184 + r193.2)) == r200.2)) 1 true 57 hb181 (fun _ hq => JJ (t := 3) (t' := 3) (x := (.tmp 63)) (y := (.tmp 66)) (k := .i64) (a := (W64 (r184 + r193.2))) (b := r200.2) rfl rfl) <| Dt 12 68 4 _ (fun _ hq => p1 57 (.tmp 67) (.const (.bool false)) (.bool ((W64 (r184 + r193.2)) == r200.2)) hb181) ?_
         obtain rfl := Aa h202
         have hs207 := hs204.pk6.pk6.pk4.pk4.pk4
         exact Ww (by kernel_rfl) ⟨F14, ar200_0_3, nr200_0_3, er200_0_4, er200_0_5, hs207.pk6.pk6, ((le190.t le198).trans le205), fI, hbr200_0_3, hsr200_0_3, hrr200_0_4, hrr200_0_5⟩
        ·refine Dk [(2, 58), (3, 59), (4, 60), (5, 61), (6, 62), (7, 63), (8, 64), (9, 65), (10, 66), (11, 67)] 1 true 57 hb181 ?_
         refine Dt 12 68 4 _ (fun _ hq => p0 57 (.tmp 67) (.const (.bool false)) (.bool false) hb181) ?_
         obtain rfl := Aa h183
         exact Ww (by kernel_rfl) ⟨F10, ar146_0_3, nr146_0_3, er146_0_4, er146_0_5, hw164, (Wk _), fI, hbr146_0_3, hsr146_0_3, hrr146_0_4, hrr146_0_5⟩
       ·rintro f w165 ⟨F11, aj168_4, nj168_4, ej168_5, ej168_6, hs166, le167, ⟨_, rfl⟩, hbj168_4, hsj168_4, hrj168_5, hrj168_6⟩
        refine Ab <| Cd h180 (fun hb208 h209 => ?_) (fun hb208 h210 => ?_)
        ·refine Sq (Rg (rG 5) ?_)
         refine Vs 1 <| Ld hs166.at0 <| Bs 150 [(vi r146.2.2.1.Kind), (vi r146.2.2.1.At), (sv r146.2.2.1.Text)] hs166 (fun b211 w212 hs213 => ?_)
         have hr215 : Av JC 150 F11 (some ⟨b211, 0, none⟩) 1 [r146.2.2.1] (some b211, .cells ([(vi r146.2.2.1.Kind), (vi r146.2.2.1.At), (sv r146.2.2.1.Text)] : List Value).toArray 150 (0, 0)) := Wz ⟨rfl, rfl⟩ (by simp)
         obtain ⟨r216, hap217, h218⟩ := bind_some h209
         refine Ap6 VF hs213 (hrs118_0.mono (le151.t le167)) (hs213.rd0 hr215) hap217 (fun a219 n220 e221 w222 hs223 hr224 => ?_)
         refine Vs 1 <| Nss (Rg [0, 1] ?_)
         refine Ld hs223.at2 <| St7 (Ah r146.2.1) hs223 (fun w225 hs226 => ?_)
         refine Nt <| Ex <| Lh (by decide) <| Ar <| Ar <| Az rfl ?_
         have hs227 := hs226.dr0.dr0.dr0.pk2.pk2
         have ho228 := AP h218 hnx144
         exact .inl ⟨rfl, (r216, s118.2.1, j168.2.1, j168.2.2.1, j168.2.2.2.1, j168.2.2.2.2.1, r146.2.1.at_, r146.2.1.stage_, r146.2.1.num_, r146.2.1.minute_, j168.2.2.2.2.2.1, j168.2.2.2.2.2.2), F11, aj168_4, nj168_4, ej168_5, ej168_6, a219, n220, e221, ho228, hs227.pk2.pk4.pk4, ((le121.t le151).trans le167), fI, hbj168_4, hsj168_4, hrj168_5, hrj168_6, hr224⟩
        ·refine Sc ?_
         refine Au <| Ab <| Rg [0, 1, 2] <| Vs 3 <| Wf ?_
         have hs229 := hs166.dr0.dr0.pk2.pk2.pk2
         have hn230 := AO h210 hnx144
         exact ⟨m141, Nat.lt_succ_self _, (s118.1, (W64 (s118.2.1 + 1)), j168.2.1, j168.2.2.1, j168.2.2.2.1, j168.2.2.2.2.1, s118.2.2.2.2.2.2.1, s118.2.2.2.2.2.2.2.1, s118.2.2.2.2.2.2.2.2.1, s118.2.2.2.2.2.2.2.2.2.1, j168.2.2.2.2.2.1, j168.2.2.2.2.2.2), F11, aj168_4, nj168_4, ej168_5, ej168_6, as118_0, ns118_0, es118_0, hn230, hs229.pk4.pk4, ((le121.t le151).trans le167), fI, hbj168_4, hsj168_4, hrj168_5, hrj168_6, (hrs118_0.mono (le151.t le167))⟩
      ·rintro f w130 ⟨s129, F9, as129_5, ns129_5, es129_10, es129_11, as129_0, ns129_0, es129_0, rfl, hs131, le132, ⟨_, rfl⟩, hbs129_5, hss129_5, hrs129_10, hrs129_11, hrs129_0⟩
       have h231 := BL h117
       refine Au <| Ab <| Sq (Rg [0] ?_)
       refine Ld hs131.at1 <| Nt <| Rg [0, 1] <| Al' 143 #[(vi 0), (vi 0), (vi 0), (vi 0)] hs131 (fun b232 w233 hs234 => ?_)
       refine St0 #[(vi s129.2.2.2.2.2.2.1), (vi s129.2.2.2.2.2.2.2.1), (vi s129.2.2.2.2.2.2.2.2.1), (vi s129.2.2.2.2.2.2.2.2.2.1)] hs234 (fun w235 hs236 => ?_)
       refine Wf ?_
       have hs237 := hs236.dr2.pk4.pk4.pk4.pk3
       have hn238 := AO h231 hnx98
       exact ⟨m95, Nat.lt_succ_self _, (s129.1, s129.2.2.1, s129.2.2.2.1, s129.2.2.2.2.1, s129.2.2.2.2.2.1, s129.2.2.2.2.2.2.1, s129.2.2.2.2.2.2.2.1, s129.2.2.2.2.2.2.2.2.1, s129.2.2.2.2.2.2.2.2.2.1, s129.2.2.2.2.2.2.2.2.2.2.1, s129.2.2.2.2.2.2.2.2.2.2.2), F9, b232, as129_5, ns129_5, es129_10, es129_11, as129_0, ns129_0, es129_0, hn238, hs237.pk4, ((le78.t le103).trans le132), fI, hbs129_5, hss129_5, hrs129_10, hrs129_11, hrs129_0⟩
     ·refine Ex ?_
      refine Ar <| Ar <| Az rfl ?_
      have ho239 := AP h114 hnx98
      exact .inl ⟨rfl, (s75.1, s75.2.1, s75.2.2.1, s75.2.2.2.1, s75.2.2.2.2.1, s75.2.2.2.2.2.1, s75.2.2.2.2.2.2.1, s75.2.2.2.2.2.2.2.1, s75.2.2.2.2.2.2.2.2.1, s75.2.2.2.2.2.2.2.2.2.1, s75.2.2.2.2.2.2.2.2.2.2), F7, as75_0, ns75_0, es75_0, ho239, hs102.dr1.dr1.dr1.dr1, (le78.t le103), fI, (hrs75_0.mono le103)⟩
   ·rintro f w86 ⟨s85, F6, as85_0, ns85_0, es85_0, rfl, hs87, le88, ⟨_, rfl⟩, hrs85_0⟩
    have h240 := BL h74
    refine Ab <| Sq (Rg (rG 8) ?_)
    refine Vs 2 ?_
    have hb244 := Wx hrs85_0
    obtain ⟨F15, hs241, le242, hs243⟩ := hs87.fr0 hrs85_0
    obtain ⟨r245, hr246, h247⟩ := bind_some h240
    refine Cl' MM hs241 (Nn N w86 F15 hs241.pers (hG.mono (((((le30.t le45).trans le52).trans le63).trans le88).trans le242)) x1 s85.1 as85_0 ns85_0 hb244 hs243 _ hr246) ?_
    rintro _ F16 w249 hs250 le251 rfl
    refine Vs 5 <| Nss (Rg (rG 8) ?_)
    refine Vs 8 <| Nt <| Rt ?_
    obtain rfl := Aa h247
    exact Re [(sv r245.1), (.slice as85_0 s85.1.length ns85_0), (vi r47.2), (vi r245.2)] hs250 ⟨as85_0, ns85_0, rfl, hb244, (Wm hs243 le251)⟩
def CW (N : Nat) (x0 : Line) (x1 : Int) : Option Int :=
 ((Hq N x0.Num x1).bind fun r24 => some r24)
theorem Gm : Af Tryz.prog 253 := fun _ _ => by kernel_rfl
theorem GJ (N : Nat) (w0 : World) (F0 : Mem) (hF : WG w0 F0) (x0 : Line) (x1 : Int) (r : Int) (h : CW N x0 x1 = some r) :
  Calls Tryz.prog 253 ([(.agg (Cf x0)), (vi x1)] : List Value).toArray w0 (AB w0 F0 fun F' v => v = (vi r)) := by
 have hs0 := Wl hF
 refine Go 9 Tryz.func253 <| Sq (Rg [0, 1] ?_)
 refine Bx' 34 (Cf x0) hs0 (fun b21 w22 hs23 => ?_)
 refine Vs 1 <| Nss (Rg (rG 5) ?_)
 refine Vs 1 <| Ld hs23.at0 <| Vs 1 ?_
 obtain ⟨r24, hr25, h26⟩ := bind_some h
 refine Cl' Jq hs23 (Kh N w22 F0 hs23.pers x0.Num x1 _ hr25) ?_
 rintro _ F1 w28 hs29 le30 rfl
 refine Vs 1 <| Nt <| Rt ?_
 obtain rfl := Aa h26
 exact Re [(vi r24)] hs29 rfl
def Fd (N : Nat) (x0 : A4) (x1 : Int) : Option (Int × Bool) :=
 ((Bu N x0.l_.Lines x1 (fun y0 y1 => CW N y0 y1)).bind fun r21 => some (r21.1, r21.2))
theorem G5 : Af Tryz.prog 207 := fun _ _ => by kernel_rfl
theorem HC (N : Nat) {wb w0 : World} {Fb F0 : Mem} {Lf : Own} (bp0 : Nat) (x0 : A4) (a0_7 : WF) (n0_7 : Nat) (a0_8 : WF) (n0_8 : Nat) (e0_8 : Option Nat × Obj) (hb0_7 : LC x0.l_.Jumps.length n0_7) (hs0_7 : SlA AD F0 a0_7 x0.l_.Jumps) (hr0_8 : Av AC 34 F0 a0_8 n0_8 x0.l_.Lines e0_8) (x1 : Int) (hs0 : HS wb Fb w0 F0 ((sb bp0 (BH x0 a0_7 n0_7 a0_8 n0_8) 214) :: e0_8 :: Lf)) (r : (Int × Bool)) (h : Fd N x0 x1 = some r) :
  Calls Tryz.prog 207 ([(pt bp0 0), (vi x1)] : List Value).toArray w0 (EE wb Fb F0 fun F' v L' => v = (.tuple #[(vi r.1), (.bool r.2)]) /\ L' = (sb bp0 (BH x0 a0_7 n0_7 a0_8 n0_8) 214) :: e0_8 :: Lf) := by
 refine Go 15 Tryz.func207 <| Sq (Rg [0, 1] ?_)
 refine Vs 2 <| Nss (Rg (rG 11) ?_)
 refine Vs 4 <| Ld hs0.at0 <| Vs 1 ?_
 obtain ⟨r21, hr22, h23⟩ := bind_some h
 refine RWP.callLentP (q := 1) (v0 := (.tuple #[(vi r21.1), (.bool r21.2)])) (dst := (some 12)) (ty := 119) (g := none) (by kernel_rfl) rfl (f0 := (.func 252)) (aos := #[(.tmp 10), (.tmp 11), (.func 253)]) (ats := #[25, 3, 281]) (fid := 252) (first := #[]) (cap := #[]) (args := [(.slice a0_8 x0.l_.Lines.length n0_8), (vi x1), (fV 253 #[])]) rfl B3 rfl hs0 rfl (Cj N w0 (Hh F0 e0_8) (HS.lend hs0 (q := 1) rfl).2 x0.l_.Lines a0_8 n0_8 (Wx hr0_8) (Av.freeze hr0_8 (HS.lend hs0 (q := 1) rfl).1) x1 253 [] [] (fun y0 y1 => CW N y0 y1) Gm (fun w1 F1 y0 y1 r le1 pe1 hr1 => GJ N w1 F1 pe1 y0 y1 r hr1) _ hr22) (fun F1 w24 (hs25 : HS wb Fb w24 F1 ((sb bp0 (BH x0 a0_7 n0_7 a0_8 n0_8) 214) :: e0_8 :: Lf)) le26 => ?_)
 refine Vs 4 <| Nt <| Rt ?_
 obtain rfl := Aa h23
 exact ReB [(vi r21.1), (.bool r21.2)] hs25 le26 ⟨rfl, rfl⟩
end Go.Proofs.YthljkpeimofbbaaGreatDoor
