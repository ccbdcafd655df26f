/- Lemmas of the claim RulesTypesUpto, printed by a program of the claimant and by hand. No statement of the seat is proved here. -/
import Derived.Test.YtaihlcdkcampbaaGreatDoorE19x2
set_option linter.unusedVariables false
set_option linter.unusedSimpArgs false
set_option linter.unusedSectionVars false
set_option maxHeartbeats 4000000
set_option maxRecDepth 100000
namespace Go.Proofs.YtaihlcdkcampbaaGreatDoor
def Ew (N : Nat) (x0 : Bool) : Option Expr :=
 ((CN N 0).bind fun r31 => ((CN N 0).bind fun r39 => some ({ Op := (bif x0 then 6 else 7), Value := 0, Kids := [r31, r39] } : Expr)))
theorem EQ : An Tryz.prog 188 := fun _ _ => by kernel_rfl
theorem Fc (N : Nat) (w0 : World) (F0 : Mem) (hF : Qq w0 F0) (x0 : Bool) (r : Expr) (h : Ew N x0 = some r) :
  Calls Tryz.prog 188 ([(.bool x0)] : List Value).toArray w0 (AO w0 F0 fun F' v => ∃ (aq0_2 : Qp) (nq0_2 : Nat), v = (.agg (Ag r aq0_2 nq0_2)) /\ LC r.Kids.length nq0_2 /\ SlA Ao F' aq0_2 r.Kids) := by
 have hs0 := P4 hF
 refine Go 10 Tryz.func188 ?_
 refine Sq (Rg [0] ?_)
 refine Al' 33 #[(vi 0), (vi 0), (.slice none ([] : List Expr).length 0)] hs0 (fun b21 w22 hs23 => ?_)
 refine Nss (Rg [0] ?_)
 refine Vs 1 ?_
 refine Nss ?_
 refine Sq (Rg [0] ?_)
 refine Vs 1 ?_
 refine Nt ?_
 refine P9 (fun f w => ∃ (F1 : Mem), HS w0 F0 w F1 [(sb b21 #[(vi 0), (vi 0), (.slice none ([] : List Expr).length 0)] 33)] /\ P2 F0 F1 /\ FI f [] [(2, (pt b21 0)), (3, (vi (bif x0 then 6 else 7)))]) ?_ ?_
 ·refine Cp x0 (fun hb30 => ?_) (fun hb30 => ?_)
  ·refine Rg [0] ?_
   refine Vs 1 ?_
   refine PX ?_
   exact .inl ⟨rfl, F0, hs23, (P3 _), (fJ ⟨rfl, (congrArg (Value.int .i64) (DA hb30 rfl)), trivial⟩)⟩
  ·refine Sc ?_
   exact .inl ⟨rfl, F0, hs23, (P3 _), (fJ ⟨rfl, (congrArg (Value.int .i64) (ET hb30 rfl)), trivial⟩)⟩
 ·rintro f w24 ⟨F1, hs25, le26, ⟨_, rfl⟩⟩
  refine Ac ?_
  refine Sq (Rg [0, 1, 2, 3, 4, 5] ?_)
  refine Vs 1 ?_
  obtain ⟨r31, hr32, h33⟩ := bind_some h
  refine Cl' CR hs25 (C7 N w24 F1 hs25.pers 0 _ hr32) ?_
  rintro _ F2 w35 hs36 le37 ⟨ar31_0_2, nr31_0_2, rfl, hbr31_0_2, hsr31_0_2⟩
  obtain ⟨r39, hr40, h41⟩ := bind_some h33
  refine Cl' CR hs36 (C7 N w35 F2 hs36.pers 0 _ hr40) ?_
  rintro _ F3 w43 hs44 le45 ⟨ar39_0_2, nr39_0_2, rfl, hbr39_0_2, hsr39_0_2⟩
  refine Bs 33 [(vi r31.Op), (vi r31.Value), (.slice ar31_0_2 r31.Kids.length nr31_0_2), (vi r39.Op), (vi r39.Value), (.slice ar39_0_2 r39.Kids.length nr39_0_2)] hs44 (fun b47 w48 hs49 => ?_)
  have hr51 : Aq Ao 33 F3 (some ⟨b47, 0, none⟩) 2 [r31, r39] (some b47, .cells ([(vi r31.Op), (vi r31.Value), (.slice ar31_0_2 r31.Kids.length nr31_0_2), (vi r39.Op), (vi r39.Value), (.slice ar39_0_2 r39.Kids.length nr39_0_2)] : List Value).toArray 33 (0, 0)) := Ql ⟨(AY ⟨ar31_0_2, nr31_0_2, rfl, hbr31_0_2, (P5 hsr31_0_2 le45)⟩), ⟨(AY ⟨ar39_0_2, nr39_0_2, rfl, hbr39_0_2, hsr39_0_2⟩), rfl⟩⟩ (by simp)
  refine Vs 1 ?_
  refine St1 #[(vi (bif x0 then 6 else 7)), (vi 0), (.slice (some ⟨b47, 0, none⟩) [r31, r39].length 2)] hs49 (fun w52 hs53 => ?_)
  refine Nt ?_
  refine Rt ?_
  have hb57 := Qj hr51
  obtain ⟨F4, hs54, le55, hs56⟩ := hs53.fr0 hr51
  obtain rfl := Ab h41
  exact ⟨rfl, (.agg #[(vi (bif x0 then 6 else 7)), (vi 0), (.slice (some ⟨b47, 0, none⟩) [r31, r39].length 2)]), Ay (l := [.cell 2 33]) (by kernel_rfl) (vs := [(.agg #[(vi (bif x0 then 6 else 7)), (vi 0), (.slice (some ⟨b47, 0, none⟩) [r31, r39].length 2)])]) ⟨b21, 0, rfl, Aj (t := 33) (g := true) (s := 3) (by kernel_rfl) hs54.at0 rfl (by decide), trivial⟩, (.agg #[(vi (bif x0 then 6 else 7)), (vi 0), (.slice (some ⟨b47, 0, none⟩) [r31, r39].length 2)]), F4, rfl, hs54.clear, ⟨(some ⟨b47, 0, none⟩), 2, rfl, hb57, hs56⟩⟩
def Ey (N : Nat) (x0 : Expr) (x1 : Bool) : Option Bool :=
 (((Ew N x1).bind fun r34 => ((D5 N x0 r34).bind fun r42 => some r42)).bind fun j29 => some j29)
theorem ER : An Tryz.prog 187 := fun _ _ => by kernel_rfl
theorem Fd (N : Nat) (w0 : World) (F0 : Mem) (hF : Qq w0 F0) (x0 : Expr) (a0_2 : Qp) (n0_2 : Nat) (hb0_2 : LC x0.Kids.length n0_2) (hs0_2 : SlA Ao F0 a0_2 x0.Kids) (x1 : Bool) (r : Bool) (h : Ey N x0 x1 = some r) :
  Calls Tryz.prog 187 ([(.agg (Ag x0 a0_2 n0_2)), (.bool x1)] : List Value).toArray w0 (AO w0 F0 fun F' v => v = (.bool r)) := by
 have hs0 := P4 hF
 refine Go 9 Tryz.func187 ?_
 refine Sq (Rg [0, 1] ?_)
 refine Bx' 33 (Ag x0 a0_2 n0_2) hs0 (fun b21 w22 hs23 => ?_)
 refine Vs 1 ?_
 refine Nss ?_
 obtain ⟨j29, hj32, h33⟩ := bind_some h
 refine RD 5 5 [(sb b21 (Ag x0 a0_2 n0_2) 33)] [] hs23 (fun f w => ∃ (F1 : Mem), HS w0 F0 w F1 [] /\ P2 F0 F1 /\ FI f [] [(4, (.bool j29))]) (fun wd24 hw25 => ?_) ?_
 ·refine Dl 0 (fun _ hq => (hq.1.2 0 _ _ rfl)) ?_
  refine Dv [1] ?_
  refine D1 2 ?_
  obtain ⟨r34, hr35, h36⟩ := bind_some hj32
  refine DCl EQ hw25 (Fc N wd24 F0 hw25.pers x1 _ hr35) ?_
  rintro _ F2 w38 hs39 le40 ⟨ar34_0_2, nr34_0_2, rfl, hbr34_0_2, hsr34_0_2⟩
  refine D1 3 ?_
  obtain ⟨r42, hr43, h44⟩ := bind_some h36
  refine DCl Cw hs39 (DX N w38 F2 hs39.pers x0 a0_2 n0_2 hb0_2 (P5 hs0_2 le40) r34 ar34_0_2 nr34_0_2 hbr34_0_2 hsr34_0_2 _ hr43) ?_
  rintro _ F3 w46 hs47 le48 rfl
  refine Dv [4] ?_
  obtain rfl := Ab h44
  exact Qi (by kernel_rfl) ⟨F3, hs47.dr0, (le40.trans le48), fI⟩
 ·rintro f w26 ⟨F1, hs27, le28, ⟨_, rfl⟩⟩
  refine Ac ?_
  refine Rt ?_
  obtain rfl := Ab h33
  exact Re [(.bool j29)] hs27 rfl

def C5 (N : Nat) (x0 : Expr) (x1 : Int) : Option Bool :=
 some ((x0.Op == 1) && (x0.Value == x1))
theorem DN : An Tryz.prog 215 := fun _ _ => by kernel_rfl
theorem Ee (N : Nat) (w0 : World) (F0 : Mem) (hF : Qq w0 F0) (x0 : Expr) (a0_2 : Qp) (n0_2 : Nat) (hb0_2 : LC x0.Kids.length n0_2) (hs0_2 : SlA Ao F0 a0_2 x0.Kids) (x1 : Int) (r : Bool) (h : C5 N x0 x1 = some r) :
  Calls Tryz.prog 215 ([(.agg (Ag x0 a0_2 n0_2)), (vi x1)] : List Value).toArray w0 (AO w0 F0 fun F' v => v = (.bool r)) := by
 have hs0 := P4 hF
 refine Go 14 Tryz.func215 ?_
 refine Sq (Rg [0, 1] ?_)
 refine Bx' 33 (Ag x0 a0_2 n0_2) hs0 (fun b21 w22 hs23 => ?_)
 refine Vs 1 ?_
 refine Nss (Rg [0, 1, 2, 3, 4, 5, 6, 7, 8, 9] ?_)
 refine P8 (fun f w => ∃ (F1 : Mem), HS w0 F0 w F1 [] /\ P2 F0 F1 /\ FI f [] [(4, (.bool ((x0.Op == 1) && (x0.Value == x1))))]) ?_ ?_
 ·refine Vs 1 ?_
  refine Ld hs23.at0 ?_
  refine Vs 2 ?_
  refine P7 (x0.Op == 1) (fun hb29 => ?_) (fun hb29 => ?_)
  ·refine Vgs hb29 1 ?_
   refine Lg hb29 hs23.at0 ?_
   refine Vgs hb29 2 ?_
   refine Pk1 hb29 ?_
   refine Vs 1 ?_
   exact PX ⟨rfl, F0, hs23.dr0, (P3 _), (fJ ⟨(congrArg Value.bool (B9 hb29 rfl)), trivial⟩)⟩
  ·refine Ss hb29 4 ?_
   refine Pk0 hb29 ?_
   refine Vs 1 ?_
   exact PX ⟨rfl, F0, hs23.dr0, (P3 _), (fJ ⟨(congrArg Value.bool (DO hb29 rfl)), trivial⟩)⟩
 ·rintro f w24 ⟨F1, hs25, le26, ⟨_, rfl⟩⟩
  refine Ac ?_
  refine Rt ?_
  obtain rfl := Ab h
  exact Re [(.bool ((x0.Op == 1) && (x0.Value == x1)))] hs25 rfl
def Fo (N : Nat) (x0 : Expr) (x1 : Expr) (x2 : Expr) : Option Expr :=
 (bif (x0.Op == 8) then ((C5 N x1 0).bind fun r36 => (bif r36 then some x2 else ((C5 N x2 0).bind fun r49 => (bif r49 then some x1 else some x0)))) else none)
theorem Hu : An Tryz.prog 192 := fun _ _ => by kernel_rfl
theorem Ik (N : Nat) (w0 : World) (F0 : Mem) (hF : Qq w0 F0) (x0 : Expr) (a0_2 : Qp) (n0_2 : Nat) (hb0_2 : LC x0.Kids.length n0_2) (hs0_2 : SlA Ao F0 a0_2 x0.Kids) (x1 : Expr) (a1_2 : Qp) (n1_2 : Nat) (hb1_2 : LC x1.Kids.length n1_2) (hs1_2 : SlA Ao F0 a1_2 x1.Kids) (x2 : Expr) (a2_2 : Qp) (n2_2 : Nat) (hb2_2 : LC x2.Kids.length n2_2) (hs2_2 : SlA Ao F0 a2_2 x2.Kids) (r : Expr) (h : Fo N x0 x1 x2 = some r) :
  Calls Tryz.prog 192 ([(.agg (Ag x0 a0_2 n0_2)), (.agg (Ag x1 a1_2 n1_2)), (.agg (Ag x2 a2_2 n2_2))] : List Value).toArray w0 (AO w0 F0 fun F' v => ∃ (aq0_2 : Qp) (nq0_2 : Nat), v = (.agg (Ag r aq0_2 nq0_2)) /\ LC r.Kids.length nq0_2 /\ SlA Ao F' aq0_2 r.Kids) := by
 have hs0 := P4 hF
 refine Go 49 Tryz.func192 ?_
 refine Sq (Rg [0, 1, 2, 3] ?_)
 refine Bx' 33 (Ag x0 a0_2 n0_2) hs0 (fun b21 w22 hs23 => ?_)
 refine Bx' 33 (Ag x1 a1_2 n1_2) hs23 (fun b24 w25 hs26 => ?_)
 refine Bx' 33 (Ag x2 a2_2 n2_2) hs26 (fun b27 w28 hs29 => ?_)
 refine Al' 33 #[(vi 0), (vi 0), (.slice none ([] : List Expr).length 0)] hs29 (fun b30 w31 hs32 => ?_)
 refine Nss ?_
 refine Sq (Rg [0, 1] ?_)
 refine Vs 1 ?_
 refine Ld hs32.at3 ?_
 refine Nt ?_
 refine Bk ?_
 refine Sq (Rg [0, 1] ?_)
 refine Vs 2 ?_
 refine Nt ?_
 refine Cd h (fun hb33 h34 => ?_) (fun hb33 h35 => ?_)
 ·refine Bk ?_
  refine Sq (Rg [0, 1, 2] ?_)
  refine Ld hs32.at2 ?_
  obtain ⟨r36, hr37, h38⟩ := bind_some h34
  refine Cl' DN hs32 (Ee N w31 F0 hs32.pers x1 a1_2 n1_2 hb1_2 hs1_2 0 _ hr37) ?_
  rintro _ F1 w40 hs41 le42 rfl
  refine Vs 1 ?_
  refine Nt ?_
  refine Cd h38 (fun hb44 h45 => ?_) (fun hb44 h46 => ?_)
  ·refine Sq (Rg [0, 1] ?_)
   refine Ld hs41.at1 ?_
   refine St0 (Ag x2 a2_2 n2_2) hs41 (fun w47 hs48 => ?_)
   refine Nt ?_
   refine Rt ?_
   refine Ai ?_
   refine Ai ?_
   refine Af ?_
   obtain rfl := Ab h45
   exact ⟨rfl, (.agg (Ag x2 a2_2 n2_2)), Ay (l := [.cell 6 33]) (by kernel_rfl) (vs := [(.agg (Ag x2 a2_2 n2_2))]) ⟨b30, 0, rfl, Aj (t := 33) (g := true) (s := 3) (by kernel_rfl) hs48.at0 rfl (by decide), trivial⟩, (.agg (Ag x2 a2_2 n2_2)), F1, rfl, hs48.clear, ⟨a2_2, n2_2, rfl, hb2_2, (P5 hs2_2 le42)⟩⟩
  ·refine Sq (Rg [0, 1, 2] ?_)
   refine Ld hs41.at1 ?_
   obtain ⟨r49, hr50, h51⟩ := bind_some h46
   refine Cl' DN hs41 (Ee N w40 F1 hs41.pers x2 a2_2 n2_2 hb2_2 (P5 hs2_2 le42) 0 _ hr50) ?_
   rintro _ F2 w53 hs54 le55 rfl
   refine Vs 1 ?_
   refine Nt ?_
   refine Cd h51 (fun hb57 h58 => ?_) (fun hb57 h59 => ?_)
   ·refine Sq (Rg [0, 1] ?_)
    refine Ld hs54.at2 ?_
    refine St0 (Ag x1 a1_2 n1_2) hs54 (fun w60 hs61 => ?_)
    refine Nt ?_
    refine Rt ?_
    refine Ai ?_
    refine Ai ?_
    refine Af ?_
    obtain rfl := Ab h58
    exact ⟨rfl, (.agg (Ag x1 a1_2 n1_2)), Ay (l := [.cell 6 33]) (by kernel_rfl) (vs := [(.agg (Ag x1 a1_2 n1_2))]) ⟨b30, 0, rfl, Aj (t := 33) (g := true) (s := 3) (by kernel_rfl) hs61.at0 rfl (by decide), trivial⟩, (.agg (Ag x1 a1_2 n1_2)), F2, rfl, hs61.clear, ⟨a1_2, n1_2, rfl, hb1_2, (P5 hs1_2 (le42.trans le55))⟩⟩
   ·refine Sc ?_
    refine Av ?_
    refine Av ?_
    refine Ac ?_
    refine Sq (Rg [0, 1] ?_)
    refine Ld hs54.at3 ?_
    refine St0 (Ag x0 a0_2 n0_2) hs54 (fun w62 hs63 => ?_)
    refine Nt ?_
    refine Rt ?_
    obtain rfl := Ab h59
    exact ⟨rfl, (.agg (Ag x0 a0_2 n0_2)), Ay (l := [.cell 6 33]) (by kernel_rfl) (vs := [(.agg (Ag x0 a0_2 n0_2))]) ⟨b30, 0, rfl, Aj (t := 33) (g := true) (s := 3) (by kernel_rfl) hs63.at0 rfl (by decide), trivial⟩, (.agg (Ag x0 a0_2 n0_2)), F2, rfl, hs63.clear, ⟨a0_2, n0_2, rfl, hb0_2, (P5 hs0_2 (le42.trans le55))⟩⟩
 ·cases h35
def Gx (N : Nat) (x0 : Expr) : Option Expr :=
 (bif ((x0.Kids.length : Int) == 0) then some x0 else ((idx x0.Kids 0).bind fun x32 => (bif (x0.Op == 3) then none else ((idx x0.Kids 1).bind fun x54 => (bif (bif (x0.Op == 6) then (x0.Op == 6) else (x0.Op == 7)) then ((bif ((x32.Op == 1) && (x54.Op == 1)) then some true else ((D5 N x32 x54).bind fun r106 => some r106)).bind fun j93 => (bif j93 then (bif (x0.Op == 6) then ((D5 N x32 x54).bind fun r120 => (bif r120 then ((Ew N true).bind fun r131 => some r131) else (bif (x0.Op == 7) then none else none))) else (bif (x0.Op == 7) then none else none)) else some x0)) else (bif (bif (x0.Op == 4) then (x0.Op == 4) else (x0.Op == 5)) then none else (bif (bif (x0.Op == 8) then (x0.Op == 8) else (bif (x0.Op == 9) then (x0.Op == 9) else (x0.Op == 10))) then (((mk0 0 14).bind fun r206 => ((CG N x0 r206).bind fun r220 => some r220)).bind fun j196 => (bif (((x32.Op == 1) && (x54.Op == 1)) && (decide (j196 >= 0))) then ((CN N j196).bind fun r242 => some r242) else ((Fo N x0 x32 x54).bind fun r252 => some r252))) else (bif (x0.Op == 11) then ((Ey N x32 true).bind fun r265 => (bif r265 then some x54 else ((Ey N x32 false).bind fun r278 => (bif r278 then ((idx x0.Kids 2).bind fun x289 => some x289) else (((idx x0.Kids 2).bind fun x310 => ((D5 N x54 x310).bind fun r316 => some r316)).bind fun j302 => (bif j302 then some x54 else some x0)))))) else none))))))))
theorem Ib : An Tryz.prog 148 := fun _ _ => by kernel_rfl
theorem I4 (N : Nat) (w0 : World) (F0 : Mem) (hF : Qq w0 F0) (x0 : Expr) (a0_2 : Qp) (n0_2 : Nat) (hb0_2 : LC x0.Kids.length n0_2) (hs0_2 : SlA Ao F0 a0_2 x0.Kids) (r : Expr) (h : Gx N x0 = some r) :
  Calls Tryz.prog 148 ([(.agg (Ag x0 a0_2 n0_2))] : List Value).toArray w0 (AO w0 F0 fun F' v => ∃ (aq0_2 : Qp) (nq0_2 : Nat), v = (.agg (Ag r aq0_2 nq0_2)) /\ LC r.Kids.length nq0_2 /\ SlA Ao F' aq0_2 r.Kids) := by
 have hs0 := P4 hF
 refine Go 130 Tryz.func148 ?_
 refine Sq (Rg [0, 1] ?_)
 refine Bx' 33 (Ag x0 a0_2 n0_2) hs0 (fun b21 w22 hs23 => ?_)
 refine Al' 33 #[(vi 0), (vi 0), (.slice none ([] : List Expr).length 0)] hs23 (fun b24 w25 hs26 => ?_)
 refine Nss ?_
 refine Sq (Rg [0, 1, 2, 3] ?_)
 refine Vs 1 ?_
 refine Ld hs26.at1 ?_
 refine Vs 2 ?_
 refine Nt ?_
 refine Cd h (fun hb27 h28 => ?_) (fun hb27 h29 => ?_)
 ·refine Sq (Rg [0, 1] ?_)
  refine Ld hs26.at1 ?_
  refine St0 (Ag x0 a0_2 n0_2) hs26 (fun w30 hs31 => ?_)
  refine Nt ?_
  refine Rt ?_
  refine Af ?_
  obtain rfl := Ab h28
  exact ⟨rfl, (.agg (Ag x0 a0_2 n0_2)), Ay (l := [.cell 2 33]) (by kernel_rfl) (vs := [(.agg (Ag x0 a0_2 n0_2))]) ⟨b24, 0, rfl, Aj (t := 33) (g := true) (s := 3) (by kernel_rfl) hs31.at0 rfl (by decide), trivial⟩, (.agg (Ag x0 a0_2 n0_2)), F0, rfl, hs31.clear, ⟨a0_2, n0_2, rfl, hb0_2, hs0_2⟩⟩
 ·refine Sc ?_
  refine Ac ?_
  refine Sq (Rg [0, 1, 2, 3, 4, 5] ?_)
  refine Vs 1 ?_
  refine Ld hs26.at1 ?_
  obtain ⟨x32, hx33, h35⟩ := bind_some h29
  obtain ⟨hi34, hx33'⟩ := Aw hx33
  obtain ⟨b36, o37, C38, E39, fz40, rfl, hF42, hE43⟩ := Qd hs0_2 hx33'
  obtain ⟨ae44_2, ne44_2, hc45, hbe44_2, hse44_2⟩ := (AQ (hE43 _ _ hx33'))
  refine Ix hi34 ?_
  refine Lx 0 (hs26.pers _ _ hF42) hc45 ?_
  refine Al' 33 #[(vi 0), (vi 0), (.slice none ([] : List Expr).length 0)] hs26 (fun b46 w47 hs48 => ?_)
  refine St0 (Ag x32 ae44_2 ne44_2) hs48 (fun w49 hs50 => ?_)
  refine Nss ?_
  refine Sq (Rg [0, 1, 2] ?_)
  refine Vs 1 ?_
  refine Ld hs50.at2 ?_
  refine Vs 1 ?_
  refine Nt ?_
  refine Cd h35 (fun hb51 h52 => ?_) (fun hb51 h53 => ?_)
  ·cases h52
  ·refine Sc ?_
   refine Ac ?_
   refine Sq (Rg [0, 1, 2, 3, 4, 5] ?_)
   refine Vs 1 ?_
   refine Ld hs50.at2 ?_
   obtain ⟨x54, hx55, h57⟩ := bind_some h53
   obtain ⟨hi56, hx55'⟩ := Aw hx55
   obtain ⟨ae58_2, ne58_2, hc59, hbe58_2, hse58_2⟩ := (AQ (hE43 _ _ hx55'))
   refine Ix hi56 ?_
   refine Lx 0 (hs50.pers _ _ hF42) hc59 ?_
   refine Al' 33 #[(vi 0), (vi 0), (.slice none ([] : List Expr).length 0)] hs50 (fun b60 w61 hs62 => ?_)
   refine St0 (Ag x54 ae58_2 ne58_2) hs62 (fun w63 hs64 => ?_)
   refine Nss (Rg [0, 1, 2, 3, 4, 5, 6, 7, 8] ?_)
   refine P8 (fun f w => ∃ (F1 : Mem), HS w0 F0 w F1 [(sb b60 (Ag x54 ae58_2 ne58_2) 33), (sb b46 (Ag x32 ae44_2 ne44_2) 33), (sb b24 #[(vi 0), (vi 0), (.slice none ([] : List Expr).length 0)] 33), (sb b21 (Ag x0 (some ⟨b36, o37, none⟩) n0_2) 33)] /\ P2 F0 F1 /\ FI f [] [(1, (pt b21 0)), (2, (pt b24 0)), (3, (pt b46 0)), (4, (pt b60 0)), (5, (.bool ((x32.Op == 1) && (x54.Op == 1))))]) ?_ ?_
   ·refine Vs 1 ?_
    refine Ld hs64.at1 ?_
    refine Vs 2 ?_
    refine P7 (x32.Op == 1) (fun hb74 => ?_) (fun hb74 => ?_)
    ·refine Vgs hb74 1 ?_
     refine Lg hb74 hs64.at0 ?_
     refine Vgs hb74 1 ?_
     refine Pk1 hb74 ?_
     refine Vs 1 ?_
     exact PX ⟨rfl, F0, hs64, (P3 _), (fJ ⟨rfl, rfl, rfl, rfl, (congrArg Value.bool (B9 hb74 rfl)), trivial⟩)⟩
    ·refine Ss hb74 3 ?_
     refine Pk0 hb74 ?_
     refine Vs 1 ?_
     exact PX ⟨rfl, F0, hs64, (P3 _), (fJ ⟨rfl, rfl, rfl, rfl, (congrArg Value.bool (DO hb74 rfl)), trivial⟩)⟩
   ·rintro f w65 ⟨F1, hs66, le67, ⟨_, rfl⟩⟩
    refine Ac ?_
    refine Sq ?_
    refine Sq (Rg [0, 1] ?_)
    refine Vs 1 ?_
    refine Ld hs66.at3 ?_
    refine Nt ?_
    refine Bk ?_
    refine Sq ?_
    refine Sq (Rg [0, 1] ?_)
    refine Vs 2 ?_
    refine Nt ?_
    refine P9 (fun f w => ∃ (F2 : Mem), HS w0 F0 w F2 [(sb b60 (Ag x54 ae58_2 ne58_2) 33), (sb b46 (Ag x32 ae44_2 ne44_2) 33), (sb b24 #[(vi 0), (vi 0), (.slice none ([] : List Expr).length 0)] 33), (sb b21 (Ag x0 (some ⟨b36, o37, none⟩) n0_2) 33)] /\ P2 F1 F2 /\ FI f [] [(1, (pt b21 0)), (2, (pt b24 0)), (3, (pt b46 0)), (4, (pt b60 0)), (5, (.bool ((x32.Op == 1) && (x54.Op == 1)))), (49, (vi x0.Op)), (50, (.bool (bif (x0.Op == 6) then (x0.Op == 6) else (x0.Op == 7))))]) ?_ ?_
    ·refine Cp (x0.Op == 6) (fun hb86 => ?_) (fun hb86 => ?_)
     ·refine Sc ?_
      exact .inl ⟨rfl, F1, hs66, (P3 _), (fJ ⟨rfl, rfl, rfl, rfl, rfl, rfl, (congrArg Value.bool (DA hb86 rfl)), trivial⟩)⟩
     ·refine Rg [0, 1] ?_
      refine Vs 2 ?_
      refine PX ?_
      exact .inl ⟨rfl, F1, hs66, (P3 _), (fJ ⟨rfl, rfl, rfl, rfl, rfl, rfl, (congrArg Value.bool (ET hb86 rfl)), trivial⟩)⟩
    ·rintro f w75 ⟨F2, hs76, le77, ⟨_, rfl⟩⟩
     refine Ac ?_
     refine Cd h57 (fun hb87 h88 => ?_) (fun hb87 h89 => ?_)
     ·refine Sq (Rg [0, 1, 2, 3, 4, 5] ?_)
      obtain ⟨j93, hj101, h102⟩ := bind_some h88
      refine P8 (fun f w => ∃ (F3 : Mem), HS w0 F0 w F3 [(sb b60 (Ag x54 ae58_2 ne58_2) 33), (sb b46 (Ag x32 ae44_2 ne44_2) 33), (sb b24 #[(vi 0), (vi 0), (.slice none ([] : List Expr).length 0)] 33), (sb b21 (Ag x0 (some ⟨b36, o37, none⟩) n0_2) 33)] /\ P2 F2 F3 /\ FI f [] [(1, (pt b21 0)), (2, (pt b24 0)), (3, (pt b46 0)), (4, (pt b60 0)), (5, (.bool ((x32.Op == 1) && (x54.Op == 1)))), (58, (.bool j93))]) ?_ ?_
      ·refine Vs 2 ?_
       refine Sp hj101 (fun hb103 h104 => ?_) (fun hb103 h105 => ?_)
       ·refine Ss hb103 3 ?_
        refine Pk1 hb103 ?_
        obtain rfl := Ab h104
        exact PX ⟨rfl, F2, hs76, (P3 _), fI⟩
       ·refine Lg hb103 hs76.at1 ?_
        refine Lg hb103 hs76.at0 ?_
        obtain ⟨r106, hr107, h108⟩ := bind_some h105
        refine Cg hb103 Cw hs76 (DX N w75 F2 hs76.pers x32 ae44_2 ne44_2 hbe44_2 (P5 hse44_2 (le67.trans le77)) x54 ae58_2 ne58_2 hbe58_2 (P5 hse58_2 (le67.trans le77)) _ hr107) ?_
        rintro _ F4 w110 hs111 le112 rfl
        refine Pk0 hb103 ?_
        obtain rfl := Ab h108
        exact PX ⟨rfl, F4, hs111, le112, fI⟩
      ·rintro f w90 ⟨F3, hs91, le92, ⟨_, rfl⟩⟩
       refine Ac ?_
       refine Cd h102 (fun hb114 h115 => ?_) (fun hb114 h116 => ?_)
       ·refine Sq (Rg [0, 1, 2, 3, 4, 5, 6, 7, 8, 9, 10, 11, 12, 13, 14, 15, 16, 17, 18, 19, 20, 21, 22, 23, 24] ?_)
        refine Vs 1 ?_
        refine Ld hs91.at3 ?_
        refine Vs 2 ?_
        refine Sp h115 (fun hb117 h118 => ?_) (fun hb117 h119 => ?_)
        ·refine Lg hb117 hs91.at1 ?_
         refine Lg hb117 hs91.at0 ?_
         obtain ⟨r120, hr121, h122⟩ := bind_some h118
         refine Cg hb117 Cw hs91 (DX N w90 F3 hs91.pers x32 ae44_2 ne44_2 hbe44_2 (P5 hse44_2 ((le67.trans le77).trans le92)) x54 ae58_2 ne58_2 hbe58_2 (P5 hse58_2 ((le67.trans le77).trans le92)) _ hr121) ?_
         rintro _ F5 w124 hs125 le126 rfl
         refine Pk1 hb117 ?_
         refine Vs 1 ?_
         refine Sp h122 (fun hb128 h129 => ?_) (fun hb128 h130 => ?_)
         ·refine Ss hb128 4 ?_
          refine Su' 1 ?_
          refine Ss hb128 2 ?_
          refine Su' 5 ?_
          refine Ss hb128 1 ?_
          refine Pk1 hb128 ?_
          obtain ⟨r131, hr132, h133⟩ := bind_some h129
          refine Cl' EQ hs125 (Fc N w124 F5 hs125.pers true _ hr132) ?_
          rintro _ F6 w135 hs136 le137 ⟨ar131_0_2, nr131_0_2, rfl, hbr131_0_2, hsr131_0_2⟩
          refine St2 (Ag r131 ar131_0_2 nr131_0_2) hs136 (fun w139 hs140 => ?_)
          refine Nt ?_
          refine Rt ?_
          refine Ai ?_
          refine Af ?_
          obtain rfl := Ab h133
          exact ⟨rfl, (.agg (Ag r131 ar131_0_2 nr131_0_2)), Ay (l := [.cell 2 33]) (by kernel_rfl) (vs := [(.agg (Ag r131 ar131_0_2 nr131_0_2))]) ⟨b24, 0, rfl, Aj (t := 33) (g := true) (s := 3) (by kernel_rfl) hs140.at2 rfl (by decide), trivial⟩, (.agg (Ag r131 ar131_0_2 nr131_0_2)), F6, rfl, hs140.clear, ⟨ar131_0_2, nr131_0_2, rfl, hbr131_0_2, hsr131_0_2⟩⟩
         ·refine Vgs hb128 1 ?_
          refine Lg hb128 hs125.at3 ?_
          refine Vgs hb128 2 ?_
          refine Sp h130 (fun hb141 h142 => ?_) (fun hb141 h143 => ?_)
          ·cases h142
          ·cases h143
        ·refine Ss hb117 3 ?_
         refine Pk0 hb117 ?_
         refine Vs 1 ?_
         refine Vg 68 0 8 false 67 rfl (fa 33 1 0 0 1 b21 0 0) ?_
         refine Vg 69 3 8 false 67 rfl (ld 3 68 b21 0 false 1 (vi x0.Op) hs91.at3) ?_
         refine Vg 70 4 8 false 67 rfl (MF (t := 3) (t' := 3) (x := (.tmp 69)) (y := (.const (vi 7))) (k := .i64) (a := x0.Op) (b := 7) rfl rfl) ?_
         refine Vg 71 4 8 false 67 rfl (mv 70 (.bool (x0.Op == 7))) ?_
         refine Sp h119 (fun hb144 h145 => ?_) (fun hb144 h146 => ?_)
         ·cases h145
         ·cases h146
       ·refine Sc ?_
        refine Av ?_
        refine Ac ?_
        refine Sq (Rg [0, 1] ?_)
        refine Ld hs91.at3 ?_
        refine St2 (Ag x0 (some ⟨b36, o37, none⟩) n0_2) hs91 (fun w147 hs148 => ?_)
        refine Nt ?_
        refine Rt ?_
        obtain rfl := Ab h116
        exact ⟨rfl, (.agg (Ag x0 (some ⟨b36, o37, none⟩) n0_2)), Ay (l := [.cell 2 33]) (by kernel_rfl) (vs := [(.agg (Ag x0 (some ⟨b36, o37, none⟩) n0_2))]) ⟨b24, 0, rfl, Aj (t := 33) (g := true) (s := 3) (by kernel_rfl) hs148.at2 rfl (by decide), trivial⟩, (.agg (Ag x0 (some ⟨b36, o37, none⟩) n0_2)), F3, rfl, hs148.clear, ⟨(some ⟨b36, o37, none⟩), n0_2, rfl, hb0_2, (P5 hs0_2 ((le67.trans le77).trans le92))⟩⟩
     ·refine Sq ?_
      refine Sq (Rg [0, 1] ?_)
      refine Vs 2 ?_
      refine Nt ?_
      refine P9 (fun f w => ∃ (F7 : Mem), HS w0 F0 w F7 [(sb b60 (Ag x54 ae58_2 ne58_2) 33), (sb b46 (Ag x32 ae44_2 ne44_2) 33), (sb b24 #[(vi 0), (vi 0), (.slice none ([] : List Expr).length 0)] 33), (sb b21 (Ag x0 (some ⟨b36, o37, none⟩) n0_2) 33)] /\ P2 F2 F7 /\ FI f [] [(1, (pt b21 0)), (2, (pt b24 0)), (3, (pt b46 0)), (4, (pt b60 0)), (5, (.bool ((x32.Op == 1) && (x54.Op == 1)))), (49, (vi x0.Op)), (83, (.bool (bif (x0.Op == 4) then (x0.Op == 4) else (x0.Op == 5))))]) ?_ ?_
      ·refine Cp (x0.Op == 4) (fun hb160 => ?_) (fun hb160 => ?_)
       ·refine Sc ?_
        exact .inl ⟨rfl, F2, hs76, (P3 _), (fJ ⟨rfl, rfl, rfl, rfl, rfl, rfl, (congrArg Value.bool (DA hb160 rfl)), trivial⟩)⟩
       ·refine Rg [0, 1] ?_
        refine Vs 2 ?_
        refine PX ?_
        exact .inl ⟨rfl, F2, hs76, (P3 _), (fJ ⟨rfl, rfl, rfl, rfl, rfl, rfl, (congrArg Value.bool (ET hb160 rfl)), trivial⟩)⟩
      ·rintro f w149 ⟨F7, hs150, le151, ⟨_, rfl⟩⟩
       refine Ac ?_
       refine Cd h89 (fun hb161 h162 => ?_) (fun hb161 h163 => ?_)
       ·cases h162
       ·refine Sq ?_
        refine Sq (Rg [0, 1] ?_)
        refine Vs 2 ?_
        refine Nt ?_
        refine P9 (fun f w => ∃ (F8 : Mem), HS w0 F0 w F8 [(sb b60 (Ag x54 ae58_2 ne58_2) 33), (sb b46 (Ag x32 ae44_2 ne44_2) 33), (sb b24 #[(vi 0), (vi 0), (.slice none ([] : List Expr).length 0)] 33), (sb b21 (Ag x0 (some ⟨b36, o37, none⟩) n0_2) 33)] /\ P2 F7 F8 /\ FI f [] [(1, (pt b21 0)), (2, (pt b24 0)), (3, (pt b46 0)), (4, (pt b60 0)), (5, (.bool ((x32.Op == 1) && (x54.Op == 1)))), (49, (vi x0.Op)), (90, (.bool (bif (x0.Op == 8) then (x0.Op == 8) else (bif (x0.Op == 9) then (x0.Op == 9) else (x0.Op == 10)))))]) ?_ ?_
        ·refine Cp (x0.Op == 8) (fun hb175 => ?_) (fun hb175 => ?_)
         ·refine Sc ?_
          exact .inl ⟨rfl, F7, hs150, (P3 _), (fJ ⟨rfl, rfl, rfl, rfl, rfl, rfl, (congrArg Value.bool (DA hb175 rfl)), trivial⟩)⟩
         ·refine Sq (Rg [0, 1] ?_)
          refine Vs 2 ?_
          refine Nt ?_
          refine P9 (fun f w => ∃ (F9 : Mem), HS w0 F0 w F9 [(sb b60 (Ag x54 ae58_2 ne58_2) 33), (sb b46 (Ag x32 ae44_2 ne44_2) 33), (sb b24 #[(vi 0), (vi 0), (.slice none ([] : List Expr).length 0)] 33), (sb b21 (Ag x0 (some ⟨b36, o37, none⟩) n0_2) 33)] /\ P2 F7 F9 /\ FI f [] [(1, (pt b21 0)), (2, (pt b24 0)), (3, (pt b46 0)), (4, (pt b60 0)), (5, (.bool ((x32.Op == 1) && (x54.Op == 1)))), (49, (vi x0.Op)), (90, (.bool (bif (x0.Op == 9) then (x0.Op == 9) else (x0.Op == 10))))]) ?_ ?_
          ·refine Cp (x0.Op == 9) (fun hb187 => ?_) (fun hb187 => ?_)
           ·refine Sc ?_
            exact .inl ⟨rfl, F7, hs150, (P3 _), (fJ ⟨rfl, rfl, rfl, rfl, rfl, rfl, (congrArg Value.bool (DA hb187 rfl)), trivial⟩)⟩
           ·refine Rg [0, 1] ?_
            refine Vs 2 ?_
            refine PX ?_
            exact .inl ⟨rfl, F7, hs150, (P3 _), (fJ ⟨rfl, rfl, rfl, rfl, rfl, rfl, (congrArg Value.bool (ET hb187 rfl)), trivial⟩)⟩
          ·rintro f w176 ⟨F9, hs177, le178, ⟨_, rfl⟩⟩
           exact .inl ⟨rfl, F9, hs177, le178, (fJ ⟨rfl, rfl, rfl, rfl, rfl, rfl, (congrArg Value.bool (ET hb175 rfl)), trivial⟩)⟩
        ·rintro f w164 ⟨F8, hs165, le166, ⟨_, rfl⟩⟩
         refine Ac ?_
         refine Cd h163 (fun hb188 h189 => ?_) (fun hb188 h190 => ?_)
         ·refine Sq ?_
          refine Sq ?_
          obtain ⟨j196, hj204, h205⟩ := bind_some h189
          refine RD 4 4 [(sb b60 (Ag x54 ae58_2 ne58_2) 33), (sb b46 (Ag x32 ae44_2 ne44_2) 33), (sb b24 #[(vi 0), (vi 0), (.slice none ([] : List Expr).length 0)] 33), (sb b21 (Ag x0 (some ⟨b36, o37, none⟩) n0_2) 33)] [] hs165 (fun f w => ∃ (F10 : Mem), HS w0 F0 w F10 [(sb b60 (Ag x54 ae58_2 ne58_2) 33), (sb b46 (Ag x32 ae44_2 ne44_2) 33), (sb b24 #[(vi 0), (vi 0), (.slice none ([] : List Expr).length 0)] 33), (sb b21 (Ag x0 (some ⟨b36, o37, none⟩) n0_2) 33)] /\ P2 F8 F10 /\ FI f [] [(1, (pt b21 0)), (2, (pt b24 0)), (3, (pt b46 0)), (4, (pt b60 0)), (5, (.bool ((x32.Op == 1) && (x54.Op == 1)))), (6, (vi j196))]) (fun wd191 hw192 => ?_) ?_
          ·refine Dl 0 (fun _ hq => (hq.1.2 3 _ _ rfl)) ?_
           refine D1 1 ?_
           obtain ⟨r206, hm207, h208⟩ := bind_some hj204
           refine Ax.makeSlice (l' := [true, true, false, false]) (zd := true) (by kernel_rfl) (by kernel_rfl) (dst := (some 95)) (ty := 47) (g := none) (by kernel_rfl) rfl (x := (.const (vi 14))) (y := (.const (vi 14))) (t := 47) (by_ := 8) (z := (vi 0)) (T := A4) (E := 3) rfl rfl (by kernel_rfl) (by decide) (by kernel_rfl) (z0 := 0) (fun _ => rfl) (by decide) hw192 hm207 (P3 _) (by simp) (fun e => by cases e) (fun b209 n210 C211 w212 (hs213 : HS w0 F0 w212 F8 [(some b209, .cells C211 3 (0, 0)), (sb b60 (Ag x54 ae58_2 ne58_2) 33), (sb b46 (Ag x32 ae44_2 ne44_2) 33), (sb b24 #[(vi 0), (vi 0), (.slice none ([] : List Expr).length 0)] 33), (sb b21 (Ag x0 (some ⟨b36, o37, none⟩) n0_2) 33)]) hr214 => ?_)
           refine D1 2 ?_
           have hb219 := Qj hr214
           obtain ⟨F11, hs216, le217, hs218⟩ := hs213.fr0 hr214
           obtain ⟨r220, hr221, h222⟩ := bind_some h208
           refine DCl Cl hs216 (De N w212 F11 hs216.pers x0 (some ⟨b36, o37, none⟩) n0_2 hb0_2 (P5 hs0_2 ((((le67.trans le77).trans le151).trans le166).trans le217)) r206 (some ⟨b209, 0, none⟩) n210 hb219 hs218 _ hr221) ?_
           rintro _ F12 w224 hs225 le226 rfl
           refine Dv [3] ?_
           obtain rfl := Ab h222
           exact Qi (by kernel_rfl) ⟨F12, hs225, (le217.trans le226), fI⟩
          ·rintro f w193 ⟨F10, hs194, le195, ⟨_, rfl⟩⟩
           refine Ac ?_
           refine Sq (Rg [0, 1, 2, 3, 4] ?_)
           refine P8 (fun f w => ∃ (F13 : Mem), HS w0 F0 w F13 [(sb b60 (Ag x54 ae58_2 ne58_2) 33), (sb b46 (Ag x32 ae44_2 ne44_2) 33), (sb b24 #[(vi 0), (vi 0), (.slice none ([] : List Expr).length 0)] 33), (sb b21 (Ag x0 (some ⟨b36, o37, none⟩) n0_2) 33)] /\ P2 F10 F13 /\ FI f [] [(1, (pt b21 0)), (2, (pt b24 0)), (3, (pt b46 0)), (4, (pt b60 0)), (6, (vi j196)), (101, (.bool (((x32.Op == 1) && (x54.Op == 1)) && (decide (j196 >= 0)))))]) ?_ ?_
           ·refine Vs 2 ?_
            refine P7 ((x32.Op == 1) && (x54.Op == 1)) (fun hb238 => ?_) (fun hb238 => ?_)
            ·refine Vgs hb238 2 ?_
             refine Pk1 hb238 ?_
             exact PX ⟨rfl, F10, hs194, (P3 _), (fJ ⟨rfl, rfl, rfl, rfl, rfl, (congrArg Value.bool (B9 hb238 rfl)), trivial⟩)⟩
            ·refine Ss hb238 2 ?_
             refine Pk0 hb238 ?_
             exact PX ⟨rfl, F10, hs194, (P3 _), (fJ ⟨rfl, rfl, rfl, rfl, rfl, (congrArg Value.bool (DO hb238 rfl)), trivial⟩)⟩
           ·rintro f w228 ⟨F13, hs229, le230, ⟨_, rfl⟩⟩
            refine Ac ?_
            refine Cd h205 (fun hb239 h240 => ?_) (fun hb239 h241 => ?_)
            ·refine Sq (Rg [0, 1, 2] ?_)
             refine Vs 1 ?_
             obtain ⟨r242, hr243, h244⟩ := bind_some h240
             refine Cl' CR hs229 (C7 N w228 F13 hs229.pers j196 _ hr243) ?_
             rintro _ F14 w246 hs247 le248 ⟨ar242_0_2, nr242_0_2, rfl, hbr242_0_2, hsr242_0_2⟩
             refine St2 (Ag r242 ar242_0_2 nr242_0_2) hs247 (fun w250 hs251 => ?_)
             refine Nt ?_
             refine Rt ?_
             refine Af ?_
             refine Ai ?_
             refine Af ?_
             obtain rfl := Ab h244
             exact ⟨rfl, (.agg (Ag r242 ar242_0_2 nr242_0_2)), Ay (l := [.cell 2 33]) (by kernel_rfl) (vs := [(.agg (Ag r242 ar242_0_2 nr242_0_2))]) ⟨b24, 0, rfl, Aj (t := 33) (g := true) (s := 3) (by kernel_rfl) hs251.at2 rfl (by decide), trivial⟩, (.agg (Ag r242 ar242_0_2 nr242_0_2)), F14, rfl, hs251.clear, ⟨ar242_0_2, nr242_0_2, rfl, hbr242_0_2, hsr242_0_2⟩⟩
            ·refine Sc ?_
             refine Ac ?_
             refine Sq (Rg [0, 1, 2, 3, 4] ?_)
             refine Ld hs229.at3 ?_
             refine Ld hs229.at1 ?_
             refine Ld hs229.at0 ?_
             obtain ⟨r252, hr253, h254⟩ := bind_some h241
             refine Cl' Hu hs229 (Ik N w228 F13 hs229.pers x0 (some ⟨b36, o37, none⟩) n0_2 hb0_2 (P5 hs0_2 (((((le67.trans le77).trans le151).trans le166).trans le195).trans le230)) x32 ae44_2 ne44_2 hbe44_2 (P5 hse44_2 (((((le67.trans le77).trans le151).trans le166).trans le195).trans le230)) x54 ae58_2 ne58_2 hbe58_2 (P5 hse58_2 (((((le67.trans le77).trans le151).trans le166).trans le195).trans le230)) _ hr253) ?_
             rintro _ F15 w256 hs257 le258 ⟨ar252_0_2, nr252_0_2, rfl, hbr252_0_2, hsr252_0_2⟩
             refine St2 (Ag r252 ar252_0_2 nr252_0_2) hs257 (fun w260 hs261 => ?_)
             refine Nt ?_
             refine Rt ?_
             refine Ai ?_
             refine Af ?_
             obtain rfl := Ab h254
             exact ⟨rfl, (.agg (Ag r252 ar252_0_2 nr252_0_2)), Ay (l := [.cell 2 33]) (by kernel_rfl) (vs := [(.agg (Ag r252 ar252_0_2 nr252_0_2))]) ⟨b24, 0, rfl, Aj (t := 33) (g := true) (s := 3) (by kernel_rfl) hs261.at2 rfl (by decide), trivial⟩, (.agg (Ag r252 ar252_0_2 nr252_0_2)), F15, rfl, hs261.clear, ⟨ar252_0_2, nr252_0_2, rfl, hbr252_0_2, hsr252_0_2⟩⟩
         ·refine Sq (Rg [0, 1] ?_)
          refine Vs 2 ?_
          refine Nt ?_
          refine Cd h190 (fun hb262 h263 => ?_) (fun hb262 h264 => ?_)
          ·refine Bk ?_
           refine Sq (Rg [0, 1, 2] ?_)
           refine Ld hs165.at1 ?_
           obtain ⟨r265, hr266, h267⟩ := bind_some h263
           refine Cl' ER hs165 (Fd N w164 F8 hs165.pers x32 ae44_2 ne44_2 hbe44_2 (P5 hse44_2 (((le67.trans le77).trans le151).trans le166)) true _ hr266) ?_
           rintro _ F16 w269 hs270 le271 rfl
           refine Vs 1 ?_
           refine Nt ?_
           refine Cd h267 (fun hb273 h274 => ?_) (fun hb273 h275 => ?_)
           ·refine Sq (Rg [0, 1] ?_)
            refine Ld hs270.at0 ?_
            refine St2 (Ag x54 ae58_2 ne58_2) hs270 (fun w276 hs277 => ?_)
            refine Nt ?_
            refine Rt ?_
            refine Ai ?_
            refine Ai ?_
            refine Af ?_
            obtain rfl := Ab h274
            exact ⟨rfl, (.agg (Ag x54 ae58_2 ne58_2)), Ay (l := [.cell 2 33]) (by kernel_rfl) (vs := [(.agg (Ag x54 ae58_2 ne58_2))]) ⟨b24, 0, rfl, Aj (t := 33) (g := true) (s := 3) (by kernel_rfl) hs277.at2 rfl (by decide), trivial⟩, (.agg (Ag x54 ae58_2 ne58_2)), F16, rfl, hs277.clear, ⟨ae58_2, ne58_2, rfl, hbe58_2, (P5 hse58_2 ((((le67.trans le77).trans le151).trans le166).trans le271))⟩⟩
           ·refine Sq (Rg [0, 1, 2] ?_)
            refine Ld hs270.at1 ?_
            obtain ⟨r278, hr279, h280⟩ := bind_some h275
            refine Cl' ER hs270 (Fd N w269 F16 hs270.pers x32 ae44_2 ne44_2 hbe44_2 (P5 hse44_2 ((((le67.trans le77).trans le151).trans le166).trans le271)) false _ hr279) ?_
            rintro _ F17 w282 hs283 le284 rfl
            refine Vs 1 ?_
            refine Nt ?_
            refine Cd h280 (fun hb286 h287 => ?_) (fun hb286 h288 => ?_)
            ·refine Sq (Rg [0, 1, 2, 3, 4] ?_)
             refine Vs 1 ?_
             refine Ld hs283.at3 ?_
             obtain ⟨x289, hx290, h292⟩ := bind_some h287
             obtain ⟨hi291, hx290'⟩ := Aw hx290
             obtain ⟨ae293_2, ne293_2, hc294, hbe293_2, hse293_2⟩ := (AQ (hE43 _ _ hx290'))
             refine Ix hi291 ?_
             refine Lx 0 (hs283.pers _ _ ((((((le67.trans le77).trans le151).trans le166).trans le271).trans le284) _ _ hF42)) hc294 ?_
             refine St2 (Ag x289 ae293_2 ne293_2) hs283 (fun w295 hs296 => ?_)
             refine Nt ?_
             refine Rt ?_
             refine Ai ?_
             refine Ai ?_
             refine Af ?_
             obtain rfl := Ab h292
             exact ⟨rfl, (.agg (Ag x289 ae293_2 ne293_2)), Ay (l := [.cell 2 33]) (by kernel_rfl) (vs := [(.agg (Ag x289 ae293_2 ne293_2))]) ⟨b24, 0, rfl, Aj (t := 33) (g := true) (s := 3) (by kernel_rfl) hs296.at2 rfl (by decide), trivial⟩, (.agg (Ag x289 ae293_2 ne293_2)), F17, rfl, hs296.clear, ⟨ae293_2, ne293_2, rfl, hbe293_2, (P5 hse293_2 (((((le67.trans le77).trans le151).trans le166).trans le271).trans le284))⟩⟩
            ·refine Sq ?_
             obtain ⟨j302, hj308, h309⟩ := bind_some h288
             refine RD 7 7 [(sb b60 (Ag x54 ae58_2 ne58_2) 33), (sb b46 (Ag x32 ae44_2 ne44_2) 33), (sb b24 #[(vi 0), (vi 0), (.slice none ([] : List Expr).length 0)] 33), (sb b21 (Ag x0 (some ⟨b36, o37, none⟩) n0_2) 33)] [] hs283 (fun f w => ∃ (F18 : Mem), HS w0 F0 w F18 [(sb b60 (Ag x54 ae58_2 ne58_2) 33), (sb b24 #[(vi 0), (vi 0), (.slice none ([] : List Expr).length 0)] 33), (sb b21 (Ag x0 (some ⟨b36, o37, none⟩) n0_2) 33)] /\ P2 F17 F18 /\ FI f [] [(1, (pt b21 0)), (2, (pt b24 0)), (4, (pt b60 0)), (121, (.bool j302))]) (fun wd297 hw298 => ?_) ?_
             ·refine Dl 0 (fun _ hq => (hq.1.2 0 _ _ rfl)) ?_
              refine Dv [1] ?_
              refine Dl 2 (fun _ hq => (hq.1.2 3 _ _ rfl)) ?_
              obtain ⟨x310, hx311, h313⟩ := bind_some hj308
              obtain ⟨hi312, hx311'⟩ := Aw hx311
              obtain ⟨ae314_2, ne314_2, hc315, hbe314_2, hse314_2⟩ := (AQ (hE43 _ _ hx311'))
              refine Di 3 hi312 ?_
              refine Dx 4 0 (fun _ hq => hq.1.1 _ _ ((((((le67.trans le77).trans le151).trans le166).trans le271).trans le284) _ _ hF42)) hc315 ?_
              refine D1 5 ?_
              obtain ⟨r316, hr317, h318⟩ := bind_some h313
              refine DCl Cw hw298 (DX N wd297 F17 hw298.pers x54 ae58_2 ne58_2 hbe58_2 (P5 hse58_2 (((((le67.trans le77).trans le151).trans le166).trans le271).trans le284)) x310 ae314_2 ne314_2 hbe314_2 (P5 hse314_2 (((((le67.trans le77).trans le151).trans le166).trans le271).trans le284)) _ hr317) ?_
              rintro _ F19 w320 hs321 le322 rfl
              refine Dv [6] ?_
              obtain rfl := Ab h318
              exact Qi (by kernel_rfl) ⟨F19, hs321.dr1, le322, fI⟩
             ·rintro f w299 ⟨F18, hs300, le301, ⟨_, rfl⟩⟩
              refine Ac ?_
              refine Cd h309 (fun hb324 h325 => ?_) (fun hb324 h326 => ?_)
              ·refine Sq (Rg [0, 1] ?_)
               refine Ld hs300.at0 ?_
               refine St1 (Ag x54 ae58_2 ne58_2) hs300 (fun w327 hs328 => ?_)
               refine Nt ?_
               refine Rt ?_
               refine Ai ?_
               refine Ai ?_
               refine Af ?_
               obtain rfl := Ab h325
               exact ⟨rfl, (.agg (Ag x54 ae58_2 ne58_2)), Ay (l := [.cell 2 33]) (by kernel_rfl) (vs := [(.agg (Ag x54 ae58_2 ne58_2))]) ⟨b24, 0, rfl, Aj (t := 33) (g := true) (s := 3) (by kernel_rfl) hs328.at1 rfl (by decide), trivial⟩, (.agg (Ag x54 ae58_2 ne58_2)), F18, rfl, hs328.clear, ⟨ae58_2, ne58_2, rfl, hbe58_2, (P5 hse58_2 ((((((le67.trans le77).trans le151).trans le166).trans le271).trans le284).trans le301))⟩⟩
              ·refine Sc ?_
               refine Av ?_
               refine Av ?_
               refine Ac ?_
               refine Sq (Rg [0, 1] ?_)
               refine Ld hs300.at2 ?_
               refine St1 (Ag x0 (some ⟨b36, o37, none⟩) n0_2) hs300 (fun w329 hs330 => ?_)
               refine Nt ?_
               refine Rt ?_
               obtain rfl := Ab h326
               exact ⟨rfl, (.agg (Ag x0 (some ⟨b36, o37, none⟩) n0_2)), Ay (l := [.cell 2 33]) (by kernel_rfl) (vs := [(.agg (Ag x0 (some ⟨b36, o37, none⟩) n0_2))]) ⟨b24, 0, rfl, Aj (t := 33) (g := true) (s := 3) (by kernel_rfl) hs330.at1 rfl (by decide), trivial⟩, (.agg (Ag x0 (some ⟨b36, o37, none⟩) n0_2)), F18, rfl, hs330.clear, ⟨(some ⟨b36, o37, none⟩), n0_2, rfl, hb0_2, (P5 hs0_2 ((((((le67.trans le77).trans le151).trans le166).trans le271).trans le284).trans le301))⟩⟩
          ·cases h264
def Mt (sR94 : Expr -> Option Expr) : Prop := ∀ (w0 : World) (F0 : Mem) (hF : Qq w0 F0) (x0 : Expr) (a0_2 : Qp) (n0_2 : Nat) (hb0_2 : LC x0.Kids.length n0_2) (hs0_2 : SlA Ao F0 a0_2 x0.Kids) (r : Expr), sR94 x0 = some r -> Calls Tryz.prog 94 ([(.agg #[(.int .i64 x0.Op), (.int .i64 x0.Value), (.slice a0_2 x0.Kids.length n0_2)])] : List Value).toArray w0 (AO w0 F0 fun F' v => ∃ (aq0_2 : Qp) (nq0_2 : Nat), v = (.agg #[(.int .i64 r.Op), (.int .i64 r.Value), (.slice aq0_2 r.Kids.length nq0_2)]) /\ LC r.Kids.length nq0_2 /\ SlA Ao F' aq0_2 r.Kids)
theorem DM : An Tryz.prog 94 := fun _ _ => by kernel_rfl
def DD (N : Nat) (sR94 : Expr -> Option Expr) (x0 : Expr) : (Int × List Expr) -> Option (BV Expr (Int × List Expr)) := fun s37 =>
 (bif (decide (s37.1 < (x0.Kids.length : Int))) then ((idx x0.Kids s37.1).bind fun x63 => (((sR94 x63).bind fun r96 => ((Eg s37.2 [r96]).bind fun r109 => some r109)).bind fun j87 => some (.next ((W64 (s37.1 + 1)), j87)))) else some (.done (s37.1, s37.2)))
def D4 (N : Nat) (sR94 : Expr -> Option Expr) (x0 : Expr) : Option Expr :=
 ((Bz (DD N sR94 x0) N (0, ([] : List Expr))).bind fun o => o.k (fun r => some r) (fun s47 => ((Gx N ({ Op := x0.Op, Value := x0.Value, Kids := s47.2 } : Expr)).bind fun r127 => some r127)))
theorem Gn (N : Nat) (sR94 : Expr -> Option Expr) (hsR94 : Mt sR94) (w0 : World) (F0 : Mem) (hF : Qq w0 F0) (x0 : Expr) (a0_2 : Qp) (n0_2 : Nat) (hb0_2 : LC x0.Kids.length n0_2) (hs0_2 : SlA Ao F0 a0_2 x0.Kids) (r : Expr) (h : D4 N sR94 x0 = some r) :
  Calls Tryz.prog 94 ([(.agg (Ag x0 a0_2 n0_2))] : List Value).toArray w0 (AO w0 F0 fun F' v => ∃ (aq0_2 : Qp) (nq0_2 : Nat), v = (.agg (Ag r aq0_2 nq0_2)) /\ LC r.Kids.length nq0_2 /\ SlA Ao F' aq0_2 r.Kids) := by
 have hs0 := P4 hF
 refine Go 28 Tryz.func94 ?_
 refine Sq (Rg [0, 1] ?_)
 refine Bx' 33 (Ag x0 a0_2 n0_2) hs0 (fun b21 w22 hs23 => ?_)
 refine Al' 33 #[(vi 0), (vi 0), (.slice none ([] : List Expr).length 0)] hs23 (fun b24 w25 hs26 => ?_)
 refine Nss (Rg [0, 1, 2, 3, 4, 5, 6] ?_)
 refine Vs 1 ?_
 refine Ld hs26.at1 ?_
 refine Vs 1 ?_
 refine Ld hs26.at1 ?_
 refine Vs 1 ?_
 refine Al' 33 #[(vi 0), (vi 0), (.slice none ([] : List Expr).length 0)] hs26 (fun b27 w28 hs29 => ?_)
 refine St0 #[(vi x0.Op), (vi x0.Value), (.slice none ([] : List Expr).length 0)] hs29 (fun w30 hs31 => ?_)
 refine Nss ?_
 refine Sq (Rg [0, 1, 2, 3] ?_)
 refine Vs 1 ?_
 refine Ld hs31.at2 ?_
 refine Vs 2 ?_
 refine Nt ?_
 have hs32 := hs31.dr2.dummy (oc #[] 0)
 obtain ⟨o34, ho35, h36⟩ := bind_some h
 refine P9 (fun f w => ∃ (s47 : (Int × List Expr)) (F2 : Mem) (as47_1 : Qp) (ns47_1 : Nat) (es47_1 : Option Nat × Obj), o34 = .done s47 /\ HS w0 F0 w F2 [es47_1, (sb b27 #[(vi x0.Op), (vi x0.Value), (.slice as47_1 s47.2.length ns47_1)] 33), (sb b24 #[(vi 0), (vi 0), (.slice none ([] : List Expr).length 0)] 33)] /\ P2 F0 F2 /\ FI f [] [(2, (pt b24 0)), (3, (pt b27 0))] /\ Aq Ao 33 F2 as47_1 ns47_1 s47.2 es47_1) ?_ ?_
 ·refine Bk ?_
  refine P1 (by kernel_rfl) (fun m f w => ∃ (s37 : (Int × List Expr)) (F1 : Mem) (as37_1 : Qp) (ns37_1 : Nat) (es37_1 : Option Nat × Obj), Bz (DD N sR94 x0) m s37 = some o34 /\ HS w0 F0 w F1 [es37_1, (sb b27 #[(vi x0.Op), (vi x0.Value), (.slice as37_1 s37.2.length ns37_1)] 33), (sb b24 #[(vi 0), (vi 0), (.slice none ([] : List Expr).length 0)] 33)] /\ P2 F0 F1 /\ FI f [] [(2, (pt b24 0)), (3, (pt b27 0)), (12, (.slice a0_2 x0.Kids.length n0_2)), (13, (vi (x0.Kids.length : Int))), (14, (vi s37.1))] /\ Aq Ao 33 F1 as37_1 ns37_1 s37.2 es37_1) N ⟨(0, ([] : List Expr)), F0, none, 0, (none, .cells #[] 0 (0, 0)), ho35, hs32, (P3 _), fI, (Qk Ao 33 F0 _)⟩ ?_
  rintro m54 f w38 ⟨s37, F1, as37_1, ns37_1, es37_1, hit55, hs39, le40, ⟨_, rfl⟩, hrs37_1⟩
  obtain ⟨m56, fl57, rfl, hb58, hnx59⟩ := A3 hit55
  refine Sq (Rg [0] ?_)
  refine Vs 1 ?_
  refine Nss ?_
  refine Cd hb58 (fun hb60 h61 => ?_) (fun hb60 h62 => ?_)
  ·refine Sc ?_
   refine Ac ?_
   refine Sq ?_
   refine Bk ?_
   refine Sq (Rg [0, 1, 2, 3] ?_)
   obtain ⟨x63, hx64, h66⟩ := bind_some h61
   obtain ⟨hi65, hx64'⟩ := Aw hx64
   obtain ⟨b67, o68, C69, E70, fz71, rfl, hF73, hE74⟩ := Qd (P5 hs0_2 le40) hx64'
   obtain ⟨ae75_2, ne75_2, hc76, hbe75_2, hse75_2⟩ := (AQ (hE74 _ _ hx64'))
   refine Ix hi65 ?_
   refine Lx 0 (hs39.pers _ _ hF73) hc76 ?_
   refine Al' 33 #[(vi 0), (vi 0), (.slice none ([] : List Expr).length 0)] hs39 (fun b77 w78 hs79 => ?_)
   refine St0 (Ag x63 ae75_2 ne75_2) hs79 (fun w80 hs81 => ?_)
   refine Nt ?_
   obtain ⟨j87, hj94, h95⟩ := bind_some h66
   refine RD 7 8 [(sb b77 (Ag x63 ae75_2 ne75_2) 33), (sb b24 #[(vi 0), (vi 0), (.slice none ([] : List Expr).length 0)] 33)] [(sb b27 #[(vi x0.Op), (vi x0.Value), (.slice as37_1 s37.2.length ns37_1)] 33)] hs81 (fun f w => ∃ (F3 : Mem) (aj87_0 : Qp) (nj87_0 : Nat) (ej87_0 : Option Nat × Obj), HS w0 F0 w F3 [ej87_0, (sb b27 #[(vi x0.Op), (vi x0.Value), (.slice aj87_0 j87.length nj87_0)] 33), (sb b24 #[(vi 0), (vi 0), (.slice none ([] : List Expr).length 0)] 33)] /\ P2 F1 F3 /\ FI f [] [(2, (pt b24 0)), (3, (pt b27 0)), (12, (.slice (some ⟨b67, o68, none⟩) x0.Kids.length n0_2)), (13, (vi (x0.Kids.length : Int))), (14, (vi s37.1))] /\ Aq Ao 33 F3 aj87_0 nj87_0 j87 ej87_0) (fun wd82 hw83 => ?_) ?_
   ·refine Dv [0] ?_
    refine Dl 1 (fun _ hq => ((hq.2 rfl).2 0 _ _ rfl)) ?_
    refine Dl 2 (fun _ hq => (hq.1.2 0 _ _ rfl)) ?_
    refine D1 3 ?_
    obtain ⟨r96, hr97, h98⟩ := bind_some hj94
    refine DCl DM hw83 (hsR94 wd82 F1 hw83.pers x63 ae75_2 ne75_2 hbe75_2 hse75_2 _ hr97) ?_
    rintro _ F4 w100 hs101 le102 ⟨ar96_0_2, nr96_0_2, rfl, hbr96_0_2, hsr96_0_2⟩
    refine D1 4 ?_
    refine DBs 33 [(vi r96.Op), (vi r96.Value), (.slice ar96_0_2 r96.Kids.length nr96_0_2)] hs101 le102 (fun b104 w105 hs106 => ?_)
    have hr108 : Aq Ao 33 F4 (some ⟨b104, 0, none⟩) 1 [r96] (some b104, .cells ([(vi r96.Op), (vi r96.Value), (.slice ar96_0_2 r96.Kids.length nr96_0_2)] : List Value).toArray 33 (0, 0)) := Ql ⟨(AY ⟨ar96_0_2, nr96_0_2, rfl, hbr96_0_2, hsr96_0_2⟩), rfl⟩ (by simp)
    refine D1 5 ?_
    obtain ⟨r109, hap110, h111⟩ := bind_some h98
    refine PV NN hs106 (hrs37_1.mono le102) (hs106.rd0 hr108) hap110 le102 (fun a112 n113 e114 w115 hs116 hr117 => ?_)
    refine Dv [6] ?_
    refine D1 7 ?_
    refine Pk #[(vi x0.Op), (vi x0.Value), (.slice a112 r109.length n113)] hs116 le102 (fun w118 hs119 => ?_)
    obtain rfl := Ab h111
    exact Qi (by kernel_rfl) ⟨F4, a112, n113, e114, hs119.dr0.dr0, le102, fI, hr117⟩
   ·rintro f w84 ⟨F3, aj87_0, nj87_0, ej87_0, hs85, le86, ⟨_, rfl⟩, hrj87_0⟩
    refine Av ?_
    refine Ac ?_
    refine Rg [0, 1] ?_
    refine Vs 2 ?_
    refine PX ?_
    have hn120 := A0 h95 hnx59
    exact ⟨m56, Nat.lt_succ_self _, ((W64 (s37.1 + 1)), j87), F3, aj87_0, nj87_0, ej87_0, hn120, hs85, (le40.trans le86), fI, hrj87_0⟩
  ·refine Ex ?_
   refine AC ?_
   refine AC ?_
   refine AR rfl ?_
   have ho121 := A7 h62 hnx59
   exact .inl ⟨rfl, (s37.1, s37.2), F1, as37_1, ns37_1, es37_1, ho121, hs39, le40, fI, hrs37_1⟩
 ·rintro f w48 ⟨s47, F2, as47_1, ns47_1, es47_1, rfl, hs49, le50, ⟨_, rfl⟩, hrs47_1⟩
  have h122 := Ca h36
  refine Ac ?_
  refine Sq (Rg [0, 1, 2] ?_)
  refine Ld hs49.at1 ?_
  have hb126 := Qj hrs47_1
  obtain ⟨F5, hs123, le124, hs125⟩ := hs49.fr0 hrs47_1
  obtain ⟨r127, hr128, h129⟩ := bind_some h122
  refine Cl' Ib hs123 (I4 N w48 F5 hs123.pers (({ Op := x0.Op, Value := x0.Value, Kids := s47.2 } : Expr)) as47_1 ns47_1 hb126 hs125 _ hr128) ?_
  rintro _ F6 w131 hs132 le133 ⟨ar127_0_2, nr127_0_2, rfl, hbr127_0_2, hsr127_0_2⟩
  refine St1 (Ag r127 ar127_0_2 nr127_0_2) hs132 (fun w135 hs136 => ?_)
  refine Nt ?_
  refine Rt ?_
  obtain rfl := Ab h129
  exact ⟨rfl, (.agg (Ag r127 ar127_0_2 nr127_0_2)), Ay (l := [.cell 2 33]) (by kernel_rfl) (vs := [(.agg (Ag r127 ar127_0_2 nr127_0_2))]) ⟨b24, 0, rfl, Aj (t := 33) (g := true) (s := 3) (by kernel_rfl) hs136.at1 rfl (by decide), trivial⟩, (.agg (Ag r127 ar127_0_2 nr127_0_2)), F6, rfl, hs136.clear, ⟨ar127_0_2, nr127_0_2, rfl, hbr127_0_2, hsr127_0_2⟩⟩
structure PA where
 q94 : Expr -> Option Expr
def MH (N : Nat) : Nat -> PA
 | 0 => ⟨fun _ => none⟩
 | k + 1 => ⟨D4 N (MH N k).q94⟩
theorem Lp (N : Nat) : ∀ k, Mt (MH N k).q94
 | 0 => (by unfold Mt; intros; rename_i h; cases h)
 | k + 1 => by
  have ih := Lp N k
  exact @Gn N (MH N k).q94 ih
def EK (N : Nat) (x0 : Expr) : Option Expr := (MH N N).q94 x0
theorem GQ (N : Nat) (w0 : World) (F0 : Mem) (hF : Qq w0 F0) (x0 : Expr) (a0_2 : Qp) (n0_2 : Nat) (hb0_2 : LC x0.Kids.length n0_2) (hs0_2 : SlA Ao F0 a0_2 x0.Kids) (r : Expr) (h : EK N x0 = some r) :
  Calls Tryz.prog 94 ([(.agg #[(.int .i64 x0.Op), (.int .i64 x0.Value), (.slice a0_2 x0.Kids.length n0_2)])] : List Value).toArray w0 (AO w0 F0 fun F' v => ∃ (aq0_2 : Qp) (nq0_2 : Nat), v = (.agg #[(.int .i64 r.Op), (.int .i64 r.Value), (.slice aq0_2 r.Kids.length nq0_2)]) /\ LC r.Kids.length nq0_2 /\ SlA Ao F' aq0_2 r.Kids) := (Lp N N) w0 F0 hF x0 a0_2 n0_2 hb0_2 hs0_2 r h
def Fu (N : Nat) (x0 : Expr) : Option (Expr × Int) :=
 ((Ci N x0).bind fun r27 => (bif (!r27) then some (({ Op := 0, Value := 0, Kids := ([] : List Expr) } : Expr), 61) else ((EK N x0).bind fun r40 => some (r40, 0))))
theorem Hw : An Tryz.prog 30 := fun _ _ => by kernel_rfl
theorem Il (N : Nat) (w0 : World) (F0 : Mem) (hF : Qq w0 F0) (x0 : Expr) (a0_2 : Qp) (n0_2 : Nat) (hb0_2 : LC x0.Kids.length n0_2) (hs0_2 : SlA Ao F0 a0_2 x0.Kids) (r : (Expr × Int)) (h : Fu N x0 = some r) :
  Calls Tryz.prog 30 ([(.agg (Ag x0 a0_2 n0_2))] : List Value).toArray w0 (AO w0 F0 fun F' v => ∃ (aq0_2 : Qp) (nq0_2 : Nat), v = (.tuple #[(.agg (Ag r.1 aq0_2 nq0_2)), (vi r.2)]) /\ LC r.1.Kids.length nq0_2 /\ SlA Ao F' aq0_2 r.1.Kids) := by
 have hs0 := P4 hF
 refine Go 10 Tryz.func30 ?_
 refine Sq (Rg [0, 1, 2] ?_)
 refine Bx' 33 (Ag x0 a0_2 n0_2) hs0 (fun b21 w22 hs23 => ?_)
 refine Al' 33 #[(vi 0), (vi 0), (.slice none ([] : List Expr).length 0)] hs23 (fun b24 w25 hs26 => ?_)
 refine Vs 1 ?_
 refine Nss ?_
 refine Sq (Rg [0, 1, 2] ?_)
 refine Ld hs26.at1 ?_
 obtain ⟨r27, hr28, h29⟩ := bind_some h
 refine Cl' CQ hs26 (Df N w25 F0 hs26.pers x0 a0_2 n0_2 hb0_2 hs0_2 _ hr28) ?_
 rintro _ F1 w31 hs32 le33 rfl
 refine Vs 1 ?_
 refine Nt ?_
 refine Cd h29 (fun hb35 h36 => ?_) (fun hb35 h37 => ?_)
 ·refine Sq (Rg [0, 1, 2] ?_)
  refine Vs 1 ?_
  refine St0 #[(vi 0), (vi 0), (.slice none ([] : List Expr).length 0)] hs32 (fun w38 hs39 => ?_)
  refine Vs 1 ?_
  refine Nt ?_
  refine Rt ?_
  refine Af ?_
  obtain rfl := Ab h36
  exact ⟨rfl, (.tuple #[(.agg #[(vi 0), (vi 0), (.slice none ([] : List Expr).length 0)]), (vi 61)]), Ay (l := [.cell 2 33, .tmp 3]) (by kernel_rfl) (vs := [(.agg #[(vi 0), (vi 0), (.slice none ([] : List Expr).length 0)]), (vi 61)]) ⟨b24, 0, rfl, Aj (t := 33) (g := true) (s := 3) (by kernel_rfl) hs39.at0 rfl (by decide), ⟨rfl, trivial⟩⟩, (.tuple #[(.agg #[(vi 0), (vi 0), (.slice none ([] : List Expr).length 0)]), (vi 61)]), F1, rfl, hs39.clear, ⟨none, 0, rfl, P6, (.inl rfl)⟩⟩
 ·refine Sc ?_
  refine Ac ?_
  refine Sq (Rg [0, 1, 2, 3] ?_)
  refine Ld hs32.at1 ?_
  obtain ⟨r40, hr41, h42⟩ := bind_some h37
  refine Cl' DM hs32 (GQ N w31 F1 hs32.pers x0 a0_2 n0_2 hb0_2 (P5 hs0_2 le33) _ hr41) ?_
  rintro _ F2 w44 hs45 le46 ⟨ar40_0_2, nr40_0_2, rfl, hbr40_0_2, hsr40_0_2⟩
  refine St0 (Ag r40 ar40_0_2 nr40_0_2) hs45 (fun w48 hs49 => ?_)
  refine Vs 1 ?_
  refine Nt ?_
  refine Rt ?_
  obtain rfl := Ab h42
  exact ⟨rfl, (.tuple #[(.agg (Ag r40 ar40_0_2 nr40_0_2)), (vi 0)]), Ay (l := [.cell 2 33, .tmp 3]) (by kernel_rfl) (vs := [(.agg (Ag r40 ar40_0_2 nr40_0_2)), (vi 0)]) ⟨b24, 0, rfl, Aj (t := 33) (g := true) (s := 3) (by kernel_rfl) hs49.at0 rfl (by decide), ⟨rfl, trivial⟩⟩, (.tuple #[(.agg (Ag r40 ar40_0_2 nr40_0_2)), (vi 0)]), F2, rfl, hs49.clear, ⟨ar40_0_2, nr40_0_2, rfl, hbr40_0_2, hsr40_0_2⟩⟩
def GZ (N : Nat) (x0 : Int) : Option (BJ × Bool) :=
 (bif (x0 == 5) then some (({ text_ := ([111, 114] : Qo), rank_ := 1, left_ := 1, right_ := 2 } : BJ), true) else (bif (x0 == 4) then some (({ text_ := ([97, 110, 100] : Qo), rank_ := 2, left_ := 2, right_ := 3 } : BJ), true) else (bif (x0 == 6) then some (({ text_ := ([61] : Qo), rank_ := 4, left_ := 5, right_ := 5 } : BJ), true) else (bif (x0 == 7) then some (({ text_ := ([60] : Qo), rank_ := 4, left_ := 5, right_ := 5 } : BJ), true) else (bif (x0 == 8) then some (({ text_ := ([43] : Qo), rank_ := 5, left_ := 5, right_ := 6 } : BJ), true) else (bif (x0 == 9) then some (({ text_ := ([45] : Qo), rank_ := 5, left_ := 5, right_ := 6 } : BJ), true) else (bif (x0 == 10) then some (({ text_ := ([42] : Qo), rank_ := 6, left_ := 6, right_ := 7 } : BJ), true) else some (({ text_ := ([] : Qo), rank_ := 0, left_ := 0, right_ := 0 } : BJ), false))))))))
theorem IY : An Tryz.prog 150 := fun _ _ => by kernel_rfl
theorem JK (N : Nat) (w0 : World) (F0 : Mem) (hF : Qq w0 F0) (x0 : Int) (r : (BJ × Bool)) (h : GZ N x0 = some r) :
  Calls Tryz.prog 150 ([(vi x0)] : List Value).toArray w0 (AO w0 F0 fun F' v => v = (.tuple #[(.agg (Er r.1)), (.bool r.2)])) := by
 have hs0 := P4 hF
 refine Go 27 Tryz.func150 ?_
 refine Sq (Rg [0, 1] ?_)
 refine Al' 173 #[(.string ⟨(([] : Qo)).toArray⟩), (vi 0), (vi 0), (vi 0)] hs0 (fun b21 w22 hs23 => ?_)
 refine Vs 1 ?_
 refine Nss ?_
 refine Sq (Rg [0] ?_)
 refine Vs 1 ?_
 refine Nt ?_
 refine Bk ?_
 refine Sq (Rg [0, 1] ?_)
 refine Vs 2 ?_
 refine Nt ?_
 refine Cd h (fun hb24 h25 => ?_) (fun hb24 h26 => ?_)
 ·refine Sq (Rg [0, 1, 2] ?_)
  refine Vs 1 ?_
  refine St0 #[(.string ⟨(([111, 114] : Qo)).toArray⟩), (vi 1), (vi 1), (vi 2)] hs23 (fun w27 hs28 => ?_)
  refine Vs 1 ?_
  refine Nt ?_
  refine Rt ?_
  refine Ai ?_
  refine Af ?_
  obtain rfl := Ab h25
  exact ⟨rfl, (.tuple #[(.agg #[(.string ⟨(([111, 114] : Qo)).toArray⟩), (vi 1), (vi 1), (vi 2)]), (.bool true)]), Ay (l := [.cell 2 173, .tmp 3]) (by kernel_rfl) (vs := [(.agg #[(.string ⟨(([111, 114] : Qo)).toArray⟩), (vi 1), (vi 1), (vi 2)]), (.bool true)]) ⟨b21, 0, rfl, Aj (t := 173) (g := true) (s := 4) (by kernel_rfl) hs28.at0 rfl (by decide), ⟨rfl, trivial⟩⟩, (.tuple #[(.agg #[(.string ⟨(([111, 114] : Qo)).toArray⟩), (vi 1), (vi 1), (vi 2)]), (.bool true)]), F0, rfl, hs28.clear, rfl⟩
 ·refine Sq (Rg [0, 1] ?_)
  refine Vs 2 ?_
  refine Nt ?_
  refine Cd h26 (fun hb29 h30 => ?_) (fun hb29 h31 => ?_)
  ·refine Sq (Rg [0, 1, 2] ?_)
   refine Vs 1 ?_
   refine St0 #[(.string ⟨(([97, 110, 100] : Qo)).toArray⟩), (vi 2), (vi 2), (vi 3)] hs23 (fun w32 hs33 => ?_)
   refine Vs 1 ?_
   refine Nt ?_
   refine Rt ?_
   refine Ai ?_
   refine Af ?_
   obtain rfl := Ab h30
   exact ⟨rfl, (.tuple #[(.agg #[(.string ⟨(([97, 110, 100] : Qo)).toArray⟩), (vi 2), (vi 2), (vi 3)]), (.bool true)]), Ay (l := [.cell 2 173, .tmp 3]) (by kernel_rfl) (vs := [(.agg #[(.string ⟨(([97, 110, 100] : Qo)).toArray⟩), (vi 2), (vi 2), (vi 3)]), (.bool true)]) ⟨b21, 0, rfl, Aj (t := 173) (g := true) (s := 4) (by kernel_rfl) hs33.at0 rfl (by decide), ⟨rfl, trivial⟩⟩, (.tuple #[(.agg #[(.string ⟨(([97, 110, 100] : Qo)).toArray⟩), (vi 2), (vi 2), (vi 3)]), (.bool true)]), F0, rfl, hs33.clear, rfl⟩
  ·refine Sq (Rg [0, 1] ?_)
   refine Vs 2 ?_
   refine Nt ?_
   refine Cd h31 (fun hb34 h35 => ?_) (fun hb34 h36 => ?_)
   ·refine Sq (Rg [0, 1, 2] ?_)
    refine Vs 1 ?_
    refine St0 #[(.string ⟨(([61] : Qo)).toArray⟩), (vi 4), (vi 5), (vi 5)] hs23 (fun w37 hs38 => ?_)
    refine Vs 1 ?_
    refine Nt ?_
    refine Rt ?_
    refine Ai ?_
    refine Af ?_
    obtain rfl := Ab h35
    exact ⟨rfl, (.tuple #[(.agg #[(.string ⟨(([61] : Qo)).toArray⟩), (vi 4), (vi 5), (vi 5)]), (.bool true)]), Ay (l := [.cell 2 173, .tmp 3]) (by kernel_rfl) (vs := [(.agg #[(.string ⟨(([61] : Qo)).toArray⟩), (vi 4), (vi 5), (vi 5)]), (.bool true)]) ⟨b21, 0, rfl, Aj (t := 173) (g := true) (s := 4) (by kernel_rfl) hs38.at0 rfl (by decide), ⟨rfl, trivial⟩⟩, (.tuple #[(.agg #[(.string ⟨(([61] : Qo)).toArray⟩), (vi 4), (vi 5), (vi 5)]), (.bool true)]), F0, rfl, hs38.clear, rfl⟩
   ·refine Sq (Rg [0, 1] ?_)
    refine Vs 2 ?_
    refine Nt ?_
    refine Cd h36 (fun hb39 h40 => ?_) (fun hb39 h41 => ?_)
    ·refine Sq (Rg [0, 1, 2] ?_)
     refine Vs 1 ?_
     refine St0 #[(.string ⟨(([60] : Qo)).toArray⟩), (vi 4), (vi 5), (vi 5)] hs23 (fun w42 hs43 => ?_)
     refine Vs 1 ?_
     refine Nt ?_
     refine Rt ?_
     refine Ai ?_
     refine Af ?_
     obtain rfl := Ab h40
     exact ⟨rfl, (.tuple #[(.agg #[(.string ⟨(([60] : Qo)).toArray⟩), (vi 4), (vi 5), (vi 5)]), (.bool true)]), Ay (l := [.cell 2 173, .tmp 3]) (by kernel_rfl) (vs := [(.agg #[(.string ⟨(([60] : Qo)).toArray⟩), (vi 4), (vi 5), (vi 5)]), (.bool true)]) ⟨b21, 0, rfl, Aj (t := 173) (g := true) (s := 4) (by kernel_rfl) hs43.at0 rfl (by decide), ⟨rfl, trivial⟩⟩, (.tuple #[(.agg #[(.string ⟨(([60] : Qo)).toArray⟩), (vi 4), (vi 5), (vi 5)]), (.bool true)]), F0, rfl, hs43.clear, rfl⟩
    ·refine Sq (Rg [0, 1] ?_)
     refine Vs 2 ?_
     refine Nt ?_
     refine Cd h41 (fun hb44 h45 => ?_) (fun hb44 h46 => ?_)
     ·refine Sq (Rg [0, 1, 2] ?_)
      refine Vs 1 ?_
      refine St0 #[(.string ⟨(([43] : Qo)).toArray⟩), (vi 5), (vi 5), (vi 6)] hs23 (fun w47 hs48 => ?_)
      refine Vs 1 ?_
      refine Nt ?_
      refine Rt ?_
      refine Ai ?_
      refine Af ?_
      obtain rfl := Ab h45
      exact ⟨rfl, (.tuple #[(.agg #[(.string ⟨(([43] : Qo)).toArray⟩), (vi 5), (vi 5), (vi 6)]), (.bool true)]), Ay (l := [.cell 2 173, .tmp 3]) (by kernel_rfl) (vs := [(.agg #[(.string ⟨(([43] : Qo)).toArray⟩), (vi 5), (vi 5), (vi 6)]), (.bool true)]) ⟨b21, 0, rfl, Aj (t := 173) (g := true) (s := 4) (by kernel_rfl) hs48.at0 rfl (by decide), ⟨rfl, trivial⟩⟩, (.tuple #[(.agg #[(.string ⟨(([43] : Qo)).toArray⟩), (vi 5), (vi 5), (vi 6)]), (.bool true)]), F0, rfl, hs48.clear, rfl⟩
     ·refine Sq (Rg [0, 1] ?_)
      refine Vs 2 ?_
      refine Nt ?_
      refine Cd h46 (fun hb49 h50 => ?_) (fun hb49 h51 => ?_)
      ·refine Sq (Rg [0, 1, 2] ?_)
       refine Vs 1 ?_
       refine St0 #[(.string ⟨(([45] : Qo)).toArray⟩), (vi 5), (vi 5), (vi 6)] hs23 (fun w52 hs53 => ?_)
       refine Vs 1 ?_
       refine Nt ?_
       refine Rt ?_
       refine Ai ?_
       refine Af ?_
       obtain rfl := Ab h50
       exact ⟨rfl, (.tuple #[(.agg #[(.string ⟨(([45] : Qo)).toArray⟩), (vi 5), (vi 5), (vi 6)]), (.bool true)]), Ay (l := [.cell 2 173, .tmp 3]) (by kernel_rfl) (vs := [(.agg #[(.string ⟨(([45] : Qo)).toArray⟩), (vi 5), (vi 5), (vi 6)]), (.bool true)]) ⟨b21, 0, rfl, Aj (t := 173) (g := true) (s := 4) (by kernel_rfl) hs53.at0 rfl (by decide), ⟨rfl, trivial⟩⟩, (.tuple #[(.agg #[(.string ⟨(([45] : Qo)).toArray⟩), (vi 5), (vi 5), (vi 6)]), (.bool true)]), F0, rfl, hs53.clear, rfl⟩
      ·refine Sq (Rg [0, 1] ?_)
       refine Vs 2 ?_
       refine Nt ?_
       refine Cd h51 (fun hb54 h55 => ?_) (fun hb54 h56 => ?_)
       ·refine Sq (Rg [0, 1, 2] ?_)
        refine Vs 1 ?_
        refine St0 #[(.string ⟨(([42] : Qo)).toArray⟩), (vi 6), (vi 6), (vi 7)] hs23 (fun w57 hs58 => ?_)
        refine Vs 1 ?_
        refine Nt ?_
        refine Rt ?_
        refine Ai ?_
        refine Af ?_
        obtain rfl := Ab h55
        exact ⟨rfl, (.tuple #[(.agg #[(.string ⟨(([42] : Qo)).toArray⟩), (vi 6), (vi 6), (vi 7)]), (.bool true)]), Ay (l := [.cell 2 173, .tmp 3]) (by kernel_rfl) (vs := [(.agg #[(.string ⟨(([42] : Qo)).toArray⟩), (vi 6), (vi 6), (vi 7)]), (.bool true)]) ⟨b21, 0, rfl, Aj (t := 173) (g := true) (s := 4) (by kernel_rfl) hs58.at0 rfl (by decide), ⟨rfl, trivial⟩⟩, (.tuple #[(.agg #[(.string ⟨(([42] : Qo)).toArray⟩), (vi 6), (vi 6), (vi 7)]), (.bool true)]), F0, rfl, hs58.clear, rfl⟩
       ·refine Sc ?_
        refine Av ?_
        refine Ac ?_
        refine Sq (Rg [0, 1, 2] ?_)
        refine Vs 1 ?_
        refine St0 #[(.string ⟨(([] : Qo)).toArray⟩), (vi 0), (vi 0), (vi 0)] hs23 (fun w59 hs60 => ?_)
        refine Vs 1 ?_
        refine Nt ?_
        refine Rt ?_
        obtain rfl := Ab h56
        exact ⟨rfl, (.tuple #[(.agg #[(.string ⟨(([] : Qo)).toArray⟩), (vi 0), (vi 0), (vi 0)]), (.bool false)]), Ay (l := [.cell 2 173, .tmp 3]) (by kernel_rfl) (vs := [(.agg #[(.string ⟨(([] : Qo)).toArray⟩), (vi 0), (vi 0), (vi 0)]), (.bool false)]) ⟨b21, 0, rfl, Aj (t := 173) (g := true) (s := 4) (by kernel_rfl) hs60.at0 rfl (by decide), ⟨rfl, trivial⟩⟩, (.tuple #[(.agg #[(.string ⟨(([] : Qo)).toArray⟩), (vi 0), (vi 0), (vi 0)]), (.bool false)]), F0, rfl, hs60.clear, rfl⟩
def Ft (N : Nat)  : Option (List Qo) :=
 some [([98, 97, 110, 100] : Qo), ([109, 111, 100, 101] : Qo), ([104, 111, 117, 114] : Qo), ([109, 121, 99, 111, 117, 110, 116, 114, 121] : Qo), ([109, 121, 122, 111, 110, 101] : Qo), ([109, 121, 99, 111, 110, 116, 105, 110, 101, 110, 116] : Qo), ([99, 111, 117, 110, 116, 114, 121] : Qo), ([122, 111, 110, 101] : Qo), ([99, 111, 110, 116, 105, 110, 101, 110, 116] : Qo), ([99, 97, 108, 108] : Qo), ([103, 111, 116, 122, 111, 110, 101] : Qo), ([99, 97, 116, 101, 103, 111, 114, 121] : Qo), ([112, 111, 119, 101, 114] : Qo), ([115, 116, 97, 116, 117, 115] : Qo)]
theorem FO : An Tryz.prog 152 := fun _ _ => by kernel_rfl
theorem GF (N : Nat) (w0 : World) (F0 : Mem) (hF : Qq w0 F0)  (r : (List Qo)) (h : Ft N  = some r) :
  Calls Tryz.prog 152 ([] : List Value).toArray w0 (AO w0 F0 fun F' v => ∃ (aq0_0 : Qp) (nq0_0 : Nat), v = (.slice aq0_0 r.length nq0_0) /\ LC r.length nq0_0 /\ SlA EH F' aq0_0 r) := by
 have hs0 := P4 hF
 refine Go 2 Tryz.func152 ?_
 refine Sq (Rg [0] ?_)
 refine Vs 1 ?_
 refine Nss (Rg [0, 1] ?_)
 refine Bs 9 [(.string ⟨(([98, 97, 110, 100] : Qo)).toArray⟩), (.string ⟨(([109, 111, 100, 101] : Qo)).toArray⟩), (.string ⟨(([104, 111, 117, 114] : Qo)).toArray⟩), (.string ⟨(([109, 121, 99, 111, 117, 110, 116, 114, 121] : Qo)).toArray⟩), (.string ⟨(([109, 121, 122, 111, 110, 101] : Qo)).toArray⟩), (.string ⟨(([109, 121, 99, 111, 110, 116, 105, 110, 101, 110, 116] : Qo)).toArray⟩), (.string ⟨(([99, 111, 117, 110, 116, 114, 121] : Qo)).toArray⟩), (.string ⟨(([122, 111, 110, 101] : Qo)).toArray⟩), (.string ⟨(([99, 111, 110, 116, 105, 110, 101, 110, 116] : Qo)).toArray⟩), (.string ⟨(([99, 97, 108, 108] : Qo)).toArray⟩), (.string ⟨(([103, 111, 116, 122, 111, 110, 101] : Qo)).toArray⟩), (.string ⟨(([99, 97, 116, 101, 103, 111, 114, 121] : Qo)).toArray⟩), (.string ⟨(([112, 111, 119, 101, 114] : Qo)).toArray⟩), (.string ⟨(([115, 116, 97, 116, 117, 115] : Qo)).toArray⟩)] hs0 (fun b21 w22 hs23 => ?_)
 have hr25 : Aq EH 9 F0 (some ⟨b21, 0, none⟩) 14 [([98, 97, 110, 100] : Qo), ([109, 111, 100, 101] : Qo), ([104, 111, 117, 114] : Qo), ([109, 121, 99, 111, 117, 110, 116, 114, 121] : Qo), ([109, 121, 122, 111, 110, 101] : Qo), ([109, 121, 99, 111, 110, 116, 105, 110, 101, 110, 116] : Qo), ([99, 111, 117, 110, 116, 114, 121] : Qo), ([122, 111, 110, 101] : Qo), ([99, 111, 110, 116, 105, 110, 101, 110, 116] : Qo), ([99, 97, 108, 108] : Qo), ([103, 111, 116, 122, 111, 110, 101] : Qo), ([99, 97, 116, 101, 103, 111, 114, 121] : Qo), ([112, 111, 119, 101, 114] : Qo), ([115, 116, 97, 116, 117, 115] : Qo)] (some b21, .cells ([(.string ⟨(([98, 97, 110, 100] : Qo)).toArray⟩), (.string ⟨(([109, 111, 100, 101] : Qo)).toArray⟩), (.string ⟨(([104, 111, 117, 114] : Qo)).toArray⟩), (.string ⟨(([109, 121, 99, 111, 117, 110, 116, 114, 121] : Qo)).toArray⟩), (.string ⟨(([109, 121, 122, 111, 110, 101] : Qo)).toArray⟩), (.string ⟨(([109, 121, 99, 111, 110, 116, 105, 110, 101, 110, 116] : Qo)).toArray⟩), (.string ⟨(([99, 111, 117, 110, 116, 114, 121] : Qo)).toArray⟩), (.string ⟨(([122, 111, 110, 101] : Qo)).toArray⟩), (.string ⟨(([99, 111, 110, 116, 105, 110, 101, 110, 116] : Qo)).toArray⟩), (.string ⟨(([99, 97, 108, 108] : Qo)).toArray⟩), (.string ⟨(([103, 111, 116, 122, 111, 110, 101] : Qo)).toArray⟩), (.string ⟨(([99, 97, 116, 101, 103, 111, 114, 121] : Qo)).toArray⟩), (.string ⟨(([112, 111, 119, 101, 114] : Qo)).toArray⟩), (.string ⟨(([115, 116, 97, 116, 117, 115] : Qo)).toArray⟩)] : List Value).toArray 9 (0, 0)) := Ql ⟨rfl, ⟨rfl, ⟨rfl, ⟨rfl, ⟨rfl, ⟨rfl, ⟨rfl, ⟨rfl, ⟨rfl, ⟨rfl, ⟨rfl, ⟨rfl, ⟨rfl, ⟨rfl, rfl⟩⟩⟩⟩⟩⟩⟩⟩⟩⟩⟩⟩⟩⟩ (by simp)
 refine Vs 1 ?_
 refine Nt ?_
 refine Rt ?_
 have hb29 := Qj hr25
 obtain ⟨F1, hs26, le27, hs28⟩ := hs23.fr0 hr25
 obtain rfl := Ab h
 exact Re [(.slice (some ⟨b21, 0, none⟩) [([98, 97, 110, 100] : Qo), ([109, 111, 100, 101] : Qo), ([104, 111, 117, 114] : Qo), ([109, 121, 99, 111, 117, 110, 116, 114, 121] : Qo), ([109, 121, 122, 111, 110, 101] : Qo), ([109, 121, 99, 111, 110, 116, 105, 110, 101, 110, 116] : Qo), ([99, 111, 117, 110, 116, 114, 121] : Qo), ([122, 111, 110, 101] : Qo), ([99, 111, 110, 116, 105, 110, 101, 110, 116] : Qo), ([99, 97, 108, 108] : Qo), ([103, 111, 116, 122, 111, 110, 101] : Qo), ([99, 97, 116, 101, 103, 111, 114, 121] : Qo), ([112, 111, 119, 101, 114] : Qo), ([115, 116, 97, 116, 117, 115] : Qo)].length 14)] hs26 ⟨(some ⟨b21, 0, none⟩), 14, rfl, hb29, hs28⟩
section
open Go.Proofs Go.RowKit Go.Sort Go.Lib
def strings_HasPrefix (_N : Nat) (s p : Qo) : Option Bool := some (Go.Lib.hasPrefix s p)
theorem FG : An Tryz.prog 182 := fun _ _ => by kernel_rfl
theorem Gi (N : Nat) (w0 : World) (F0 : Mem) (hF : Qq w0 F0) (x0 : Qo) (x1 : Qo) (r : Bool) (h : strings_HasPrefix N x0 x1 = some r) :
  Calls Tryz.prog 182 ([(.string ⟨(x0).toArray⟩), (.string ⟨(x1).toArray⟩)] : List Value).toArray w0 (AO w0 F0 fun _ v => v = (.bool r)) := by
 cases h
 exact AO.below hF ((Tryz.strings_HasPrefix ⟨x0.toArray⟩ ⟨x1.toArray⟩ w0).mono fun e w' ⟨he, hw⟩ => ⟨he, hw ▸ Below.refl _ _⟩) rfl
def strings_IndexByte (_N : Nat) (s : Qo) (c : Int) : Option Int := some (Go.Lib.indexByte s c.toNat.toUInt8)
theorem FF : An Tryz.prog 183 := fun _ _ => by kernel_rfl
theorem Gh (N : Nat) (w0 : World) (F0 : Mem) (hF : Qq w0 F0) (x0 : Qo) (x1 : Int) (r : Int) (h : strings_IndexByte N x0 x1 = some r) :
  Calls Tryz.prog 183 ([(.string ⟨(x0).toArray⟩), (.int .u8 x1)] : List Value).toArray w0 (AO w0 F0 fun _ v => v = (.int .i64 r)) := by
 cases h
 exact AO.below hF ((Tryz.strings_IndexByte ⟨x0.toArray⟩ x1 w0).mono fun e w' ⟨he, hw⟩ => ⟨he, hw ▸ Below.refl _ _⟩) rfl
def strconv_Itoa (_N : Nat) (n : Int) : Option Qo := if -9223372036854775808 <= n /\ n <= 9223372036854775807 then some (Go.Lib.itoa n) else none
theorem IV : An Tryz.prog 151 := fun _ _ => by kernel_rfl
theorem JH (N : Nat) (w0 : World) (F0 : Mem) (hF : Qq w0 F0) (hG : Ce F0) (x0 : Int) (r : Qo) (h : strconv_Itoa N x0 = some r) :
  Calls Tryz.prog 151 ([(.int .i64 x0)] : List Value).toArray w0 (AO w0 F0 fun _ v => v = (.string ⟨(r).toArray⟩)) := by
 unfold strconv_Itoa at h
 split at h
 ·rename_i ha
  cases h
  refine AO.below hF ((Tryz.strconv_Itoa x0 ha.1 ha.2 w0 (hG w0 hF).1).mono ?_) rfl
  rintro e w' ⟨rfl, k, os, rfl⟩
  exact ⟨rfl, rfl, rfl, rfl, by simp [grow, World.drewN], fun j hj => by
   show ((w0.drewN k).heap ++ os)[j]? = _
   rw [Array.getElem?_append_left (show j < (w0.drewN k).heap.size from hj)]; rfl⟩
 ·cases h
def EW (_N : Nat) (s : Qo) : Option (Int × Bool) := if s.length <= 281474976710656 then (match Go.Lib.atoiAll s with
 | .ok v => some (v, false)
 | .range => some (Go.Lib.atoiSat s, true)
 | _ => none) else none
theorem IW : An Tryz.prog 248 := fun _ _ => by kernel_rfl
theorem JI (N : Nat) (w0 : World) (F0 : Mem) (hF : Qq w0 F0) (hG : Ce F0) (x0 : Qo) (r : Int × Bool) (h : EW N x0 = some r) :
  Calls Tryz.prog 248 ([(.string ⟨(x0).toArray⟩)] : List Value).toArray w0 (AO w0 F0 fun _ v => ∃ (vq1_0 : Value), v = (.tuple #[(.int .i64 r.1), vq1_0]) /\ PE r.2 vq1_0) := by
 unfold EW at h
 split at h
 ·rename_i ha
  have hsz : (⟨x0.toArray⟩ : ByteArray).size <= 281474976710656 := by simpa [ByteArray.size] using ha
  split at h
  ·rename_i v hv
   cases h
   refine AO.below hF ((Tryz.strconv_Atoi_ok ⟨x0.toArray⟩ (by omega) v (by simpa using hv) w0).mono ?_) ⟨.nilIface, rfl, rfl⟩
   rintro e w' ⟨rfl, (rfl | ⟨t, rfl⟩)⟩
   ·exact ⟨rfl, Below.refl _ _⟩
   ·exact ⟨rfl, rfl, rfl, rfl, by rw [Go.Lib.bytesWorld_size]; omega, fun j hj => Go.Lib.bytesWorld_at_old w0 _ _ j hj⟩
  ·rename_i hv
   cases h
   obtain ⟨tp, p, hvar⟩ := (hG w0 hF).2
   refine (Tryz.strconv_Atoi_range_var ⟨x0.toArray⟩ hsz (by simpa using hv) tp p w0 hvar).mono ?_
   rintro e w' ⟨n, rfl, _, _, hb⟩
   exact ⟨_, F0, rfl, HS.below hF hb, _, rfl, _, _, rfl⟩
  ·cases h
 ·cases h
end
def Ms (sR97 : Expr -> Int -> Option Qo) : Prop := ∀ (w0 : World) (F0 : Mem) (hF : Qq w0 F0) (hG : Ce F0) (x0 : Expr) (a0_2 : Qp) (n0_2 : Nat) (hb0_2 : LC x0.Kids.length n0_2) (hs0_2 : SlA Ao F0 a0_2 x0.Kids) (x1 : Int) (r : Qo), sR97 x0 x1 = some r -> Calls Tryz.prog 97 ([(.agg #[(.int .i64 x0.Op), (.int .i64 x0.Value), (.slice a0_2 x0.Kids.length n0_2)]), (.int .i64 x1)] : List Value).toArray w0 (AO w0 F0 fun F' v => v = (.string ⟨(r).toArray⟩))
theorem Cr : An Tryz.prog 97 := fun _ _ => by kernel_rfl
def E8 (N : Nat) (sR97 : Expr -> Int -> Option Qo) (x0 : Expr) (x1 : Int) : Option Qo :=
 ((GZ N x0.Op).bind fun r24 => ((bif r24.2 then (((idx x0.Kids 0).bind fun x62 => ((idx x0.Kids 1).bind fun x76 => ((sR97 x62 r24.1.left_).bind fun r82 => ((KE r82 ([32] : Qo)).bind fun r90 => ((KE r90 r24.1.text_).bind fun r93 => ((KE r93 ([32] : Qo)).bind fun r96 => ((sR97 x76 r24.1.right_).bind fun r99 => ((KE r96 r99).bind fun r107 => some r107)))))))).bind fun j55 => some (r24.1.rank_, j55)) else ((bif (x0.Op == 1) then ((strconv_Itoa N x0.Value).bind fun r123 => some (7, r123)) else ((bif (x0.Op == 2) then (((Ft N ).bind fun r156 => ((idx r156 x0.Value).bind fun x164 => some x164)).bind fun j149 => some (7, j149)) else ((bif (x0.Op == 3) then ((idx x0.Kids 0).bind fun x191 => ((sR97 x191 3).bind fun r205 => ((KE ([110, 111, 116, 32] : Qo) r205).bind fun r213 => some (3, r213)))) else (bif (x0.Op == 11) then none else some (7, ([] : Qo)))).bind fun j181 => some (j181.1, j181.2))).bind fun j134 => some (j134.1, j134.2))).bind fun j113 => some (j113.1, j113.2))).bind fun j40 => (bif (decide (j40.1 < x1)) then ((KE ([40] : Qo) j40.2).bind fun r222 => ((KE r222 ([41] : Qo)).bind fun r225 => some r225)) else some j40.2)))
theorem Io (N : Nat) (sR97 : Expr -> Int -> Option Qo) (hsR97 : Ms sR97) (w0 : World) (F0 : Mem) (hF : Qq w0 F0) (hG : Ce F0) (x0 : Expr) (a0_2 : Qp) (n0_2 : Nat) (hb0_2 : LC x0.Kids.length n0_2) (hs0_2 : SlA Ao F0 a0_2 x0.Kids) (x1 : Int) (r : Qo) (h : E8 N sR97 x0 x1 = some r) :
  Calls Tryz.prog 97 ([(.agg (Ag x0 a0_2 n0_2)), (vi x1)] : List Value).toArray w0 (AO w0 F0 fun F' v => v = (.string ⟨(r).toArray⟩)) := by
 have hs0 := P4 hF
 refine Go 97 Tryz.func97 ?_
 refine Sq (Rg [0, 1] ?_)
 refine Bx' 33 (Ag x0 a0_2 n0_2) hs0 (fun b21 w22 hs23 => ?_)
 refine Vs 1 ?_
 refine Nss (Rg [0, 1] ?_)
 refine Vs 2 ?_
 refine Nss (Rg [0, 1, 2, 3, 4, 5, 6, 7, 8] ?_)
 refine Vs 1 ?_
 refine Ld hs23.at0 ?_
 obtain ⟨r24, hr25, h26⟩ := bind_some h
 refine Cl' IY hs23 (JK N w22 F0 hs23.pers x0.Op _ hr25) ?_
 rintro _ F1 w28 hs29 le30 rfl
 refine Vs 3 ?_
 refine Al' 173 #[(.string ⟨(([] : Qo)).toArray⟩), (vi 0), (vi 0), (vi 0)] hs29 (fun b32 w33 hs34 => ?_)
 refine St0 (Er r24.1) hs34 (fun w35 hs36 => ?_)
 refine Vs 1 ?_
 refine Nss ?_
 refine Bk ?_
 refine Sq (Rg [0, 1] ?_)
 refine Vs 2 ?_
 refine Nt ?_
 obtain ⟨j40, hj45, h46⟩ := bind_some h26
 refine P9 (fun f w => ∃ (F2 : Mem), HS w0 F0 w F2 [] /\ P2 F1 F2 /\ FI f [] [(1, (vi x1)), (5, (vi j40.1)), (6, (.string ⟨(j40.2).toArray⟩))]) ?_ ?_
 ·refine Cd hj45 (fun hb47 h48 => ?_) (fun hb47 h49 => ?_)
  ·obtain ⟨j55, hj60, h61⟩ := bind_some h48
   refine RD 24 24 [(sb b32 (Er r24.1) 173), (sb b21 (Ag x0 a0_2 n0_2) 33)] [] hs36 (fun f w => ∃ (F3 : Mem), HS w0 F0 w F3 [] /\ P2 F1 F3 /\ FI f [] [(1, (vi x1)), (5, (vi r24.1.rank_)), (6, (.string ⟨(j55).toArray⟩))]) (fun wd50 hw51 => ?_) ?_
   ·refine Dvl [0] [tt, ff, ff, ff, ff, ff, ff, ff, ff, ff, ff, ff, ff, ff, ff, ff, ff, ff, ff, ff, ff, ff, ff, ff] ?_
    refine Dl 1 (fun _ hq => (hq.1.2 0 _ _ rfl)) ?_
    refine Dvl [2] [tt, tt, tt, ff, ff, ff, ff, ff, ff, ff, ff, ff, ff, ff, ff, ff, ff, ff, ff, ff, ff, ff, ff, ff] ?_
    refine Dl 3 (fun _ hq => (hq.1.2 1 _ _ rfl)) ?_
    obtain ⟨x62, hx63, h65⟩ := bind_some hj60
    obtain ⟨hi64, hx63'⟩ := Aw hx63
    obtain ⟨b66, o67, C68, E69, fz70, rfl, hF72, hE73⟩ := Qd (P5 hs0_2 le30) hx63'
    obtain ⟨ae74_2, ne74_2, hc75, hbe74_2, hse74_2⟩ := (AQ (hE73 _ _ hx63'))
    refine Di 4 hi64 ?_
    refine Dx 5 0 (fun _ hq => hq.1.1 _ _ hF72) hc75 ?_
    refine Dvl [6] [tt, tt, tt, tt, tt, tt, tt, ff, ff, ff, ff, ff, ff, ff, ff, ff, ff, ff, ff, ff, ff, ff, ff, ff] ?_
    refine Dl 7 (fun _ hq => (hq.1.2 0 _ _ rfl)) ?_
    refine Dvl [10] [tt, tt, tt, tt, tt, tt, tt, tt, ff, ff, tt, ff, ff, ff, ff, ff, ff, ff, ff, ff, ff, ff, ff, ff] ?_
    refine Dl 11 (fun _ hq => (hq.1.2 0 _ _ rfl)) ?_
    refine Dvl [14] [tt, tt, tt, tt, tt, tt, tt, tt, ff, ff, tt, tt, ff, ff, tt, ff, ff, ff, ff, ff, ff, ff, ff, ff] ?_
    refine Dl 15 (fun _ hq => (hq.1.2 1 _ _ rfl)) ?_
    obtain ⟨x76, hx77, h79⟩ := bind_some h65
    obtain ⟨hi78, hx77'⟩ := Aw hx77
    obtain ⟨ae80_2, ne80_2, hc81, hbe80_2, hse80_2⟩ := (AQ (hE73 _ _ hx77'))
    refine Di 16 hi78 ?_
    refine Dx 17 0 (fun _ hq => hq.1.1 _ _ hF72) hc81 ?_
    refine Dvl [18] [tt, tt, tt, tt, tt, tt, tt, tt, ff, ff, tt, tt, ff, ff, tt, tt, tt, tt, tt, ff, ff, ff, ff, ff] ?_
    refine Dl 19 (fun _ hq => (hq.1.2 0 _ _ rfl)) ?_
    refine D1 8 ?_
    obtain ⟨r82, hr83, h84⟩ := bind_some h79
    refine DCl Cr hw51 (hsR97 wd50 F1 hw51.pers (hG.mono le30) x62 ae74_2 ne74_2 hbe74_2 hse74_2 r24.1.left_ _ hr83) ?_
    rintro _ F4 w86 hs87 le88 rfl
    obtain ⟨r90, hr91, h92⟩ := bind_some h84
    refine Dtl 9 26 9 (.string ⟨(r90).toArray⟩) [tt, tt, tt, tt, tt, tt, tt, tt, tt, tt, tt, tt, ff, ff, tt, tt, tt, tt, tt, tt, ff, ff, ff, ff] (fun _ hq => D2 (t := 9) (t' := 9) (x := (.tmp 25)) (y := (.const (.string ⟨([32] : Qo).toArray⟩))) (a := r82) (b := ([32] : Qo)) (v := r90) rfl rfl hr91) ?_
    obtain ⟨r93, hr94, h95⟩ := bind_some h92
    refine Dtl 12 29 9 (.string ⟨(r93).toArray⟩) [tt, tt, tt, tt, tt, tt, tt, tt, tt, tt, tt, tt, tt, ff, tt, tt, tt, tt, tt, tt, ff, ff, ff, ff] (fun _ hq => D2 (t := 9) (t' := 9) (x := (.tmp 26)) (y := (.tmp 28)) (a := r90) (b := r24.1.text_) (v := r93) rfl rfl hr94) ?_
    obtain ⟨r96, hr97, h98⟩ := bind_some h95
    refine Dtl 13 30 9 (.string ⟨(r96).toArray⟩) [tt, tt, tt, tt, tt, tt, tt, tt, tt, tt, tt, tt, tt, tt, tt, tt, tt, tt, tt, tt, ff, ff, ff, ff] (fun _ hq => D2 (t := 9) (t' := 9) (x := (.tmp 29)) (y := (.const (.string ⟨([32] : Qo).toArray⟩))) (a := r93) (b := ([32] : Qo)) (v := r96) rfl rfl hr97) ?_
    refine D1 20 ?_
    obtain ⟨r99, hr100, h101⟩ := bind_some h98
    refine DCl Cr hs87 (hsR97 w86 F4 hs87.pers (hG.mono (le30.trans le88)) x76 ae80_2 ne80_2 hbe80_2 (P5 hse80_2 le88) r24.1.right_ _ hr100) ?_
    rintro _ F5 w103 hs104 le105 rfl
    obtain ⟨r107, hr108, h109⟩ := bind_some h101
    refine Dtl 21 38 9 (.string ⟨(r107).toArray⟩) [tt, tt, tt, tt, tt, tt, tt, tt, tt, tt, tt, tt, tt, tt, tt, tt, tt, tt, tt, tt, tt, tt, ff, ff] (fun _ hq => D2 (t := 9) (t' := 9) (x := (.tmp 30)) (y := (.tmp 37)) (a := r96) (b := r99) (v := r107) rfl rfl hr108) ?_
    refine Dvl [22, 23] [tt, tt, tt, tt, tt, tt, tt, tt, tt, tt, tt, tt, tt, tt, tt, tt, tt, tt, tt, tt, tt, tt, tt, tt] ?_
    obtain rfl := Ab h109
    exact Qi (by kernel_rfl) ⟨F5, hs104.dr0.dr0, (le88.trans le105), fI⟩
   ·rintro f w52 ⟨F3, hs53, le54, ⟨_, rfl⟩⟩
    obtain rfl := Ab h61
    exact .inl ⟨rfl, F3, hs53, le54, fI⟩
  ·refine Sq (Rg [0, 1, 2, 3] ?_)
   refine Vs 1 ?_
   refine Ld hs36.at1 ?_
   refine Vs 2 ?_
   refine Nt ?_
   obtain ⟨j113, hj118, h119⟩ := bind_some h49
   refine P9 (fun f w => ∃ (F6 : Mem), HS w0 F0 w F6 [] /\ P2 F1 F6 /\ FI f [] [(1, (vi x1)), (5, (vi j113.1)), (6, (.string ⟨(j113.2).toArray⟩))]) ?_ ?_
   ·refine Cd hj118 (fun hb120 h121 => ?_) (fun hb120 h122 => ?_)
    ·refine Rg [0, 1, 2, 3] ?_
     refine Vs 1 ?_
     refine Ld hs36.at1 ?_
     obtain ⟨r123, hr124, h125⟩ := bind_some h121
     refine Cl' IV hs36 (JH N w35 F1 hs36.pers (hG.mono le30) x0.Value _ hr124) ?_
     rintro _ F7 w127 hs128 le129 rfl
     refine Vs 1 ?_
     refine PX ?_
     obtain rfl := Ab h125
     exact .inl ⟨rfl, F7, hs128.dr0.dr0, le129, fI⟩
    ·refine Sq (Rg [0, 1, 2, 3] ?_)
     refine Vs 1 ?_
     refine Ld hs36.at1 ?_
     refine Vs 2 ?_
     refine Nt ?_
     obtain ⟨j134, hj139, h140⟩ := bind_some h122
     refine P9 (fun f w => ∃ (F8 : Mem), HS w0 F0 w F8 [] /\ P2 F1 F8 /\ FI f [] [(1, (vi x1)), (5, (vi j134.1)), (6, (.string ⟨(j134.2).toArray⟩))]) ?_ ?_
     ·refine Cd hj139 (fun hb141 h142 => ?_) (fun hb141 h143 => ?_)
      ·obtain ⟨j149, hj154, h155⟩ := bind_some h142
       refine RD 6 6 [(sb b32 (Er r24.1) 173), (sb b21 (Ag x0 a0_2 n0_2) 33)] [] hs36 (fun f w => ∃ (F9 : Mem), HS w0 F0 w F9 [] /\ P2 F1 F9 /\ FI f [] [(1, (vi x1)), (5, (vi 7)), (6, (.string ⟨(j149).toArray⟩))]) (fun wd144 hw145 => ?_) ?_
       ·refine Dv [1] ?_
        refine Dl 2 (fun _ hq => (hq.1.2 1 _ _ rfl)) ?_
        refine D1 0 ?_
        obtain ⟨r156, hr157, h158⟩ := bind_some hj154
        refine DCl FO hw145 (GF N wd144 F1 hw145.pers  _ hr157) ?_
        rintro _ F10 w160 hs161 le162 ⟨ar156_0_0, nr156_0_0, rfl, hbr156_0_0, hsr156_0_0⟩
        obtain ⟨x164, hx165, h167⟩ := bind_some h158
        obtain ⟨hi166, hx165'⟩ := Aw hx165
        obtain ⟨b168, o169, C170, E171, fz172, rfl, hF174, hE175⟩ := Qd hsr156_0_0 hx165'
        have hc177 := hE175 _ _ hx165'
        refine Di 3 hi166 ?_
        refine D1 4 ?_
        refine Qg (l' := [true, true, true, true, true, false]) (zd := true) (by kernel_rfl) (by kernel_rfl) (dst := (some 54)) (ty := 9) (g := none) (by kernel_rfl) rfl (HI (t := 9) (x := (.tmp 53)) (b := b168) (o := (o169 + (x0.Value : Int).toNat * 1)) (j := 0) (C := C170) (kk := 1) (cs := [(.string ⟨(x164).toArray⟩)]) (gg := false) (s := 1) (v := (.string ⟨(x164).toArray⟩)) rfl (by kernel_rfl) (hs161.pers _ _ hF174) hc177 (by decide) (by exact ⟨rfl, trivial⟩) rfl rfl) (Bo hs161 le162 (by simp) (fun e => by cases e)) ?_
        refine Dv [5] ?_
        obtain rfl := Ab h167
        exact Qi (by kernel_rfl) ⟨F10, hs161.dr0.dr0, le162, fI⟩
       ·rintro f w146 ⟨F9, hs147, le148, ⟨_, rfl⟩⟩
        obtain rfl := Ab h155
        exact .inl ⟨rfl, F9, hs147, le148, fI⟩
      ·refine Sq (Rg [0, 1, 2, 3] ?_)
       refine Vs 1 ?_
       refine Ld hs36.at1 ?_
       refine Vs 2 ?_
       refine Nt ?_
       obtain ⟨j181, hj186, h187⟩ := bind_some h143
       refine P9 (fun f w => ∃ (F11 : Mem), HS w0 F0 w F11 [] /\ P2 F1 F11 /\ FI f [] [(1, (vi x1)), (5, (vi j181.1)), (6, (.string ⟨(j181.2).toArray⟩))]) ?_ ?_
       ·refine Cd hj186 (fun hb188 h189 => ?_) (fun hb188 h190 => ?_)
        ·refine Rg [0, 1, 2, 3, 4, 5, 6, 7] ?_
         refine Vs 1 ?_
         refine Ld hs36.at1 ?_
         obtain ⟨x191, hx192, h194⟩ := bind_some h189
         obtain ⟨hi193, hx192'⟩ := Aw hx192
         obtain ⟨b195, o196, C197, E198, fz199, rfl, hF201, hE202⟩ := Qd (P5 hs0_2 le30) hx192'
         obtain ⟨ae203_2, ne203_2, hc204, hbe203_2, hse203_2⟩ := (AQ (hE202 _ _ hx192'))
         refine Ix hi193 ?_
         refine Lx 0 (hs36.pers _ _ hF201) hc204 ?_
         obtain ⟨r205, hr206, h207⟩ := bind_some h194
         refine Cl' Cr hs36 (hsR97 w35 F1 hs36.pers (hG.mono le30) x191 ae203_2 ne203_2 hbe203_2 hse203_2 3 _ hr206) ?_
         rintro _ F12 w209 hs210 le211 rfl
         obtain ⟨r213, hr214, h215⟩ := bind_some h207
         refine V 64 9 (D2 (t := 9) (t' := 9) (x := (.const (.string ⟨([110, 111, 116, 32] : Qo).toArray⟩))) (y := (.tmp 63)) (a := ([110, 111, 116, 32] : Qo)) (b := r205) (v := r213) rfl rfl hr214) ?_
         refine Vs 2 ?_
         refine PX ?_
         obtain rfl := Ab h215
         exact .inl ⟨rfl, F12, hs210.dr0.dr0, le211, fI⟩
        ·refine Sq (Rg [0, 1, 2, 3] ?_)
         refine Vs 1 ?_
         refine Ld hs36.at1 ?_
         refine Vs 2 ?_
         refine Nt ?_
         refine Cd h190 (fun hb216 h217 => ?_) (fun hb216 h218 => ?_)
         ·cases h217
         ·refine Sc ?_
          obtain rfl := Ab h218
          exact .inl ⟨rfl, F1, hs36.dr0.dr0, (P3 _), fI⟩
       ·rintro f w178 ⟨F11, hs179, le180, ⟨_, rfl⟩⟩
        obtain rfl := Ab h187
        exact .inl ⟨rfl, F11, hs179, le180, fI⟩
     ·rintro f w131 ⟨F8, hs132, le133, ⟨_, rfl⟩⟩
      obtain rfl := Ab h140
      exact .inl ⟨rfl, F8, hs132, le133, fI⟩
   ·rintro f w110 ⟨F6, hs111, le112, ⟨_, rfl⟩⟩
    obtain rfl := Ab h119
    exact .inl ⟨rfl, F6, hs111, le112, fI⟩
 ·rintro f w37 ⟨F2, hs38, le39, ⟨_, rfl⟩⟩
  refine Av ?_
  refine Ac ?_
  refine Sq ?_
  refine Sq (Rg [0, 1, 2] ?_)
  refine Vs 3 ?_
  refine Nt ?_
  refine Cd h46 (fun hb219 h220 => ?_) (fun hb219 h221 => ?_)
  ·refine Sq (Rg [0, 1, 2, 3] ?_)
   refine Vs 1 ?_
   obtain ⟨r222, hr223, h224⟩ := bind_some h220
   refine V 94 9 (D2 (t := 9) (t' := 9) (x := (.const (.string ⟨([40] : Qo).toArray⟩))) (y := (.tmp 93)) (a := ([40] : Qo)) (b := j40.2) (v := r222) rfl rfl hr223) ?_
   obtain ⟨r225, hr226, h227⟩ := bind_some h224
   refine V 95 9 (D2 (t := 9) (t' := 9) (x := (.tmp 94)) (y := (.const (.string ⟨([41] : Qo).toArray⟩))) (a := r222) (b := ([41] : Qo)) (v := r225) rfl rfl hr226) ?_
   refine Vs 1 ?_
   refine Nt ?_
   refine Rt ?_
   refine Af ?_
   obtain rfl := Ab h227
   exact Re [(.string ⟨(r225).toArray⟩)] hs38 rfl
  ·refine Sc ?_
   refine Ac ?_
   refine Sq (Rg [0, 1] ?_)
   refine Vs 2 ?_
   refine Nt ?_
   refine Rt ?_
   obtain rfl := Ab h221
   exact Re [(.string ⟨(j40.2).toArray⟩)] hs38 rfl
structure Pz where
 q97 : Expr -> Int -> Option Qo
def MG (N : Nat) : Nat -> Pz
 | 0 => ⟨fun _ _ => none⟩
 | k + 1 => ⟨E8 N (MG N k).q97⟩
theorem Ln (N : Nat) : ∀ k, Ms (MG N k).q97
 | 0 => (by unfold Ms; intros; rename_i h; cases h)
 | k + 1 => by
  have ih := Ln N k
  exact @Io N (MG N k).q97 ih
def Gy (N : Nat) (x0 : Expr) (x1 : Int) : Option Qo := (MG N N).q97 x0 x1
theorem I5 (N : Nat) (w0 : World) (F0 : Mem) (hF : Qq w0 F0) (hG : Ce F0) (x0 : Expr) (a0_2 : Qp) (n0_2 : Nat) (hb0_2 : LC x0.Kids.length n0_2) (hs0_2 : SlA Ao F0 a0_2 x0.Kids) (x1 : Int) (r : Qo) (h : Gy N x0 x1 = some r) :
  Calls Tryz.prog 97 ([(.agg #[(.int .i64 x0.Op), (.int .i64 x0.Value), (.slice a0_2 x0.Kids.length n0_2)]), (.int .i64 x1)] : List Value).toArray w0 (AO w0 F0 fun F' v => v = (.string ⟨(r).toArray⟩)) := (Ln N N) w0 F0 hF hG x0 a0_2 n0_2 hb0_2 hs0_2 x1 r h
def E9 (N : Nat) (x0 : Expr) : Option (Qo × Int) :=
 ((Ci N x0).bind fun r24 => (bif (!r24) then some (([] : Qo), 61) else ((Gy N x0 1).bind fun r35 => some (r35, 0))))
theorem GO : An Tryz.prog 33 := fun _ _ => by kernel_rfl
theorem HA (N : Nat) (w0 : World) (F0 : Mem) (hF : Qq w0 F0) (hG : Ce F0) (x0 : Expr) (a0_2 : Qp) (n0_2 : Nat) (hb0_2 : LC x0.Kids.length n0_2) (hs0_2 : SlA Ao F0 a0_2 x0.Kids) (r : (Qo × Int)) (h : E9 N x0 = some r) :
  Calls Tryz.prog 33 ([(.agg (Ag x0 a0_2 n0_2))] : List Value).toArray w0 (AO w0 F0 fun F' v => v = (.tuple #[(.string ⟨(r.1).toArray⟩), (vi r.2)])) := by
 have hs0 := P4 hF
 refine Go 9 Tryz.func33 ?_
 refine Sq (Rg [0, 1, 2] ?_)
 refine Bx' 33 (Ag x0 a0_2 n0_2) hs0 (fun b21 w22 hs23 => ?_)
 refine Vs 2 ?_
 refine Nss ?_
 refine Sq (Rg [0, 1, 2] ?_)
 refine Ld hs23.at0 ?_
 obtain ⟨r24, hr25, h26⟩ := bind_some h
 refine Cl' CQ hs23 (Df N w22 F0 hs23.pers x0 a0_2 n0_2 hb0_2 hs0_2 _ hr25) ?_
 rintro _ F1 w28 hs29 le30 rfl
 refine Vs 1 ?_
 refine Nt ?_
 refine Cd h26 (fun hb32 h33 => ?_) (fun hb32 h34 => ?_)
 ·refine Sq (Rg [0, 1] ?_)
  refine Vs 2 ?_
  refine Nt ?_
  refine Rt ?_
  refine Af ?_
  obtain rfl := Ab h33
  exact Re [(.string ⟨(([] : Qo)).toArray⟩), (vi 61)] hs29 rfl
 ·refine Sc ?_
  refine Ac ?_
  refine Sq (Rg [0, 1, 2, 3] ?_)
  refine Ld hs29.at0 ?_
  obtain ⟨r35, hr36, h37⟩ := bind_some h34
  refine Cl' Cr hs29 (I5 N w28 F1 hs29.pers (hG.mono le30) x0 a0_2 n0_2 hb0_2 (P5 hs0_2 le30) 1 _ hr36) ?_
  rintro _ F2 w39 hs40 le41 rfl
  refine Vs 2 ?_
  refine Nt ?_
  refine Rt ?_
  obtain rfl := Ab h37
  exact Re [(.string ⟨(r35).toArray⟩), (vi 0)] hs40 rfl
def Hp (m : ∀ {σ : Type}, (σ -> Ap -> Option (Bool × σ)) -> σ -> Option σ) : Option (List Ap) := m (fun st x => (Eg st [x]).map fun t => (true, t)) ([] : List Ap)
theorem Gg : An Tryz.prog 179 := fun _ _ => by kernel_rfl
theorem GP (w0 : World) (F0 : Mem) (hF : Qq w0 F0) (gf : FuncId) (cap : List Value) (m : ∀ {σ : Type}, (σ -> Ap -> Option (Bool × σ)) -> σ -> Option σ) (hgf : An Tryz.prog gf) (hseq : Kv Tryz.prog gf cap F0 [] KQ MK MI m) (r : (List Ap)) (h : Hp m = some r) :
  Calls Tryz.prog 179 ([.slice none 0 0, (.func (.func gf) #[] cap.toArray)] : List Value).toArray w0 (AO w0 F0 fun F' v => ∃ (aq0_0 : Qp) (nq0_0 : Nat), v = (.slice aq0_0 r.length nq0_0) /\ LC r.length nq0_0 /\ SlA Ae F' aq0_0 r) := by
 have hs0 := P4 hF
 refine Kr (n := 13) (c := BM Tryz.f179) Tryz.func179 (by kernel_rfl) (by kernel_rfl) (by kernel_rfl) ?_
 refine Sq ?_
 refine Rg [0, 1] ?_
 refine RWP.box (dst := (some 2)) (ty := 0) (g := none) (by kernel_rfl) rfl (x := (.tmp 0)) (t := 98) (v := (.slice none ([] : List Ap).length 0)) rfl (C := #[(.slice none ([] : List Ap).length 0)]) rfl hs0 (fun b1 w2 (hs3 : HS w0 F0 w2 F0 [(some b1, (.cells #[(.slice none ([] : List Ap).length 0)] 98 (0, 0)))]) => ?_)
 refine V 4 98 (Az (x := (.const (.slice none 0 0))) (v := (.slice none ([] : List Ap).length 0)) rfl) ?_
 refine PX ?_
 refine Ac ?_
 refine Sq ?_
 refine Sq ?_
 refine Rg [0] ?_
 refine V 6 162 (AG (x := (.tmp 1)) (v := (.func (.func gf) #[] cap.toArray)) rfl) ?_
 refine PX ?_
 refine Ac ?_
 refine CWP.block (by kernel_rfl) ?_
 have hs4 : HS w0 F0 w2 F0 [(none, .cells #[] 0 (0, 0)), (some b1, (.cells #[(.slice none ([] : List Ap).length 0)] 98 (0, 0)))] := hs3.dummy _
 obtain ⟨r14, hr15, h16⟩ : ∃ r14, Hp m = some r14 /\ some r14 = some r := ⟨r, h, rfl⟩
 refine CWP.rangeFunc (enc := KQ) (ok := MK) (px := MI) (m := fun {_} y s => m y s) (L := [(none, .cells #[] 0 (0, 0)), (some b1, (.cells #[(.slice none ([] : List Ap).length 0)] 98 (0, 0)))]) (B := []) (ps := [7]) (by kernel_rfl) (gf := gf) (cap := cap) rfl hgf rfl (by kernel_rfl) (by kernel_rfl) (fun _ => rfl) hs4 hseq (fun st x => (Eg st [x]).map fun t => (true, t)) (fun (s6 : (List Ap)) (F1 : Mem) (Lq : Own) => ∃ (as6_0 : Qp) (ns6_0 : Nat) (es6_0 : Option Nat × Obj), Lq = [es6_0, (some b1, (.cells #[(.slice as6_0 s6.length ns6_0)] 98 (0, 0)))] /\ Aq Ae 97 F1 as6_0 ns6_0 s6 es6_0) ?_ (s := ([] : List Ap)) (r := r14) ?_ hr15 (fun _ _ _ h => (Hd h).1) ?_ ?_
 ·
  rintro s F F' L ⟨as6_0, ns6_0, es6_0, rfl, hrs6_0⟩ hl
  exact ⟨as6_0, ns6_0, es6_0, rfl, (hrs6_0.mono hl)⟩
 ·
  exact ⟨none, 0, (none, .cells #[] 0 (0, 0)), rfl, (Qk Ae 97 F0 _)⟩
 ·
  rintro l17 s6 x19 w20 F1 _ Rf22 ⟨q0, q23⟩ le24 ok25 ⟨as6_0, ns6_0, es6_0, rfl, hrs6_0⟩ hs26 hy27
  have h28 := (Hd hy27).2
  have hs29 : HS w0 F0 w20 F1 (es6_0 :: (some b1, (.cells #[(.slice as6_0 s6.length ns6_0)] 98 (0, 0))) :: Rf22) := hs26
  refine Rg [0, 1] ?_
  refine Qb (dst := (some 5)) (ty := 0) (g := none) (by kernel_rfl) rfl (t := 97) (z := (.agg #[(.int .i64 0), (.int .i64 0), (.string ⟨(([] : Qo)).toArray⟩)])) (by kernel_rfl) (C := #[(.int .i64 0), (.int .i64 0), (.string ⟨(([] : Qo)).toArray⟩)]) rfl hs29 (fun b30 w31 (hs32 : HS w0 F0 w31 F1 ((some b30, (.cells #[(.int .i64 0), (.int .i64 0), (.string ⟨(([] : Qo)).toArray⟩)] 97 (0, 0))) :: es6_0 :: (some b1, (.cells #[(.slice as6_0 s6.length ns6_0)] 98 (0, 0))) :: Rf22)) => ?_)
  refine Qc (ty := 0) (g := none) (by kernel_rfl) rfl (x := (.tmp 5)) (y := (.tmp 7)) (t := 97) (gg := true) (s := 3) (v := (.agg #[(.int .i64 x19.kind_), (.int .i64 x19.at_), (.string ⟨(x19.text_).toArray⟩)])) (b := b30) (o := 0) (C := #[(.int .i64 0), (.int .i64 0), (.string ⟨(([] : Qo)).toArray⟩)]) rfl rfl (by kernel_rfl) hs32 (k := 0) rfl rfl rfl rfl (C' := #[(.int .i64 x19.kind_), (.int .i64 x19.at_), (.string ⟨(x19.text_).toArray⟩)]) rfl (fun w33 (hs34 : HS w0 F0 w33 F1 ((some b30, (.cells #[(.int .i64 x19.kind_), (.int .i64 x19.at_), (.string ⟨(x19.text_).toArray⟩)] 97 (0, 0))) :: es6_0 :: (some b1, (.cells #[(.slice as6_0 s6.length ns6_0)] 98 (0, 0))) :: Rf22)) => ?_)
  refine PX ?_
  refine ⟨rfl, F1, [(some b30, (.cells #[(.int .i64 x19.kind_), (.int .i64 x19.at_), (.string ⟨(x19.text_).toArray⟩)] 97 (0, 0))), es6_0, (some b1, (.cells #[(.slice as6_0 s6.length ns6_0)] 98 (0, 0)))], hs34, fun w35 Rf36 hs37 => ?_⟩
  have hs38 : HS w0 F0 w35 F1 ((some b30, (.cells #[(.int .i64 x19.kind_), (.int .i64 x19.at_), (.string ⟨(x19.text_).toArray⟩)] 97 (0, 0))) :: es6_0 :: (some b1, (.cells #[(.slice as6_0 s6.length ns6_0)] 98 (0, 0))) :: Rf36) := hs37
  refine CWP.block (by kernel_rfl) ?_
  refine Rg [0, 1, 2, 3, 4] ?_
  refine V 8 98 (BQ (t := 98) (x := (.tmp 2)) (b := b1) (o := 0) (g := false) (s := 1) (C := #[(.slice as6_0 s6.length ns6_0)]) (v := (.slice as6_0 s6.length ns6_0)) rfl (by kernel_rfl) (hs38.ownAt (k := 2) rfl) rfl rfl rfl) ?_
  refine V 9 97 (BQ (t := 97) (x := (.tmp 5)) (b := b30) (o := 0) (g := true) (s := 3) (C := #[(.int .i64 x19.kind_), (.int .i64 x19.at_), (.string ⟨(x19.text_).toArray⟩)]) (v := (.agg #[(.int .i64 x19.kind_), (.int .i64 x19.at_), (.string ⟨(x19.text_).toArray⟩)])) rfl (by kernel_rfl) (hs38.ownAt (k := 0) rfl) rfl rfl rfl) ?_
  refine RWP.buildSlice (dst := (some 10)) (ty := 98) (g := none) (by kernel_rfl) rfl (t := 98) (len := 1) (parts := #[(0, (.tmp 9))]) (vs := [(0, (.agg #[(.int .i64 x19.kind_), (.int .i64 x19.at_), (.string ⟨(x19.text_).toArray⟩)]))]) (rfl) (E := 97) (cs := [(.int .i64 x19.kind_), (.int .i64 x19.at_), (.string ⟨(x19.text_).toArray⟩)]) (by kernel_rfl) hs38 (fun b39 w40 (hs41 : HS w0 F0 w40 F1 ((some b39, .cells ([(.int .i64 x19.kind_), (.int .i64 x19.at_), (.string ⟨(x19.text_).toArray⟩)] : List Value).toArray 97 (0, 0)) :: (some b30, (.cells #[(.int .i64 x19.kind_), (.int .i64 x19.at_), (.string ⟨(x19.text_).toArray⟩)] 97 (0, 0))) :: es6_0 :: (some b1, (.cells #[(.slice as6_0 s6.length ns6_0)] 98 (0, 0))) :: Rf36)) => ?_)
  have hr43 : Aq Ae 97 F1 (some ⟨b39, 0, none⟩) 1 [x19] (some b39, .cells ([(.int .i64 x19.kind_), (.int .i64 x19.at_), (.string ⟨(x19.text_).toArray⟩)] : List Value).toArray 97 (0, 0)) := Ql ⟨rfl, rfl⟩ (by simp)
  obtain ⟨r44, hap45, h46⟩ : ∃ r44, Eg s6 [x19] = some r44 /\ some r44 = some q23 := ⟨_, h28, rfl⟩
  refine RWP.append (dst := (some 11)) (ty := 98) (g := none) (by kernel_rfl) rfl (x := (.tmp 8)) (y := (.tmp 10)) (t := 98) (t2 := 98) (by_ := 32) (z := (.agg #[(.int .i64 0), (.int .i64 0), (.string ⟨(([] : Qo)).toArray⟩)])) (a2 := (some ⟨b39, 0, none⟩)) (c2 := 1) (m := [x19]) (T := Ae) (E := 97) (a := as6_0) (cap := ns6_0) (l := s6) rfl rfl (by kernel_rfl) (by decide) (by kernel_rfl) (by kernel_rfl) rfl KM hs41 (k := 2) rfl hrs6_0 (Aq.rd hs41 (k := 0) rfl hr43) (r := r44) hap45 (fun a47 n48 e49 w50 (hs51 : HS w0 F0 w50 F1 ((some b39, .cells ([(.int .i64 x19.kind_), (.int .i64 x19.at_), (.string ⟨(x19.text_).toArray⟩)] : List Value).toArray 97 (0, 0)) :: (some b30, (.cells #[(.int .i64 x19.kind_), (.int .i64 x19.at_), (.string ⟨(x19.text_).toArray⟩)] 97 (0, 0))) :: e49 :: (some b1, (.cells #[(.slice as6_0 s6.length ns6_0)] 98 (0, 0))) :: Rf36)) hr52 => ?_)
  refine Qc (ty := 0) (g := none) (by kernel_rfl) rfl (x := (.tmp 2)) (y := (.tmp 11)) (t := 98) (gg := false) (s := 1) (v := (.slice a47 r44.length n48)) (b := b1) (o := 0) (C := #[(.slice as6_0 s6.length ns6_0)]) rfl rfl (by kernel_rfl) hs51 (k := 3) rfl rfl rfl rfl (C' := #[(.slice a47 r44.length n48)]) rfl (fun w53 (hs54 : HS w0 F0 w53 F1 ((some b39, .cells ([(.int .i64 x19.kind_), (.int .i64 x19.at_), (.string ⟨(x19.text_).toArray⟩)] : List Value).toArray 97 (0, 0)) :: (some b30, (.cells #[(.int .i64 x19.kind_), (.int .i64 x19.at_), (.string ⟨(x19.text_).toArray⟩)] 97 (0, 0))) :: e49 :: (some b1, (.cells #[(.slice a47 r44.length n48)] 98 (0, 0))) :: Rf36)) => ?_)
  refine PX ?_
  refine Av ?_
  have hs56 : HS w0 F0 w53 F1 (e49 :: (some b1, (.cells #[(.slice a47 r44.length n48)] 98 (0, 0))) :: Rf36) := (hs54.drop 0).drop 0
  obtain rfl := Ab h46
  exact ⟨rfl, F1, [e49, (some b1, (.cells #[(.slice a47 r44.length n48)] 98 (0, 0)))], hs56, (P3 _), ⟨a47, n48, e49, rfl, hr52⟩⟩
 ·
  rintro D58 w59 F2 _ hs60 le61 ⟨as10_0, ns10_0, es10_0, rfl, hrs10_0⟩
  have hs62 : HS w0 F0 w59 F2 [(some D58, (.deferred (some []))), es10_0, (some b1, (.cells #[(.slice as10_0 r14.length ns10_0)] 98 (0, 0)))] := hs60
  refine Av ?_
  refine Ac ?_
  refine Sq ?_
  refine Rg [0, 1] ?_
  refine V 12 98 (BQ (t := 98) (x := (.tmp 2)) (b := b1) (o := 0) (g := false) (s := 1) (C := #[(.slice as10_0 r14.length ns10_0)]) (v := (.slice as10_0 r14.length ns10_0)) rfl (by kernel_rfl) (hs62.ownAt (k := 2) rfl) rfl rfl rfl) ?_
  refine V 4 98 (Az (x := (.tmp 12)) (v := (.slice as10_0 r14.length ns10_0)) rfl) ?_
  refine PX ?_
  refine Ac ?_
  refine CWP.ret (by kernel_rfl) ?_
  have hb66 := Qj hrs10_0
  obtain ⟨F3, hs63, le64, hs65⟩ : ∃ Fq, HS w0 F0 w59 Fq [(some D58, (.deferred (some []))), (some b1, (.cells #[(.slice as10_0 r14.length ns10_0)] 98 (0, 0)))] /\ P2 F2 Fq /\ SlA Ae Fq as10_0 r14 := HS.freezeRow hs62 (k := 1) rfl hrs10_0
  have hs67 := hs63.put (k := 0) rfl (.deferred none)
  have hs68 : HS w0 F0 (B1 w59 D58 (.deferred none)) F3 [(some b1, (.cells #[(.slice as10_0 r14.length ns10_0)] 98 (0, 0)))] := hs67.drop 0
  have hfin := Ab h16
  subst hfin
  exact .inr ⟨D58, rfl, hs63.ownAt (k := 0) rfl, (.slice as10_0 r14.length ns10_0), Ay (l := [.tmp 4]) (by kernel_rfl) (vs := [(.slice as10_0 r14.length ns10_0)]) ⟨rfl, trivial⟩, (.slice as10_0 r14.length ns10_0), F3, rfl, hs68.clear, ⟨as10_0, ns10_0, rfl, hb66, hs65⟩⟩
theorem Hq : An Tryz.prog 132 := fun _ _ => by kernel_rfl
set_option maxRecDepth 100000 in
theorem Ih (w0 : World) (F0 : Mem) (hF : Qq w0 F0) (gf : FuncId) (cap : List Value) (m : ∀ {σ : Type}, (σ -> Ap -> Option (Bool × σ)) -> σ -> Option σ) (hgf : An Tryz.prog gf) (hseq : Kv Tryz.prog gf cap F0 [] KQ MK MI m) (r : (List Ap)) (h : Hp m = some r) :
  Calls Tryz.prog 132 ([(.func (.func gf) #[] cap.toArray)] : List Value).toArray w0 (AO w0 F0 fun F' v => ∃ (aq0_0 : Qp) (nq0_0 : Nat), v = (.slice aq0_0 r.length nq0_0) /\ LC r.length nq0_0 /\ SlA Ae F' aq0_0 r) := by
 have hs0 := P4 hF
 refine Dr (n := 5) (c := BM Tryz.f132) Tryz.func132 (by kernel_rfl) (by kernel_rfl) (by kernel_rfl) ?_
 refine Sq ?_
 refine Rg [0] ?_
 refine V 2 98 (Az (x := (.const (.slice none 0 0))) (v := (.slice none 0 0)) rfl) ?_
 refine PX ?_
 refine Ac ?_
 refine Sq ?_
 refine Rg [0, 1, 2] ?_
 refine V 3 162 (AG (x := (.tmp 0)) (v := (.func (.func gf) #[] cap.toArray)) rfl) ?_
 refine RWP.call (dst := (some 4)) (ty := 98) (g := none) (by kernel_rfl) rfl (f0 := (.func 179)) (aos := #[(.const (.slice none 0 0)), (.tmp 3)]) (ats := #[98, 162]) (fid := 179) (first := #[]) (cap := #[]) (args := [.slice none 0 0, (.func (.func gf) #[] cap.toArray)]) rfl Gg rfl hs0 (GP w0 F0 hs0.pers gf cap m hgf hseq r h) ?_
 intro v F1 w1 hs1 le1 hp
 obtain ⟨a, n, rfl, hb, hs⟩ := hp
 refine V 2 98 (Az (x := (.tmp 4)) (v := (.slice a r.length n)) rfl) ?_
 refine PX ?_
 refine Ac ?_
 refine CWP.ret (by kernel_rfl) ?_
 exact ⟨rfl, (.slice a r.length n), Ay (l := [.tmp 2]) (by kernel_rfl) (vs := [(.slice a r.length n)]) ⟨rfl, trivial⟩, _, F1, rfl, hs1, a, n, rfl, hb, hs⟩
theorem IX : An Tryz.prog 133 := fun _ _ => by kernel_rfl
set_option maxRecDepth 100000 in
theorem JJ (w0 : World) (F0 : Mem) (hF : Qq w0 F0) (x0 : Qo) :
  Calls Tryz.prog 133 ([(.string ⟨(x0).toArray⟩)] : List Value).toArray w0 (AO w0 F0 fun F' v => ∃ (b1 b2 : Nat), v = .func (.func 181) #[] #[.pointer (some ⟨b1, 0, none⟩), .pointer (some ⟨b2, 0, none⟩)] /\ F' b1 = some (.cells #[(.string ⟨(x0).toArray⟩)] 9 (0, 0)) /\ F' b2 = some (.cells #[.func (.func 180) #[] #[.pointer (some ⟨b1, 0, none⟩)]] 193 (0, 0))) := by
 have hs0 := P4 hF
 refine Dr (n := 6) (c := BM Tryz.f133) Tryz.func133 (by kernel_rfl) (by kernel_rfl) (by kernel_rfl) ?_
 refine Sq ?_
 refine Rg [0, 1] ?_
 refine RWP.box (dst := (some 1)) (ty := 0) (g := none) (by kernel_rfl) rfl (x := (.tmp 0)) (t := 9) (v := (.string ⟨(x0).toArray⟩)) rfl (C := #[(.string ⟨(x0).toArray⟩)]) rfl hs0 (fun b1 w1 hs1 => ?_)
 refine V 2 162 (Az (x := (.const .nilFunc)) (v := .nilFunc) rfl) ?_
 refine PX ?_
 refine Ac ?_
 refine Sq ?_
 refine Rg [0, 1, 2] ?_
 refine V 4 193 (Cm (fn := .func 180) (first := #[]) (cap := #[.tmp 1]) (fl := []) (cl := [.pointer (some ⟨b1, 0, none⟩)]) rfl rfl) ?_
 refine Qb (dst := (some 3)) (ty := 0) (g := none) (by kernel_rfl) rfl (t := 193) (z := .nilFunc) (by kernel_rfl) (C := #[.nilFunc]) rfl hs1 (fun b2 w2 hs2 => ?_)
 refine Qc (ty := 0) (g := none) (by kernel_rfl) rfl (x := (.tmp 3)) (y := (.tmp 4)) (t := 193) (gg := false) (s := 1) (v := .func (.func 180) #[] #[.pointer (some ⟨b1, 0, none⟩)]) (b := b2) (o := 0) (C := #[.nilFunc]) rfl rfl (by kernel_rfl) hs2 (k := 0) rfl rfl rfl rfl (C' := #[.func (.func 180) #[] #[.pointer (some ⟨b1, 0, none⟩)]]) rfl (fun w3 (hs3 : HS w0 F0 w3 F0 [(some b2, .cells #[.func (.func 180) #[] #[.pointer (some ⟨b1, 0, none⟩)]] 193 (0, 0)), (some b1, .cells #[(.string ⟨(x0).toArray⟩)] 9 (0, 0))]) => ?_)
 refine PX ?_
 refine Ac ?_
 refine Sq ?_
 refine Rg [0, 1] ?_
 refine V 5 161 (Cm (fn := .func 181) (first := #[]) (cap := #[.tmp 1, .tmp 3]) (fl := []) (cl := [.pointer (some ⟨b1, 0, none⟩), .pointer (some ⟨b2, 0, none⟩)]) rfl rfl) ?_
 refine V 2 162 (Az (x := (.tmp 5)) (v := .func (.func 181) #[] #[.pointer (some ⟨b1, 0, none⟩), .pointer (some ⟨b2, 0, none⟩)]) rfl) ?_
 refine PX ?_
 refine Ac ?_
 refine CWP.ret (by kernel_rfl) ?_
 obtain ⟨F1, hs4, le1, hF1⟩ : ∃ Fq, HS w0 F0 w3 Fq [(some b1, .cells #[(.string ⟨(x0).toArray⟩)] 9 (0, 0))] /\ P2 F0 Fq /\ Fq b2 = some _ := HS.freezeC hs3 (k := 0) rfl
 obtain ⟨F2, hs5, le2, hF2⟩ : ∃ Fq, HS w0 F0 w3 Fq [] /\ P2 F1 Fq /\ Fq b1 = some _ := HS.freezeC hs4 (k := 0) rfl
 exact ⟨rfl, _, Ay (l := [.tmp 2]) (by kernel_rfl) (vs := [.func (.func 181) #[] #[.pointer (some ⟨b1, 0, none⟩), .pointer (some ⟨b2, 0, none⟩)]]) ⟨rfl, trivial⟩, _, F2, rfl, hs5, b1, b2, rfl, hF2, le2 _ _ hF1⟩
def Ej (N : Nat) (x0 : Int) (x1 : Int) (x2 : Int) (z0 : Qo) : Int -> Option (BV Qo Int) := fun s24 =>
 ((bif (decide (s24 < (z0.length : Int))) then ((NA z0 s24).bind fun c64 => (bif (decide (x1 <= c64)) then ((NA z0 s24).bind fun c70 => some (decide (c70 <= x2))) else some false)) else some false).bind fun j51 => (bif j51 then some (.next (W64 (s24 + 1))) else some (.done s24)))
def CL (N : Nat) (x0 : Int) (x1 : Int) (x2 : Int) (z0 : Qo) : Option Qo :=
 ((Bz (Ej N x0 x1 x2 z0) N x0).bind fun o => o.k (fun r => some r) (fun s34 => ((Nx z0 x0 s34).bind fun r79 => some r79)))
theorem Hs : An Tryz.prog 180 := fun _ _ => by kernel_rfl
theorem Ij (N : Nat) (w0 : World) (F0 : Mem) (hF : Qq w0 F0) (x0 : Int) (x1 : Int) (x2 : Int) (bz0 : Nat) (z0 : Qo) (hz0 : F0 bz0 = some (oc #[(.string ⟨(z0).toArray⟩)] 9)) (r : Qo) (h : CL N x0 x1 x2 z0 = some r) :
  Calls Tryz.prog 180 ([(vi x0), (.int .u8 x1), (.int .u8 x2), (pt bz0 0)] : List Value).toArray w0 (AO w0 F0 fun F' v => v = (.string ⟨(r).toArray⟩)) := by
 have hs0 := P4 hF
 refine Go 34 Tryz.func180 ?_
 refine Sq (Rg [0] ?_)
 refine Vs 1 ?_
 refine Nss (Rg [0, 1] ?_)
 refine Vs 2 ?_
 refine Nss ?_
 obtain ⟨o21, ho22, h23⟩ := bind_some h
 refine P9 (fun f w => ∃ (s34 : Int) (F2 : Mem), o21 = .done s34 /\ HS w0 F0 w F2 [] /\ P2 F0 F2 /\ FI f [] [(0, (vi x0)), (3, (pt bz0 0)), (8, (vi s34))]) ?_ ?_
 ·refine Bk ?_
  refine P1 (by kernel_rfl) (fun m f w => ∃ (s24 : Int) (F1 : Mem), Bz (Ej N x0 x1 x2 z0) m s24 = some o21 /\ HS w0 F0 w F1 [] /\ P2 F0 F1 /\ FI f [] [(0, (vi x0)), (1, (.int .u8 x1)), (2, (.int .u8 x2)), (3, (pt bz0 0)), (8, (vi s24))]) N ⟨x0, F0, ho22, hs0, (P3 _), fI⟩ ?_
  rintro m42 f w25 ⟨s24, F1, hit43, hs26, le27, ⟨_, rfl⟩⟩
  obtain ⟨m44, fl45, rfl, hb46, hnx47⟩ := A3 hit43
  refine Sq ?_
  refine Sq (Rg [0, 1, 2, 3, 4, 5, 6, 7, 8, 9, 10, 11, 12, 13, 14, 15, 16, 17] ?_)
  obtain ⟨j51, hj59, h60⟩ := bind_some hb46
  refine P8 (fun f w => ∃ (F3 : Mem), HS w0 F0 w F3 [] /\ P2 F1 F3 /\ FI f [] [(0, (vi x0)), (1, (.int .u8 x1)), (2, (.int .u8 x2)), (3, (pt bz0 0)), (8, (vi s24)), (27, (.bool j51))]) ?_ ?_
  ·refine Vs 1 ?_
   refine Ld (hs26.pers _ _ (le27 _ _ hz0)) ?_
   refine Vs 3 ?_
   refine Sp hj59 (fun hb61 h62 => ?_) (fun hb61 h63 => ?_)
   ·refine Vgs hb61 1 ?_
    refine Lg hb61 (hs26.pers _ _ (le27 _ _ hz0)) ?_
    refine Vgs hb61 1 ?_
    obtain ⟨c64, hr65, h66⟩ := bind_some h62
    refine Vg 18 5 4 true 14 hb61 (Jj (t := 9) (x := (.tmp 16)) (y := (.tmp 17)) (a := z0) (k := .i64) (i := s24) (v := c64) rfl rfl (by kernel_rfl) hr65) ?_
    refine Vgs hb61 1 ?_
    refine Pk1 hb61 ?_
    refine Vs 1 ?_
    refine Sp h66 (fun hb67 h68 => ?_) (fun hb67 h69 => ?_)
    ·refine Lg hb67 (hs26.pers _ _ (le27 _ _ hz0)) ?_
     refine Vgs hb67 1 ?_
     obtain ⟨c70, hr71, h72⟩ := bind_some h68
     refine Vg 24 5 11 true 21 hb67 (Jj (t := 9) (x := (.tmp 22)) (y := (.tmp 23)) (a := z0) (k := .i64) (i := s24) (v := c70) rfl rfl (by kernel_rfl) hr71) ?_
     refine Vgs hb67 2 ?_
     refine Pk1 hb67 ?_
     obtain rfl := Ab h72
     exact PX ⟨rfl, F1, hs26, (P3 _), fI⟩
    ·refine Ss hb67 5 ?_
     refine Pk0 hb67 ?_
     obtain rfl := Ab h69
     exact PX ⟨rfl, F1, hs26, (P3 _), fI⟩
   ·refine Ss hb61 5 ?_
    refine Pk0 hb61 ?_
    refine Vs 1 ?_
    refine Ss (rfl : false = false) 5 ?_
    refine Pk0 (rfl : false = false) ?_
    obtain rfl := Ab h63
    exact PX ⟨rfl, F1, hs26, (P3 _), fI⟩
  ·rintro f w48 ⟨F3, hs49, le50, ⟨_, rfl⟩⟩
   refine Ac ?_
   refine Cd h60 (fun hb73 h74 => ?_) (fun hb73 h75 => ?_)
   ·refine Sc ?_
    refine Ac ?_
    refine Bk ?_
    refine Rg [0, 1, 2] ?_
    refine Vs 3 ?_
    refine PX ?_
    refine Av ?_
    have hn76 := A0 h74 hnx47
    exact ⟨m44, Nat.lt_succ_self _, (W64 (s24 + 1)), F3, hn76, hs49, (le27.trans le50), fI⟩
   ·refine Ex ?_
    refine AC ?_
    refine AC ?_
    refine AR rfl ?_
    have ho77 := A7 h75 hnx47
    exact .inl ⟨rfl, s24, F3, ho77, hs49, (le27.trans le50), fI⟩
 ·rintro f w35 ⟨s34, F2, rfl, hs36, le37, ⟨_, rfl⟩⟩
  have h78 := Ca h23
  refine Ac ?_
  refine Sq (Rg [0, 1, 2, 3, 4] ?_)
  refine Ld (hs36.pers _ _ (le37 _ _ hz0)) ?_
  refine Vs 2 ?_
  obtain ⟨r79, hr80, h81⟩ := bind_some h78
  refine V 33 9 (Ji (t := 9) (x := (.tmp 30)) (lo := (some (.tmp 31))) (hi := (some (.tmp 32))) (a := z0) (il := x0) (ih := s34) (v := r79) rfl (by kernel_rfl) rfl rfl hr80) ?_
  refine Vs 1 ?_
  refine Nt ?_
  refine Rt ?_
  obtain rfl := Ab h81
  exact Re [(.string ⟨(r79).toArray⟩)] hs36 rfl
def Ei {σ : Type} (N : Nat) (y : (σ -> Ap -> Option (Bool × σ))) (z0 : Qo) (z1 : (Int -> Int -> Int -> Option Qo)) (s : σ) : (Int × σ) -> Option (BV σ (Int × σ)) := fun s4 =>
 (bif (decide (s4.1 < (z0.length : Int))) then ((Nx z0 s4.1 (W64 (s4.1 + 1))).bind fun r33 => ((NA z0 s4.1).bind fun c41 => (bif ((c41 == 32) || (c41 == 9)) then some (.next ((W64 (s4.1 + 1)), s4.2)) else ((bif ((decide (c41 >= 48)) && (decide (c41 <= 57))) then ((z1 s4.1 48 57).bind fun r87 => some (1, r87)) else ((bif ((decide (c41 >= 97)) && (decide (c41 <= 122))) then ((z1 s4.1 97 122).bind fun r126 => some (2, r126)) else ((Nx z0 s4.1 (z0.length : Int)).bind fun r138 => ((strings_HasPrefix N r138 ([61, 62] : Qo)).bind fun r141 => ((bif r141 then some (3, ([61, 62] : Qo)) else ((strings_IndexByte N ([40, 41, 44, 58, 61, 60, 43, 45, 42, 10] : Qo) c41).bind fun r168 => ((bif (decide (r168 >= 0)) then some 3 else some 4).bind fun j179 => some (j179, r33)))).bind fun j152 => some (j152.1, j152.2))))).bind fun j114 => some (j114.1, j114.2))).bind fun j75 => ((y s4.2 ({ kind_ := j75.1, at_ := s4.1, text_ := j75.2 } : Ap)).bind fun q193 => (bif (!q193.1) then some (.ret q193.2) else some (.next ((W64 (s4.1 + (j75.2.length : Int))), q193.2)))))))) else some (.done (s4.1, s4.2)))
def D3 {σ : Type} (N : Nat) (y : σ -> Ap -> Option (Bool × σ)) (z0 : Qo) (z1 : (Int -> Int -> Int -> Option Qo)) (s : σ) : Option σ :=
 ((Bz (Ei N y z0 z1 s) N (0, s)).bind fun o => o.k (fun r => some r) (fun s15 => ((y s15.2 ({ kind_ := 0, at_ := (z0.length : Int), text_ := ([] : Qo) } : Ap)).bind fun q208 => some q208.2)))
theorem Hr : An Tryz.prog 181 := fun _ _ => by kernel_rfl
theorem Ii (N : Nat) (F0 : Mem) (z0 : Qo) (bz0 : Nat) (hz0 : F0 bz0 = some (oc #[(.string ⟨(z0).toArray⟩)] 9)) (z1 : (Int -> Int -> Int -> Option Qo)) (gz1_0 : FuncId) (fz1_0 : List Value) (kz1_0 : List Value) (hoz1_0 : An Tryz.prog gz1_0) (hpz1_0 : M0 F0 gz1_0 fz1_0 kz1_0 z1) (bz1 : Nat) (hz1 : F0 bz1 = some (oc #[(.func (.func gz1_0) fz1_0.toArray kz1_0.toArray)] 193)) :
  Kv Tryz.prog 181 [(pt bz0 0), (pt bz1 0)] F0 [] KQ MK MI (fun {_} y s => D3 N y z0 z1 s) := by
 intro σ wb w0 Fb F1 l y J s r Lf le01 hJm hs0 hJ hY h
 have hs0 : HS wb Fb w0 F1 Lf := hs0
 refine Dr (n := 80) (c := BM Tryz.f181) Tryz.func181 (by kernel_rfl) (by kernel_rfl) (by kernel_rfl) ?_
 refine Sq ?_
 refine Sq (Rg [0] ?_)
 refine Vs 1 ?_
 refine Nt ?_
 obtain ⟨o1, ho2, h3⟩ := bind_some h
 refine P9 (fun f w => ∃ (s15 : (Int × σ)) (F3 : Mem) (Lf19 : Own), o1 = .done s15 /\ HS wb Fb w F3 Lf19 /\ P2 F1 F3 /\ FI f [] [(0, (.func (.yield l) #[] #[])), (1, (pt bz0 0))] /\ J s15.2 F3 Lf19) ?_ ?_
 ·refine Bk ?_
  refine P1 (by kernel_rfl) (fun m f w => ∃ (s4 : (Int × σ)) (F2 : Mem) (Lf8 : Own), Bz (Ei N y z0 z1 s) m s4 = some o1 /\ HS wb Fb w F2 Lf8 /\ P2 F1 F2 /\ FI f [] [(0, (.func (.yield l) #[] #[])), (1, (pt bz0 0)), (2, (pt bz1 0)), (4, (vi s4.1))] /\ J s4.2 F2 Lf8) N ⟨(0, s), F1, Lf, ho2, hs0, (P3 _), fI, hJ⟩ ?_
  rintro m24 f w5 ⟨s4, F2, Lf8, hit25, hs6, le7, ⟨_, rfl⟩, hJ9⟩
  obtain ⟨m26, fl27, rfl, hb28, hnx29⟩ := A3 hit25
  refine Sq ?_
  refine Sq (Rg [0, 1, 2, 3] ?_)
  refine Vs 1 ?_
  refine Ld (hs6.pers _ _ ((le01.trans le7) _ _ hz0)) ?_
  refine Vs 1 ?_
  refine Vs 1 ?_
  refine Nt ?_
  refine Cd hb28 (fun hb30 h31 => ?_) (fun hb30 h32 => ?_)
  ·refine Sc ?_
   refine Ac ?_
   refine Bk ?_
   refine Sq (Rg [0, 1, 2, 3, 4, 5, 6, 7, 8] ?_)
   refine Vs 1 ?_
   refine Ld (hs6.pers _ _ ((le01.trans le7) _ _ hz0)) ?_
   refine Vs 1 ?_
   refine Vs 1 ?_
   refine Vs 1 ?_
   obtain ⟨r33, hr34, h35⟩ := bind_some h31
   refine V 16 9 (Ji (t := 9) (x := (.tmp 12)) (lo := (some (.tmp 13))) (hi := (some (.tmp 15))) (a := z0) (il := s4.1) (ih := (W64 (s4.1 + 1))) (v := r33) rfl (by kernel_rfl) rfl rfl hr34) ?_
   refine Vs 1 ?_
   refine Al' 97 #[(vi 0), (vi 0), (.string ⟨(([] : Qo)).toArray⟩)] hs6 (fun b36 w37 hs38 => ?_)
   refine St0 #[(vi 4), (vi s4.1), (.string ⟨(r33).toArray⟩)] hs38 (fun w39 hs40 => ?_)
   refine Nss ?_
   refine Sq (Rg [0, 1, 2, 3] ?_)
   refine Ld (hs40.pers _ _ ((le01.trans le7) _ _ hz0)) ?_
   refine Vs 1 ?_
   obtain ⟨c41, hr42, h43⟩ := bind_some h35
   refine V 20 5 (Jj (t := 9) (x := (.tmp 18)) (y := (.tmp 19)) (a := z0) (k := .i64) (i := s4.1) (v := c41) rfl rfl (by kernel_rfl) hr42) ?_
   refine Vs 1 ?_
   refine Nt ?_
   refine Bk ?_
   refine Sq (Rg [0, 1, 2, 3, 4, 5, 6] ?_)
   refine P8 (fun f w => ∃ (F4 : Mem), HS wb Fb w F4 ((sb b36 #[(vi 4), (vi s4.1), (.string ⟨(r33).toArray⟩)] 97) :: Lf8) /\ P2 F2 F4 /\ FI f [] [(0, (.func (.yield l) #[] #[])), (1, (pt bz0 0)), (2, (pt bz1 0)), (4, (vi s4.1)), (5, (pt b36 0)), (6, (.int .u8 c41)), (21, (.bool ((c41 == 32) || (c41 == 9))))]) ?_ ?_
   ·refine Vs 1 ?_
    refine Vs 1 ?_
    refine Vs 1 ?_
    refine P7 (c41 == 32) (fun hb55 => ?_) (fun hb55 => ?_)
    ·refine Ss hb55 1 ?_--2
     refine Ss hb55 1 ?_--2
     refine Pk1 hb55 ?_
     refine Vs 1 ?_
     exact PX ⟨rfl, F2, hs40, (P3 _), (fJ ⟨rfl, rfl, rfl, rfl, rfl, rfl, (congrArg Value.bool (EA hb55 rfl)), trivial⟩)⟩
    ·refine Vgs hb55 1 ?_--2
     refine Vgs hb55 1 ?_--2
     refine Pk0 hb55 ?_
     refine Vs 1 ?_
     exact PX ⟨rfl, F2, hs40, (P3 _), (fJ ⟨rfl, rfl, rfl, rfl, rfl, rfl, (congrArg Value.bool (Bg hb55 rfl)), trivial⟩)⟩
   ·rintro f w44 ⟨F4, hs45, le46, ⟨_, rfl⟩⟩
    refine Ac ?_
    refine Cd h43 (fun hb56 h57 => ?_) (fun hb56 h58 => ?_)
    ·refine Sq (Rg [0, 1, 2] ?_)
     refine Vs 1 ?_
     refine Vs 1 ?_
     refine Vs 1 ?_
     refine Nt ?_
     refine Ex ?_
     refine LN (by decide) ?_
     refine AC ?_
     refine AR rfl ?_
     have hn59 := A0 h57 hnx29
     exact ⟨m26, Nat.lt_succ_self _, ((W64 (s4.1 + 1)), s4.2), F4, Lf8, hn59, hs45.dr0, (le7.trans le46), fI, (hJm _ _ _ _ hJ9 le46)⟩
    ·refine Sq (Rg [0, 1, 2, 3, 4, 5, 6] ?_)
     refine P8 (fun f w => ∃ (F5 : Mem), HS wb Fb w F5 ((sb b36 #[(vi 4), (vi s4.1), (.string ⟨(r33).toArray⟩)] 97) :: Lf8) /\ P2 F4 F5 /\ FI f [] [(0, (.func (.yield l) #[] #[])), (1, (pt bz0 0)), (2, (pt bz1 0)), (4, (vi s4.1)), (5, (pt b36 0)), (6, (.int .u8 c41)), (30, (.bool ((decide (c41 >= 48)) && (decide (c41 <= 57)))))]) ?_ ?_
     ·refine Vs 1 ?_
      refine Vs 1 ?_
      refine Vs 1 ?_
      refine P7 (decide (c41 >= 48)) (fun hb71 => ?_) (fun hb71 => ?_)
      ·refine Vgs hb71 1 ?_--2
       refine Vgs hb71 1 ?_--2
       refine Pk1 hb71 ?_
       refine Vs 1 ?_
       exact PX ⟨rfl, F4, hs45, (P3 _), (fJ ⟨rfl, rfl, rfl, rfl, rfl, rfl, (congrArg Value.bool (B9 hb71 rfl)), trivial⟩)⟩
      ·refine Ss hb71 1 ?_--2
       refine Ss hb71 1 ?_--2
       refine Pk0 hb71 ?_
       refine Vs 1 ?_
       exact PX ⟨rfl, F4, hs45, (P3 _), (fJ ⟨rfl, rfl, rfl, rfl, rfl, rfl, (congrArg Value.bool (DO hb71 rfl)), trivial⟩)⟩
     ·rintro f w60 ⟨F5, hs61, le62, ⟨_, rfl⟩⟩
      refine Ac ?_
      obtain ⟨j75, hj82, h83⟩ := bind_some h58
      refine P9 (fun f w => ∃ (F6 : Mem), HS wb Fb w F6 ((sb b36 #[(vi j75.1), (vi s4.1), (.string ⟨(j75.2).toArray⟩)] 97) :: Lf8) /\ P2 F5 F6 /\ FI f [] [(0, (.func (.yield l) #[] #[])), (1, (pt bz0 0)), (2, (pt bz1 0)), (4, (vi s4.1)), (5, (pt b36 0))]) ?_ ?_
      ·refine Cd hj82 (fun hb84 h85 => ?_) (fun hb84 h86 => ?_)
       ·refine Rg [0, 1, 2, 3, 4, 5, 6] ?_
        refine Ld (hs61.pers _ _ ((((le01.trans le7).trans le46).trans le62) _ _ hz1)) ?_
        refine Vs 1 ?_
        obtain ⟨r87, hr88, h89⟩ := bind_some h85
        refine Cq hoz1_0 hs61 (hpz1_0 w60 F5 s4.1 48 57 _ (((le01.trans le7).trans le46).trans le62) hs61.pers hr88) ?_
        rintro _ F7 w91 hs92 le93 rfl
        refine Vs 1 ?_
        refine St0 #[(vi 1), (vi s4.1), (.string ⟨(r33).toArray⟩)] hs92 (fun w95 hs96 => ?_)
        refine Vs 1 ?_
        refine St0 #[(vi 1), (vi s4.1), (.string ⟨(r87).toArray⟩)] hs96 (fun w97 hs98 => ?_)
        refine PX ?_
        obtain rfl := Ab h89
        exact .inl ⟨rfl, F7, hs98, le93, fI⟩
       ·refine Sq (Rg [0, 1, 2, 3, 4, 5, 6] ?_)
        refine P8 (fun f w => ∃ (F8 : Mem), HS wb Fb w F8 ((sb b36 #[(vi 4), (vi s4.1), (.string ⟨(r33).toArray⟩)] 97) :: Lf8) /\ P2 F5 F8 /\ FI f [] [(0, (.func (.yield l) #[] #[])), (1, (pt bz0 0)), (2, (pt bz1 0)), (4, (vi s4.1)), (5, (pt b36 0)), (6, (.int .u8 c41)), (42, (.bool ((decide (c41 >= 97)) && (decide (c41 <= 122)))))]) ?_ ?_
        ·refine Vs 1 ?_
         refine Vs 1 ?_
         refine Vs 1 ?_
         refine P7 (decide (c41 >= 97)) (fun hb110 => ?_) (fun hb110 => ?_)
         ·refine Vgs hb110 1 ?_--2
          refine Vgs hb110 1 ?_--2
          refine Pk1 hb110 ?_
          refine Vs 1 ?_
          exact PX ⟨rfl, F5, hs61, (P3 _), (fJ ⟨rfl, rfl, rfl, rfl, rfl, rfl, (congrArg Value.bool (B9 hb110 rfl)), trivial⟩)⟩
         ·refine Ss hb110 1 ?_--2
          refine Ss hb110 1 ?_--2
          refine Pk0 hb110 ?_
          refine Vs 1 ?_
          exact PX ⟨rfl, F5, hs61, (P3 _), (fJ ⟨rfl, rfl, rfl, rfl, rfl, rfl, (congrArg Value.bool (DO hb110 rfl)), trivial⟩)⟩
        ·rintro f w99 ⟨F8, hs100, le101, ⟨_, rfl⟩⟩
         refine Ac ?_
         obtain ⟨j114, hj121, h122⟩ := bind_some h86
         refine P9 (fun f w => ∃ (F9 : Mem), HS wb Fb w F9 ((sb b36 #[(vi j114.1), (vi s4.1), (.string ⟨(j114.2).toArray⟩)] 97) :: Lf8) /\ P2 F8 F9 /\ FI f [] [(0, (.func (.yield l) #[] #[])), (1, (pt bz0 0)), (2, (pt bz1 0)), (4, (vi s4.1)), (5, (pt b36 0))]) ?_ ?_
         ·refine Cd hj121 (fun hb123 h124 => ?_) (fun hb123 h125 => ?_)
          ·refine Rg [0, 1, 2, 3, 4, 5, 6] ?_
           refine Ld (hs100.pers _ _ (((((le01.trans le7).trans le46).trans le62).trans le101) _ _ hz1)) ?_
           refine Vs 1 ?_
           obtain ⟨r126, hr127, h128⟩ := bind_some h124
           refine Cq hoz1_0 hs100 (hpz1_0 w99 F8 s4.1 97 122 _ ((((le01.trans le7).trans le46).trans le62).trans le101) hs100.pers hr127) ?_
           rintro _ F10 w130 hs131 le132 rfl
           refine Vs 1 ?_
           refine St0 #[(vi 2), (vi s4.1), (.string ⟨(r33).toArray⟩)] hs131 (fun w134 hs135 => ?_)
           refine Vs 1 ?_
           refine St0 #[(vi 2), (vi s4.1), (.string ⟨(r126).toArray⟩)] hs135 (fun w136 hs137 => ?_)
           refine PX ?_
           obtain rfl := Ab h128
           exact .inl ⟨rfl, F10, hs137, le132, fI⟩
          ·refine Sq (Rg [0, 1, 2, 3, 4] ?_)
           refine Ld (hs100.pers _ _ (((((le01.trans le7).trans le46).trans le62).trans le101) _ _ hz0)) ?_
           refine Vs 1 ?_
           obtain ⟨r138, hr139, h140⟩ := bind_some h125
           refine V 57 9 (Ji (t := 9) (x := (.tmp 55)) (lo := (some (.tmp 56))) (hi := none) (a := z0) (il := s4.1) (ih := (z0.length : Int)) (v := r138) rfl (by kernel_rfl) rfl rfl hr139) ?_
           obtain ⟨r141, hr142, h143⟩ := bind_some h140
           refine Cl' FG hs100 (Gi N w99 F8 hs100.pers r138 (([61, 62] : Qo)) _ hr142) ?_
           rintro _ F11 w145 hs146 le147 rfl
           refine Vs 1 ?_
           refine Nt ?_
           obtain ⟨j152, hj159, h160⟩ := bind_some h143
           refine P9 (fun f w => ∃ (F12 : Mem), HS wb Fb w F12 ((sb b36 #[(vi j152.1), (vi s4.1), (.string ⟨(j152.2).toArray⟩)] 97) :: Lf8) /\ P2 F11 F12 /\ FI f [] [(0, (.func (.yield l) #[] #[])), (1, (pt bz0 0)), (2, (pt bz1 0)), (4, (vi s4.1)), (5, (pt b36 0))]) ?_ ?_
           ·refine Cd hj159 (fun hb161 h162 => ?_) (fun hb161 h163 => ?_)
            ·refine Rg [0, 1, 2, 3] ?_
             refine Vs 1 ?_
             refine St0 #[(vi 3), (vi s4.1), (.string ⟨(r33).toArray⟩)] hs146 (fun w164 hs165 => ?_)
             refine Vs 1 ?_
             refine St0 #[(vi 3), (vi s4.1), (.string ⟨(([61, 62] : Qo)).toArray⟩)] hs165 (fun w166 hs167 => ?_)
             refine PX ?_
             obtain rfl := Ab h162
             exact .inl ⟨rfl, F11, hs167, (P3 _), fI⟩
            ·refine Sq (Rg [0, 1, 2, 3] ?_)
             refine Vs 1 ?_
             obtain ⟨r168, hr169, h170⟩ := bind_some h163
             refine Cl' FF hs146 (Gh N w145 F11 hs146.pers (([40, 41, 44, 58, 61, 60, 43, 45, 42, 10] : Qo)) c41 _ hr169) ?_
             rintro _ F13 w172 hs173 le174 rfl
             refine Vs 1 ?_
             refine Vs 1 ?_
             refine Nt ?_
             obtain ⟨j179, hj186, h187⟩ := bind_some h170
             refine P9 (fun f w => ∃ (F14 : Mem), HS wb Fb w F14 ((sb b36 #[(vi j179), (vi s4.1), (.string ⟨(r33).toArray⟩)] 97) :: Lf8) /\ P2 F13 F14 /\ FI f [] [(0, (.func (.yield l) #[] #[])), (1, (pt bz0 0)), (2, (pt bz1 0)), (4, (vi s4.1)), (5, (pt b36 0))]) ?_ ?_
             ·refine Cd hj186 (fun hb188 h189 => ?_) (fun hb188 h190 => ?_)
              ·refine Rg [0, 1] ?_
               refine Vs 1 ?_
               refine St0 #[(vi 3), (vi s4.1), (.string ⟨(r33).toArray⟩)] hs173 (fun w191 hs192 => ?_)
               refine PX ?_
               obtain rfl := Ab h189
               exact .inl ⟨rfl, F13, hs192, (P3 _), fI⟩
              ·refine Sc ?_
               obtain rfl := Ab h190
               exact .inl ⟨rfl, F13, hs173, (P3 _), fI⟩
             ·rintro f w176 ⟨F14, hs177, le178, ⟨_, rfl⟩⟩
              obtain rfl := Ab h187
              exact .inl ⟨rfl, F14, hs177, (le174.trans le178), fI⟩
           ·rintro f w149 ⟨F12, hs150, le151, ⟨_, rfl⟩⟩
            obtain rfl := Ab h160
            exact .inl ⟨rfl, F12, hs150, (le147.trans le151), fI⟩
         ·rintro f w111 ⟨F9, hs112, le113, ⟨_, rfl⟩⟩
          obtain rfl := Ab h122
          exact .inl ⟨rfl, F9, hs112, (le101.trans le113), fI⟩
      ·rintro f w72 ⟨F6, hs73, le74, ⟨_, rfl⟩⟩
       refine Av ?_
       refine Ac ?_
       refine Sq (Rg [0, 1, 2, 3, 4, 5] ?_)
       refine Vs 1 ?_
       refine Vs 1 ?_
       refine Ld hs73.at0 ?_
       refine Vs 1 ?_
       refine Vs 1 ?_
       refine Vs 1 ?_
       refine Nss (Rg [0, 1, 2, 3] ?_)
       refine Vs 1 ?_
       refine Ld hs73.at0 ?_
       obtain ⟨q193, hq194, h195⟩ := bind_some h83
       refine RWP.yield (dst := (some 73)) (ty := 4) (g := none) (by kernel_rfl) rfl (f0 := (.tmp 71)) (aos := #[(.tmp 72)]) (ats := #[97]) (l := l) (args := [(.agg #[(vi j75.1), (vi s4.1), (.string ⟨(j75.2).toArray⟩)])]) rfl rfl (hY s4.2 ({ kind_ := j75.1, at_ := s4.1, text_ := j75.2 } : Ap) w72 F6 [(sb b36 #[(vi j75.1), (vi s4.1), (.string ⟨(j75.2).toArray⟩)] 97)] Lf8 q193 (((le7.trans le46).trans le62).trans le74) trivial (hJm _ _ _ _ hJ9 ((le46.trans le62).trans le74)) hs73 hq194) ?_
       rintro _ w196 ⟨F15, Lf200, rfl, hs197, le198, hJ199⟩
       have hs201 : HS wb Fb w196 F15 ((sb b36 #[(vi j75.1), (vi s4.1), (.string ⟨(j75.2).toArray⟩)] 97) :: Lf200) := hs197
       refine ⟨_, rfl, ?_⟩
       refine Vs 1 ?_
       refine Nt ?_
       refine Cd h195 (fun hb202 h203 => ?_) (fun hb202 h204 => ?_)
       ·refine Rt ?_
        refine Ai ?_
        refine Af ?_
        refine Ai ?_
        have hret := B2 h203 hnx29
        subst hret
        refine .inr ?_
        refine Af ?_
        have hfin := Ab h3
        subst hfin
        exact ⟨rfl, .tuple #[], Ay (l := []) (by kernel_rfl) (vs := []) trivial, F15, Lf200, rfl, hs201.dr0, ((((le7.trans le46).trans le62).trans le74).trans le198), hJ199⟩
       ·refine Sc ?_
        refine Av ?_
        have hn205 := A0 h204 hnx29
        exact ⟨m26, Nat.lt_succ_self _, ((W64 (s4.1 + (j75.2.length : Int))), q193.2), F15, Lf200, hn205, hs201.dr0, ((((le7.trans le46).trans le62).trans le74).trans le198), fI, hJ199⟩
  ·refine Ex ?_
   refine AC ?_
   refine AC ?_
   refine AR rfl ?_
   have ho206 := A7 h32 hnx29
   exact .inl ⟨rfl, (s4.1, s4.2), F2, Lf8, ho206, hs6, le7, fI, hJ9⟩
 ·rintro f w16 ⟨s15, F3, Lf19, rfl, hs17, le18, ⟨_, rfl⟩, hJ20⟩
  have h207 := Ca h3
  refine Ac ?_
  refine Rg [0, 1, 2, 3, 4] ?_
  refine Vs 1 ?_
  refine Ld (hs17.pers _ _ ((le01.trans le18) _ _ hz0)) ?_
  refine Vs 1 ?_
  refine Vs 1 ?_
  obtain ⟨q208, hq209, h210⟩ := bind_some h207
  refine RWP.yield (dst := (some 79)) (ty := 4) (g := none) (by kernel_rfl) rfl (f0 := (.tmp 75)) (aos := #[(.tmp 78)]) (ats := #[97]) (l := l) (args := [(.agg #[(vi 0), (vi (z0.length : Int)), (.string ⟨(([] : Qo)).toArray⟩)])]) rfl rfl (hY s15.2 ({ kind_ := 0, at_ := (z0.length : Int), text_ := ([] : Qo) } : Ap) w16 F3 [] Lf19 q208 le18 trivial hJ20 hs17 hq209) ?_
  rintro _ w211 ⟨F16, Lf215, rfl, hs212, le213, hJ214⟩
  have hs216 : HS wb Fb w211 F16 Lf215 := hs212
  refine ⟨_, rfl, ?_⟩
  refine PX ?_
  have hfin := Ab h210
  subst hfin
  exact ⟨rfl, .tuple #[], Ay (l := []) (by kernel_rfl) (vs := []) trivial, F16, Lf215, rfl, hs216, (le18.trans le213), hJ214⟩
section
variable {P : Program} {ro : Option Nat} {n : Nat} {R : Array Oper} {Q : Exit -> Fr -> World -> Prop} {w w0 : World} {F0 F : Mem} {L : Own} {f : Fr} {i : Nat} {rest : List Nat} {dst : Option Nat} {ty : TypeId} {g : Option (Nat × Bool)} {ρ : Operand -> Value}
theorem L4 {x : Operand} {q : FuncId} {cap : Array Value} {ats : Array TypeId} (hx : ρ x = .func (.func q) #[] cap) :
  (Al ρ (.defer { callee := .value x, args := #[], argTypes := ats }) ty).run P w = .ok (.defer { target := .fn (.func q) cap, args := #[] }) w := by
 have e : Al ρ (.defer { callee := .value x, args := #[], argTypes := ats }) ty = (do pure (Next.defer (<- Deferred.ofValue (ρ x) (Array.map ρ #[])))) := rfl
 rw [e, hx]
 simp [Deferred.ofValue]
theorem RWP.defer0 {x : Operand} {q : FuncId} {cap : Array Value} {ats : Array TypeId} (ho : opq R i = some (none, .defer { callee := .value x, args := #[], argTypes := ats }, ty, g)) (hg : gd R f g = true) (hx : fev f x = .func (.func q) #[] cap)
  (k : RWP P none n R Q rest ⟨f.v, { target := .fn (.func q) cap, args := #[] } :: f.d⟩ w) : RWP P none n R Q (i :: rest) f w := by
 intro hok a ha
 obtain ⟨o, hR, hd, hop, hty, hgd⟩ := BL ho
 rw [wpOpsIn]
 simp only [hR]
 rw [ha.wanted R o, hgd, hg]
 simp only [if_true]
 refine ⟨A6, ?_⟩
 show o.uponIn (FW none) 0 P a _ _ ((execOp a.eval o).run P w)
 rw [BI, ha.evalF, hop, hty, L4 hx]
 simp only [Oper.uponIn]
 rw [hd]
 exact k hok _ ⟨ha.size, ha.at_, by simp [Act.put, ha.defers]⟩
theorem IJ {x : Operand} {t q : TypeId} {v : Value} (hx : ρ x = .iface q v) (hu : Ha P q = true) :
  (Al ρ (.typeAssert x t q true) ty).run P w = .ok (.value (.tuple #[v, .bool true])) w := by
 have e : Al ρ (.typeAssert x t q true) ty = (do pure (Next.value (<- Instr.typeAssert (ρ x) t q true))) := rfl
 rw [e, hx]
 unfold Ha at hu
 split at hu
 ·cases hu
 ·rename_i d h1 h2
  cases d <;> first | exact (h1 _ rfl).elim | simp [Instr.typeAssert, run_underlying h2, Result.andThen]
 ·cases hu
theorem E7 {ops : Array Oper} {QS : Exit -> Act -> List Frame -> World -> Prop} {a : Act} {cs : List Frame} {d d2 : Nat} {ty ty2 : TypeId}
  (ho : opq ops 0 = some (some d, .call { callee := .builtin .recover, args := #[], argTypes := #[] }, ty, none)) (ho2 : opq ops 1 = some (some d2, .assign (.tmp d), ty2, none)) (hl : ops.size = 2) (hsz : d < a.tmps.size)
  (h : match recoverD cs with | some (v, cs') => QS .normal ((a.put (some d) v).put (some d2) v) cs' w | none => QS .normal ((a.put (some d) .nilIface).put (some d2) .nilIface) cs w) : wpOpsS P ops QS (List.range ops.size) a cs w := by
 rw [hl]
 obtain ⟨o, hR, hd, hop, hty, hgd⟩ := BL ho
 obtain ⟨o2, hR2, hd2, hop2, hty2, hgd2⟩ := BL ho2
 show wpOpsS P ops QS [0, 1] a cs w
 have step2 : ∀ (v : Value) (cs' : List Frame), QS .normal ((a.put (some d) v).put (some d2) v) cs' w -> wpOpsS P ops QS [1] (a.put (some d) v) cs' w := by
  intro v cs' hq
  simp only [wpOpsS, hR2]
  have hw : ∀ y, Region.wanted o2 y = true := fun y => by unfold Region.wanted; rw [hgd2]
  rw [if_pos (hw _)]
  have hev : (a.put (some d) v).eval (.tmp d) = v := by
   simp [Act.eval, Act.put, hsz]
  have hx : (execOp (a.put (some d) v).eval o2).run P w = .ok (.value v) w := by
   rw [BI, hop2]
   exact Az (ρ := (a.put (some d) v).eval) hev
  rw [hx]
  simp only [Oper.upon]
  rw [hd2]; exact hq
 rw [wpOpsS]
 simp only [hR]
 have hw : Region.wanted o (yielded ops a.tmps) = true := by unfold Region.wanted; rw [hgd]
 rw [if_pos hw]
 have hx : (execOp a.eval o).run P w = .ok .recover w := by rw [BI, hop]; rfl
 rw [hx]
 simp only
 cases hr : recoverD cs with
 | none => rw [hr] at h; simp only at h ⊢; rw [hd]; exact step2 _ _ h
 | some p => obtain ⟨v, cs'⟩ := p; rw [hr] at h; simp only at h ⊢; rw [hd]; exact step2 _ _ h
theorem OV {c : Code} {a : Act} {cs : List Frame} {Q' : Exit -> Fr -> World -> Prop} {QS : Exit -> Act -> List Frame -> World -> Prop} (h : CWP P none n c Q' f w) (hf : CU n f a)
  (hq : ∀ e a' w', lq n Q' e a' w' -> QS e a' cs w') : c.wpS P QS a cs w := wpS_of_wp (wp_mono (wpIn_wide.1 (h a hf)) hq)
theorem N1 {args : List Value} (hsz : decide (args.length <= n) = true) : CU n (f0 args) { tmps := args.toArray ++ Array.replicate (n - args.toArray.size) undef, defers := [] } := by
 have hsz' : args.length <= n := by simpa using hsz
 refine ⟨?_, ?_, rfl⟩
 ·simp; omega
 ·intro i
  simp only [f0]
  rw [Array.getD_eq_getD_getElem?]
  by_cases hi : i < args.length
  ·simp [Array.getElem?_append, hi]
  ·rw [Array.getElem?_append_right (by simp; omega)]
   rw [List.getD_eq_getElem?_getD, List.getElem?_eq_none (by omega)]
   simp only [List.getElem?_toArray, Array.getElem?_replicate]
   split <;> rfl
end
section
variable {wb w : World} {Fb F : Mem} {Lf : Own}
theorem OP : ∃ id ops, cs1 (BM Tryz.f131) = .region id ops false /\ BM Tryz.f131 = .seq (cs1 (BM Tryz.f131)) (cs2 (BM Tryz.f131)) := ⟨_, _, rfl, rfl⟩
theorem Is {Q : Exit -> Act -> List Frame -> World -> Prop} {a : Act} {cs : List Frame} {w : World} (h : wpOpsS Tryz.prog (Do (cs1 (BM Tryz.f131))) (Exit.thenS ((cs2 (BM Tryz.f131)).wpS Tryz.prog Q) Q) (List.range (Do (cs1 (BM Tryz.f131))).size) a cs w) : (BM Tryz.f131).wpS Tryz.prog Q a cs w := by
 obtain ⟨id, ops, h1, h2⟩ := OP
 rw [h2]
 refine wpS_seq ?_
 rw [h1] at h ⊢
 exact wpS_region h
abbrev Gq (b : Ah) : Value := .agg #[.int .i64 b.e_, .int .i64 b.at_]
abbrev be (v : Int) : Obj := .cells #[.int .i64 v] 27 (0, 0)
abbrev ba (v : Int) : Obj := .cells #[.int .i64 v] 3 (0, 0)
abbrev Fa (b c : Nat) : List Value := [.pointer (some ⟨b, 0, none⟩), .pointer (some ⟨c, 0, none⟩)]
theorem LK {b c : Nat} : CallsD Tryz.prog 131 (Fa b c).toArray .returning w fun e u' w' => u' = .returning /\ e = .returned (.tuple #[]) /\ w' = w := by
 refine callsD_of_wpS (fn := Tryz.f131) (c := BM Tryz.f131) Tryz.func131 (by kernel_rfl) fun c0 cs hu => Is (E7 (d := 5) (d2 := 2) (ty := 20) (ty2 := 20) (by kernel_rfl) (by kernel_rfl) (by kernel_rfl) (by rw [show Tryz.f131.ntmps = 20 from by kernel_rfl]; simp) ?_)
 have hr : recoverD (c0 :: cs) = none := by simp [recoverD, hu]
 rw [hr]
 simp only
 refine OV (n := 20) (f := upd (upd (f0 (Fa b c)) 5 .nilIface) 2 .nilIface) (Q' := fun e f w' => e = .normal /\ w' = w /\ f.d = []) ?_ (((N1 (n := 20) (args := Fa b c) rfl).put (dst := some 5) (by decide) .nilIface).put (dst := some 2) (by decide) .nilIface) ?_
 ·refine Sq ?_
  refine Rg [0, 1] ?_
  refine V 6 20 (AG (x := .tmp 2) (v := .nilIface) rfl) ?_
  refine V 7 4 (GK (t := 20) (t' := 20) (x := .tmp 6) (c := .nilIface) (b := false) (v := .nilIface) rfl rfl rfl (by kernel_rfl)) ?_
  refine PX ?_
  refine Ac ?_
  refine CWP.cond0 (t := false) (by kernel_rfl) rfl rfl ?_
  exact P0 (by kernel_rfl) ⟨rfl, rfl, rfl⟩
 ·rintro e a' w' ⟨f, hf, rfl, rfl, hd⟩
  refine ⟨hf.defers.trans hd, .returning, by rw [<- hu], .tuple #[], ?_, rfl, rfl, rfl⟩
  rw [hf.results Tryz.f131]
  exact Ay (l := []) (by kernel_rfl) (vs := []) trivial
theorem LL {b c : Nat} {x : Ah} (hs : HS wb Fb w F ((some c, ba 0) :: (some b, be 0) :: Lf)) :
  CallsD Tryz.prog 131 (Fa b c).toArray (.panicking [{ v := .iface 158 (Gq x), recovered := false }]) w fun e u' w' =>
   settle u' = .returning /\ e = .returned (.tuple #[]) /\ HS wb Fb w' F ((some c, ba x.at_) :: (some b, be x.e_) :: Lf) := by
 refine callsD_of_wpS (fn := Tryz.f131) (c := BM Tryz.f131) Tryz.func131 (by kernel_rfl) fun c0 cs hu => Is (E7 (d := 5) (d2 := 2) (ty := 20) (ty2 := 20) (by kernel_rfl) (by kernel_rfl) (by kernel_rfl) (by rw [show Tryz.f131.ntmps = 20 from by kernel_rfl]; simp) ?_)
 have hr : recoverD (c0 :: cs) = some (.iface 158 (Gq x), { c0 with mode := .panicking [{ v := .iface 158 (Gq x), recovered := true }] } :: cs) := by simp [recoverD, hu]
 rw [hr]
 simp only
 refine OV (n := 20) (f := upd (upd (f0 (Fa b c)) 5 (.iface 158 (Gq x))) 2 (.iface 158 (Gq x))) (Q' := fun e f w' => e = .normal /\ f.d = [] /\ HS wb Fb w' F ((some c, ba x.at_) :: (some b, be x.e_) :: Lf)) ?_ (((N1 (n := 20) (args := Fa b c) rfl).put (dst := some 5) (by decide) _).put (dst := some 2) (by decide) _) ?_
 ·refine Sq ?_
  refine Rg [0, 1] ?_
  refine V 6 20 (AG (x := .tmp 2) (v := .iface 158 (Gq x)) rfl) ?_
  refine V 7 4 (GK (t := 20) (t' := 20) (x := .tmp 6) (c := .nilIface) (b := true) (v := .iface 158 (Gq x)) ⟨_, _, rfl⟩ rfl rfl (by kernel_rfl)) ?_
  refine PX ?_
  refine Ac ?_
  refine CWP.cond1 (t := true) (by kernel_rfl) rfl rfl ?_
  refine Sq ?_
  refine Rg [0, 1, 2, 3, 4, 5, 6, 7] ?_
  refine V 9 20 (AG (x := .tmp 2) (v := .iface 158 (Gq x)) rfl) ?_
  refine V 10 159 (IJ (x := .tmp 9) (t := 20) (q := 158) (v := Gq x) rfl (by kernel_rfl)) ?_
  refine V 8 159 (AG (x := .tmp 10) (v := .tuple #[Gq x, .bool true]) rfl) ?_
  refine V 11 158 (Bn (x := .tmp 8) (vs := #[Gq x, .bool true]) (i := 0) (v := Gq x) rfl rfl) ?_
  refine V 12 4 (Bn (x := .tmp 8) (vs := #[Gq x, .bool true]) (i := 1) (v := .bool true) rfl rfl) ?_
  refine Qb (dst := some 3) (ty := 0) (g := none) (by kernel_rfl) rfl (t := 158) (z := .agg #[.int .i64 0, .int .i64 0]) (by kernel_rfl) (C := #[.int .i64 0, .int .i64 0]) rfl hs (fun b3 w3 hs3 => ?_)
  refine Qc (ty := 0) (g := none) (by kernel_rfl) rfl (x := .tmp 3) (y := .tmp 11) (t := 158) (gg := true) (s := 2) (v := Gq x) (b := b3) (o := 0) (C := #[.int .i64 0, .int .i64 0]) rfl rfl (by kernel_rfl) hs3 (k := 0) rfl rfl rfl rfl (C' := #[.int .i64 x.e_, .int .i64 x.at_]) rfl (fun w4 (hs4 : HS wb Fb w4 F ((some b3, .cells #[.int .i64 x.e_, .int .i64 x.at_] 158 (0, 0)) :: (some c, ba 0) :: (some b, be 0) :: Lf)) => ?_)
  refine V 4 4 (Az (x := .tmp 12) (v := .bool true) rfl) ?_
  refine PX ?_
  refine Ac ?_
  refine Sq ?_
  refine Sq ?_
  refine Rg [0, 1] ?_
  refine V 13 4 (AG (x := .tmp 4) (v := .bool true) rfl) ?_
  refine V 14 4 (KG (t := 4) (x := .tmp 13) (a := true) rfl) ?_
  refine PX ?_
  refine Ac ?_
  refine CWP.cond0 (t := false) (by kernel_rfl) rfl rfl ?_
  refine P0 (by kernel_rfl) ?_
  refine Ac ?_
  refine CWP.regionD (by kernel_rfl) (by kernel_rfl) (by kernel_rfl) (by kernel_rfl) (z := 6) (F := F) (Lc := [(some b3, .cells #[.int .i64 x.e_, .int .i64 x.at_] 158 (0, 0))]) (Lz := []) (l := [false, false, false, false, false, false]) (fuel := 6) (by kernel_rfl) (by kernel_rfl) hs4 (by simp) (by simp) (fun f w' => f.d = [] /\ HS wb Fb w' F ((some c, ba x.at_) :: (some b, be x.e_) :: Lf)) (fun wd hw => ?_) (fun f w' h => ⟨rfl, h.1, h.2⟩)
  refine Qe (i := 0) (v := .pointer (some ⟨b3, 0, none⟩)) (zd := true) (dst := some 16) (ty := 0) (g := none) (by kernel_rfl) (by kernel_rfl) (by kernel_rfl) (by kernel_rfl) (by kernel_rfl) rfl (fun wq hq => BH (s := 158) (x := .tmp 3) (i := 0) (o := 0) (k := 1) (b := b3) (o0 := 0) rfl (by kernel_rfl) rfl (o1 := 0) rfl) (l' := [true, false, false, false, false, false]) (by kernel_rfl) ?_
  refine Qe (i := 1) (v := .int .i64 x.e_) (zd := true) (dst := some 17) (ty := 27) (g := none) (by kernel_rfl) (by kernel_rfl) (by kernel_rfl) (by kernel_rfl) (by kernel_rfl) rfl (fun wq hq => BQ (t := 27) (x := .tmp 16) (b := b3) (o := 0) (g := false) (s := 1) (C := #[.int .i64 x.e_, .int .i64 x.at_]) (v := .int .i64 x.e_) rfl (by kernel_rfl) (hq.1.2 0 _ _ rfl) rfl rfl rfl) (l' := [true, true, false, false, false, false]) (by kernel_rfl) ?_
  refine Qe (i := 2) (v := .pointer (some ⟨b3, 1, none⟩)) (zd := true) (dst := some 18) (ty := 0) (g := none) (by kernel_rfl) (by kernel_rfl) (by kernel_rfl) (by kernel_rfl) (by kernel_rfl) rfl (fun wq hq => BH (s := 158) (x := .tmp 3) (i := 1) (o := 1) (k := 1) (b := b3) (o0 := 0) rfl (by kernel_rfl) rfl (o1 := 1) rfl) (l' := [true, true, true, false, false, false]) (by kernel_rfl) ?_
  refine Qe (i := 3) (v := .int .i64 x.at_) (zd := true) (dst := some 19) (ty := 3) (g := none) (by kernel_rfl) (by kernel_rfl) (by kernel_rfl) (by kernel_rfl) (by kernel_rfl) rfl (fun wq hq => BQ (t := 3) (x := .tmp 18) (b := b3) (o := 1) (g := false) (s := 1) (C := #[.int .i64 x.e_, .int .i64 x.at_]) (v := .int .i64 x.at_) rfl (by kernel_rfl) (hq.1.2 0 _ _ rfl) rfl rfl rfl) (l' := [true, true, true, true, false, false]) (by kernel_rfl) ?_
  refine Qf (i := 4) (by kernel_rfl) ?_
  refine Ax.store (l' := [true, true, true, true, true, false]) (zd := true) (by kernel_rfl) (by kernel_rfl) (ty := 0) (g := none) (by kernel_rfl) rfl (x := .tmp 0) (y := .tmp 17) (t := 27) (v := .int .i64 x.e_) (gg := false) (s := 1) (b := b) (o := 0) (C := #[.int .i64 0]) rfl rfl (by kernel_rfl) hw (k := 2) rfl rfl rfl rfl (C' := #[.int .i64 x.e_]) rfl (P3 _) (by simp) (fun e => by cases e) (fun w5 (hs5 : HS wb Fb w5 F ((some b3, .cells #[.int .i64 x.e_, .int .i64 x.at_] 158 (0, 0)) :: (some c, ba 0) :: (some b, be x.e_) :: Lf)) => ?_)
  refine Qf (i := 5) (by kernel_rfl) ?_
  refine Ax.store (l' := [true, true, true, true, true, true]) (zd := true) (by kernel_rfl) (by kernel_rfl) (ty := 0) (g := none) (by kernel_rfl) rfl (x := .tmp 1) (y := .tmp 19) (t := 3) (v := .int .i64 x.at_) (gg := false) (s := 1) (b := c) (o := 0) (C := #[.int .i64 0]) rfl rfl (by kernel_rfl) hs5 (k := 1) rfl rfl rfl rfl (C' := #[.int .i64 x.at_]) rfl (P3 _) (by simp) (fun e => by cases e) (fun w6 (hs6 : HS wb Fb w6 F ((some b3, .cells #[.int .i64 x.e_, .int .i64 x.at_] 158 (0, 0)) :: (some c, ba x.at_) :: (some b, be x.e_) :: Lf)) => ?_)
  exact Qi (by kernel_rfl) ⟨rfl, hs6.drop 0⟩
 ·rintro e a' w' ⟨f, hf, rfl, hd, hs'⟩
  refine ⟨hf.defers.trans hd, _, rfl, .tuple #[], ?_, rfl, rfl, hs'⟩
  rw [hf.results Tryz.f131]
  exact Ay (l := []) (by kernel_rfl) (vs := []) trivial
theorem NW (b c : Nat) (w' : World) : (invoke (.fn (.func 131) (Fa b c).toArray) #[]).run Tryz.prog w' = .ok (.enter 131 (Fa b c).toArray) w' := by
 have co : An Tryz.prog 131 := fun _ _ => by kernel_rfl
 simp only [invoke]; rw [co]; rfl
def Fm (N : Nat) (s : Qo) : Option (List Ap) := Hp (fun {_} y st => D3 N y s (fun y0 y1 y2 => CL N y0 y1 y2 s) st)
theorem GD : An Tryz.prog 78 := fun _ _ => by kernel_rfl
theorem Hz (N : Nat) (hs : HS wb Fb w F Lf) (s : Qo) {g : FuncId} {cap : List Value} (hok : An Tryz.prog g) (K : Option Ah -> Mem -> Own -> Prop) (hlong : decide ((s.length : Int) > 65536) = true -> ∀ F', K (some ⟨2, 0⟩) F' Lf)
  (hrun : decide ((s.length : Int) > 65536) = false -> ∃ l, Fm N s = some l /\ ∀ w1 F1 be_ ba_ bp a n, P2 F F1 -> LC l.length n -> SlA Ae F1 a l -> HS wb Fb w1 F1 ((some bp, .cells #[.slice a l.length n, .int .i64 0] 100 (0, 0)) :: (some ba_, ba 0) :: (some be_, be 0) :: Lf) ->
   Calls Tryz.prog g (.pointer (some ⟨bp, 0, none⟩) :: cap).toArray w1 (fun e w2 =>
   (∃ v F2 Lf2, e = .returned v /\ HS wb Fb w2 F2 ((some ba_, ba 0) :: (some be_, be 0) :: Lf2) /\ P2 F1 F2 /\ K none F2 Lf2) \/
   (∃ x F2 Lf2, e = .panicked [{ v := .iface 158 (Gq x), recovered := false }] /\ HS wb Fb w2 F2 ((some ba_, ba 0) :: (some be_, be 0) :: Lf2) /\ P2 F1 F2 /\ K (some x) F2 Lf2))) :
  Calls Tryz.prog 78 ([.string ⟨s.toArray⟩, .func (.func g) #[] cap.toArray] : List Value).toArray w (fun e w' => ∃ o F' Lf', e = .returned (match o with | none => .tuple #[.int .i64 0, .int .i64 0] | some x => .tuple #[.int .i64 x.e_, .int .i64 x.at_]) /\ HS wb Fb w' F' Lf' /\ P2 F F' /\ K o F' Lf') := by
 refine calls_of_wp_defers (fn := Tryz.f78) (c := BM Tryz.f78) Tryz.func78 (by kernel_rfl) ?_
 have key : CWP Tryz.prog none 17 (BM Tryz.f78) (fun e f w' => ∃ b c F' Lf', f 4 = .pointer (some ⟨b, 0, none⟩) /\ f 5 = .pointer (some ⟨c, 0, none⟩) /\ P2 F F' /\
   ((e = .ret /\ f.d = [] /\ HS wb Fb w' F' ((some c, ba 0) :: (some b, be 2) :: Lf') /\ K (some ⟨2, 0⟩) F' Lf') \/
   (e = .ret /\ f.d = [{ target := .fn (.func 131) (Fa b c).toArray, args := #[] }] /\ HS wb Fb w' F' ((some c, ba 0) :: (some b, be 0) :: Lf') /\ K none F' Lf') \/
   (∃ x, e = .panic [{ v := .iface 158 (Gq x), recovered := false }] /\ f.d = [{ target := .fn (.func 131) (Fa b c).toArray, args := #[] }] /\ HS wb Fb w' F' ((some c, ba 0) :: (some b, be 0) :: Lf') /\ K (some x) F' Lf'))) (f0 [.string ⟨s.toArray⟩, .func (.func g) #[] cap.toArray]) w := by
  refine Sq ?_
  refine Rg [0, 1] ?_
  refine Qb (dst := some 4) (ty := 0) (g := none) (by kernel_rfl) rfl (t := 27) (z := .int .i64 0) (by kernel_rfl) (C := #[.int .i64 0]) rfl hs (fun b w2 hs2 => ?_)
  refine Qb (dst := some 5) (ty := 0) (g := none) (by kernel_rfl) rfl (t := 3) (z := .int .i64 0) (by kernel_rfl) (C := #[.int .i64 0]) rfl hs2 (fun c w3 hs3 => ?_)
  refine PX ?_
  refine Ac ?_
  refine Sq ?_
  refine Sq ?_
  refine Rg [0, 1, 2] ?_
  refine V 6 9 (AG (x := .tmp 0) (v := .string ⟨s.toArray⟩) rfl) ?_
  refine V 7 3 (Lh (x := .tmp 6) (ats := #[9]) (t := 9) (a := s) rfl rfl (by kernel_rfl)) ?_
  refine V 8 4 (KI (t := 3) (t' := 3) (x := .tmp 7) (y := .const (.int .i64 65536)) (k := .i64) (a := (s.length : Int)) (b := 65536) rfl rfl) ?_
  refine PX ?_
  refine Ac ?_
  refine CWP.cond (t := decide ((s.length : Int) > 65536)) (by kernel_rfl) rfl (fun hc => ?_) (fun hc => ?_)
  ·refine Sq ?_
   refine Rg [0, 1] ?_
   refine Qc (ty := 0) (g := none) (by kernel_rfl) rfl (x := .tmp 4) (y := .const (.int .i64 2)) (t := 27) (gg := false) (s := 1) (v := .int .i64 2) (b := b) (o := 0) (C := #[.int .i64 0]) rfl rfl (by kernel_rfl) hs3 (k := 1) rfl rfl rfl rfl (C' := #[.int .i64 2]) rfl (fun w4 hs4 => ?_)
   refine Qc (ty := 0) (g := none) (by kernel_rfl) rfl (x := .tmp 5) (y := .const (.int .i64 0)) (t := 3) (gg := false) (s := 1) (v := .int .i64 0) (b := c) (o := 0) (C := #[.int .i64 0]) rfl rfl (by kernel_rfl) hs4 (k := 0) rfl rfl rfl rfl (C' := #[.int .i64 0]) rfl (fun w5 hs5 => ?_)
   refine PX ?_
   refine Ac ?_
   refine CWP.ret (by kernel_rfl) ?_
   exact ⟨b, c, F, Lf, rfl, rfl, P3 F, .inl ⟨rfl, rfl, hs5, hlong hc F⟩⟩
  ·obtain ⟨l, hl, hrun⟩ := hrun hc
   refine P0 (by kernel_rfl) ?_
   refine Ac ?_
   refine Sq ?_
   refine Rg [0, 1] ?_
   refine V 9 1 (Cm (fn := .func 131) (first := #[]) (cap := #[.tmp 4, .tmp 5]) (fl := []) (cl := Fa b c) rfl rfl) ?_
   refine RWP.defer0 (ty := 0) (g := none) (x := .tmp 9) (q := 131) (cap := (Fa b c).toArray) (ats := #[]) (by kernel_rfl) rfl rfl ?_
   refine PX ?_
   refine Ac ?_
   refine Sq ?_
   refine Rg [0, 1, 2, 3, 4, 5, 6] ?_
   refine V 10 103 (AG (x := .tmp 1) (v := .func (.func g) #[] cap.toArray) rfl) ?_
   refine V 11 9 (AG (x := .tmp 0) (v := .string ⟨s.toArray⟩) rfl) ?_
   refine RWP.call (dst := some 12) (ty := 162) (g := none) (by kernel_rfl) rfl (f0 := .func 133) (aos := #[.tmp 11]) (ats := #[9]) (fid := 133) (first := #[]) (cap := #[]) (args := [.string ⟨s.toArray⟩]) rfl IX rfl hs3 (JJ w3 F hs3.pers s) ?_
   rintro _ F1 w4 hs4 le4 ⟨b1, b2, rfl, hb1, hb2⟩
   refine RWP.call (dst := some 13) (ty := 98) (g := none) (by kernel_rfl) rfl (f0 := .func 132) (aos := #[.tmp 12]) (ats := #[162]) (fid := 132) (first := #[]) (cap := #[]) (args := [.func (.func 181) #[] #[.pointer (some ⟨b1, 0, none⟩), .pointer (some ⟨b2, 0, none⟩)]]) rfl Hq rfl hs4
    (Ih w4 F1 hs4.pers 181 [.pointer (some ⟨b1, 0, none⟩), .pointer (some ⟨b2, 0, none⟩)] (fun {_} y st => D3 N y s (fun y0 y1 y2 => CL N y0 y1 y2 s) st) Hr
     (Ii N F1 s b1 hb1 (fun y0 y1 y2 => CL N y0 y1 y2 s) 180 [] [.pointer (some ⟨b1, 0, none⟩)] Hs (fun w1 F2 y0 y1 y2 r le1 pe1 hr1 => Ij N w1 F2 pe1 y0 y1 y2 b1 s (le1 _ _ hb1) r hr1) b2 hb2) l hl) ?_
   rintro _ F2 w5 hs5 le5 ⟨a, n, rfl, hb, hsl⟩
   refine V 14 100 (EZ (t := 100) (parts := #[(0, .tmp 13)]) (vs := [(0, .slice a l.length n)]) rfl (cs := [.slice a l.length n, .int .i64 0]) (by kernel_rfl)) ?_
   refine RWP.box (dst := some 15) (ty := 95) (g := none) (by kernel_rfl) rfl (x := .tmp 14) (t := 100) (v := .agg #[.slice a l.length n, .int .i64 0]) rfl (C := #[.slice a l.length n, .int .i64 0]) rfl hs5 (fun bp w6 hs6 => ?_)
   refine PZ (dst := some 16) (ty := 0) (g := none) (by kernel_rfl) rfl (Cu (f := .tmp 10) (aos := #[.tmp 15]) (ats := #[95]) (g := g) (first := #[]) (cap := cap.toArray) (args := .pointer (some ⟨bp, 0, none⟩) :: cap) rfl hok (by simp; rfl)) (hrun _ F2 b c bp a n (le4.trans le5) hb hsl hs6) ?_
   rintro e w7 (⟨v, F3, Lf2, rfl, hs7, hle, hK⟩ | ⟨x, F3, Lf2, rfl, hs7, hle, hK⟩)
   ·refine PX ?_
    refine Ac ?_
    refine Sq ?_
    refine Rg [0, 1] ?_
    refine Qc (ty := 0) (g := none) (by kernel_rfl) rfl (x := .tmp 4) (y := .const (.int .i64 0)) (t := 27) (gg := false) (s := 1) (v := .int .i64 0) (b := b) (o := 0) (C := #[.int .i64 0]) rfl rfl (by kernel_rfl) hs7 (k := 1) rfl rfl rfl rfl (C' := #[.int .i64 0]) rfl (fun w8 hs8 => ?_)
    refine Qc (ty := 0) (g := none) (by kernel_rfl) rfl (x := .tmp 5) (y := .const (.int .i64 0)) (t := 3) (gg := false) (s := 1) (v := .int .i64 0) (b := c) (o := 0) (C := #[.int .i64 0]) rfl rfl (by kernel_rfl) hs8 (k := 0) rfl rfl rfl rfl (C' := #[.int .i64 0]) rfl (fun w9 hs9 => ?_)
    refine PX ?_
    refine Ac ?_
    refine CWP.ret (by kernel_rfl) ?_
    exact ⟨b, c, F3, Lf2, rfl, rfl, (le4.trans le5).trans hle, .inr (.inl ⟨rfl, rfl, hs9, hK⟩)⟩
   ·exact ⟨b, c, F3, Lf2, rfl, rfl, (le4.trans le5).trans hle, .inr (.inr ⟨x, rfl, rfl, hs7, hK⟩)⟩
 refine wp_mono (wpIn_wide.1 (key _ (N1 (n := 17) (args := [.string ⟨s.toArray⟩, .func (.func g) #[] cap.toArray]) rfl))) ?_
 have hres : ∀ {f : Fr} {b c : Nat} {v u : Int} {w' : World} {F' : Mem} {L' : Own}, f 4 = .pointer (some ⟨b, 0, none⟩) -> f 5 = .pointer (some ⟨c, 0, none⟩) -> HS wb Fb w' F' ((some c, ba u) :: (some b, be v) :: L') -> (B0 Tryz.f78.results f).run Tryz.prog w' = .ok (.tuple #[.int .i64 v, .int .i64 u]) w' := by
  intro f b c v u w' F' L' hf hf5 hs'
  exact Ay (l := [.cell 4 27, .cell 5 3]) (by kernel_rfl) (vs := [.int .i64 v, .int .i64 u]) ⟨b, 0, hf, Aj (t := 27) (g := false) (s := 1) (by kernel_rfl) (hs'.ownAt (k := 1) rfl) rfl (by decide), c, 0, hf5, Aj (t := 3) (g := false) (s := 1) (by kernel_rfl) (hs'.ownAt (k := 0) rfl) rfl (by decide), trivial⟩
 rintro e a w' ⟨f, hf, b, c, F', Lf', h4, h5, hle, (⟨rfl, hd, hs', hK⟩ | ⟨rfl, hd, hs', hK⟩ | ⟨x, rfl, hd, hs', hK⟩)⟩
 ·show Leaves _ _ _ _ _ _ _
  rw [hf.defers, hd]
  exact ⟨_, by rw [hf.results Tryz.f78]; exact hres h4 h5 hs', some ⟨2, 0⟩, F', Lf', rfl, (hs'.drop 0).drop 0, hle, hK⟩
 ·show Leaves _ _ _ _ _ _ _
  rw [hf.defers, hd]
  refine ⟨by simp, _, _, 131, _, rfl, NW b c w', ?_⟩
  intro c0 cs hc0
  obtain ⟨e, u', w2, fr, hR, hrest⟩ := LK (w := w') (b := b) (c := c) c0 cs hc0
  refine ⟨e, u', w2, fr, ?_, hrest⟩
  obtain ⟨rfl, rfl, rfl⟩ := hR
  show Leaves _ _ _ _ _ _ _
  exact ⟨_, by rw [hf.results Tryz.f78]; exact hres h4 h5 hs', none, F', Lf', rfl, (hs'.drop 0).drop 0, hle, hK⟩
 ·show Leaves _ _ _ _ _ _ _
  rw [hf.defers, hd]
  refine ⟨by simp, _, _, 131, _, rfl, NW b c w', ?_⟩
  intro c0 cs hc0
  obtain ⟨e, u', w2, fr, hR, hrest⟩ := LL (w := w') (b := b) (c := c) (x := x) hs' c0 cs hc0
  refine ⟨e, u', w2, fr, ?_, hrest⟩
  obtain ⟨hu, rfl, hs2⟩ := hR
  show Leaves _ _ _ _ _ _ _
  rw [hu]
  exact ⟨_, by rw [hf.results Tryz.f78]; exact hres h4 h5 hs2, some x, F', Lf', rfl, (hs2.drop 0).drop 0, hle, hK⟩
end
def AL (N : Nat) (x0 : Aa) (x1 : Qo) : Option Bool :=
 (((idx x0.l_ 0).bind fun x29 => (bif (x29.kind_ == 2) then ((idx x0.l_ 0).bind fun x46 => some (x46.text_ == x1)) else ((idx x0.l_ 0).bind fun x52 => (bif (x52.kind_ == 3) then ((idx x0.l_ 0).bind fun x61 => some (x61.text_ == x1)) else some false)))).bind fun j24 => some j24)
theorem BS : An Tryz.prog 134 := fun _ _ => by kernel_rfl
theorem BX (N : Nat) {wb w0 : World} {Fb F0 : Mem} {Lf : Own} (bp0 : Nat) (x0 : Aa) (a0_0 : Qp) (n0_0 : Nat) (hb0_0 : LC x0.l_.length n0_0) (hs0_0 : SlA Ae F0 a0_0 x0.l_) (x1 : Qo) (hs0 : HS wb Fb w0 F0 ((sb bp0 (Ad x0 a0_0 n0_0) 100) :: Lf)) (r : Bool) (h : AL N x0 x1 = some r) :
  Calls Tryz.prog 134 ([(pt bp0 0), (.string ⟨(x1).toArray⟩)] : List Value).toArray w0 (My wb Fb F0 fun F' v L' => v = (.bool r) /\ L' = (sb bp0 (Ad x0 a0_0 n0_0) 100) :: Lf) := by
 refine Go 34 Tryz.func134 ?_
 refine Sq (Rg [0] ?_)
 refine Vs 1 ?_
 refine Nss (Rg [0, 1, 2, 3, 4, 5, 6, 7, 8, 9, 10, 11, 12, 13, 14, 15, 16, 17, 18, 19, 20, 21, 22, 23, 24, 25, 26, 27, 28, 29] ?_)
 obtain ⟨j24, hj27, h28⟩ := bind_some h
 refine P8 (fun f w => ∃ (F1 : Mem), HS wb Fb w F1 ((sb bp0 (Ad x0 a0_0 n0_0) 100) :: Lf) /\ P2 F0 F1 /\ FI f [] [(4, (.bool j24))]) ?_ ?_
 ·refine Vs 3 ?_
  refine Ld hs0.at0 ?_
  obtain ⟨x29, hx30, h32⟩ := bind_some hj27
  obtain ⟨hi31, hx30'⟩ := Aw hx30
  obtain ⟨b33, o34, C35, E36, fz37, rfl, hF39, hE40⟩ := Qd hs0_0 hx30'
  have hc42 := hE40 _ _ hx30'
  refine Ix hi31 ?_
  refine Vs 1 ?_
  refine Lx 0 (hs0.pers _ _ hF39) hc42 ?_
  refine Vs 2 ?_
  refine Sp h32 (fun hb43 h44 => ?_) (fun hb43 h45 => ?_)
  ·refine Ss hb43 8 ?_
   refine Pk1 hb43 ?_
   refine Vs 1 ?_
   refine Vg 24 95 18 true 23 rfl (mv 0 (pt bp0 0)) ?_
   refine Vg 25 0 18 true 23 rfl (CK (x := (.tmp 24)) (a := ⟨bp0, 0, none⟩) rfl) ?_
   refine Vg 26 0 18 true 23 rfl (fa 100 25 0 0 1 bp0 0 0) ?_
   refine Vg 27 98 18 true 23 rfl (ld 98 26 bp0 0 false 1 (.slice (some ⟨b33, o34, none⟩) x0.l_.length n0_0) hs0.at0) ?_
   obtain ⟨x46, hx47, h49⟩ := bind_some h44
   obtain ⟨hi48, hx47'⟩ := Aw hx47
   have hc51 := hE40 _ _ hx47'
   refine Vg 28 0 18 true 23 rfl (EJ (t := 98) (x := (.tmp 27)) (y := (.const (vi 0))) (b := b33) (o := o34) (E := 97) (s := 3) (by_ := 32) rfl rfl (by kernel_rfl) hi48) ?_
   refine Vg 29 0 18 true 23 rfl (fa 97 28 2 2 1 b33 (o34 + (0 : Int).toNat * 3) ((o34 + (0 : Int).toNat * 3) + 2)) ?_
   refine Vg 30 9 18 true 23 rfl (lx 9 29 2 3 false 1 (.string ⟨(x46.text_).toArray⟩) (hs0.pers _ _ hF39) hc51) ?_
   refine Vg 31 9 18 true 23 rfl (mv 1 (.string ⟨(x1).toArray⟩)) ?_
   refine Vg 32 4 18 true 23 rfl (Li (t := 9) (t' := 9) (x := (.tmp 30)) (y := (.tmp 31)) (op := .eql) (a := x46.text_) (b := x1) (v := (x46.text_ == x1)) rfl rfl rfl) ?_
   refine Pk1 (rfl : true = true) ?_
   refine Vs 1 ?_
   obtain rfl := Ab h49
   exact PX ⟨rfl, F0, hs0, (P3 _), fI⟩
  ·refine Vgs hb43 3 ?_
   refine Lg hb43 hs0.at0 ?_
   obtain ⟨x52, hx53, h55⟩ := bind_some h45
   obtain ⟨hi54, hx53'⟩ := Aw hx53
   have hc57 := hE40 _ _ hx53'
   refine Ixg hb43 hi54 ?_
   refine Vgs hb43 1 ?_
   refine Lxg hb43 0 (hs0.pers _ _ hF39) hc57 ?_
   refine Vgs hb43 1 ?_
   refine Pk0 hb43 ?_
   refine Vs 1 ?_
   refine Sp h55 (fun hb58 h59 => ?_) (fun hb58 h60 => ?_)
   ·refine Vgs hb58 3 ?_
    refine Lg hb58 hs0.at0 ?_
    obtain ⟨x61, hx62, h64⟩ := bind_some h59
    obtain ⟨hi63, hx62'⟩ := Aw hx62
    have hc66 := hE40 _ _ hx62'
    refine Ixg hb58 hi63 ?_
    refine Vgs hb58 1 ?_
    refine Lxg hb58 2 (hs0.pers _ _ hF39) hc66 ?_
    refine Vgs hb58 2 ?_
    refine Pk1 hb58 ?_
    refine Vs 1 ?_
    obtain rfl := Ab h64
    exact PX ⟨rfl, F0, hs0, (P3 _), fI⟩
   ·refine Ss hb58 9 ?_
    refine Pk0 hb58 ?_
    refine Vs 1 ?_
    obtain rfl := Ab h60
    exact PX ⟨rfl, F0, hs0, (P3 _), fI⟩
 ·rintro f w21 ⟨F1, hs22, le23, ⟨_, rfl⟩⟩
  refine Ac ?_
  refine Rt ?_
  obtain rfl := Ab h28
  exact ReB [(.bool j24)] hs22 le23 ⟨rfl, rfl⟩
def Ar (N : Nat) (x0 : Aa) (x1 : Qo) : Option (Aa × Bool) :=
 ((AL N x0 x1).bind fun r21 => (bif (!r21) then some (x0, false) else ((sub x0.l_ 1 (x0.l_.length : Int)).bind fun r31 => some (({ l_ := r31, open_ := x0.open_ } : Aa), true))))
theorem AD : An Tryz.prog 80 := fun _ _ => by kernel_rfl
theorem AE (N : Nat) {wb w0 : World} {Fb F0 : Mem} {Lf : Own} (bp0 : Nat) (x0 : Aa) (a0_0 : Qp) (n0_0 : Nat) (hb0_0 : LC x0.l_.length n0_0) (hs0_0 : SlA Ae F0 a0_0 x0.l_) (x1 : Qo) (hs0 : HS wb Fb w0 F0 ((sb bp0 (Ad x0 a0_0 n0_0) 100) :: Lf)) (r : (Aa × Bool)) (h : Ar N x0 x1 = some r) :
  Calls Tryz.prog 80 ([(pt bp0 0), (.string ⟨(x1).toArray⟩)] : List Value).toArray w0 (My wb Fb F0 fun F' v L' => ∃ (aq0_0 : Qp) (nq0_0 : Nat), v = (.bool r.2) /\ L' = (sb bp0 (Ad r.1 aq0_0 nq0_0) 100) :: Lf /\ LC r.1.l_.length nq0_0 /\ SlA Ae F' aq0_0 r.1.l_) := by
 refine Go 17 Tryz.func80 ?_
 refine Sq (Rg [0] ?_)
 refine Vs 1 ?_
 refine Nss ?_
 refine Sq (Rg [0, 1, 2, 3] ?_)
 refine Vs 2 ?_
 obtain ⟨r21, hr22, h23⟩ := bind_some h
 refine CB BS (BX N bp0 x0 a0_0 n0_0 hb0_0 hs0_0 x1 hs0 _ hr22) ?_
 rintro _ F1 w24 _ hs25 le26 ⟨rfl, rfl⟩
 refine Vs 1 ?_
 refine Nt ?_
 refine Cd h23 (fun hb28 h29 => ?_) (fun hb28 h30 => ?_)
 ·refine Sq (Rg [0] ?_)
  refine Vs 1 ?_
  refine Nt ?_
  refine Rt ?_
  refine Af ?_
  obtain rfl := Ab h29
  exact ReB [(.bool false)] hs25 le26 ⟨a0_0, n0_0, rfl, rfl, hb0_0, (P5 hs0_0 le26)⟩
 ·refine Sc ?_
  refine Ac ?_
  refine Sq (Rg [0, 1, 2, 3, 4, 5, 6, 7, 8] ?_)
  refine Vs 4 ?_
  refine Ld hs25.at0 ?_
  obtain ⟨r31, hr32, h33⟩ := bind_some h30
  obtain ⟨a34, n35, hb36, hs37, hrun38⟩ := Jq (P := Tryz.prog) (T := Ae) (lo := (some (.const (vi 1)))) (hi := none) (mx := none) (t := 98) (E := 97) (by_ := 32) (c := n0_0) (a := a0_0) (l := x0.l_) (r := r31) (il := 1) (ih := (x0.l_.length : Int)) (im := 0) (by kernel_rfl) (by kernel_rfl) hb0_0 (P5 hs0_0 le26) (fun h => by first | rfl | cases h) hr32
  refine V 14 98 (hrun38 (x := (.tmp 13)) rfl rfl rfl trivial) ?_
  refine Vs 2 ?_
  refine St0 #[(.slice a34 r31.length n35), (vi x0.open_)] hs25 (fun w39 hs40 => ?_)
  refine Nss (Rg [0] ?_)
  refine Vs 1 ?_
  refine Nt ?_
  refine Rt ?_
  obtain rfl := Ab h33
  exact ReB [(.bool true)] hs40 le26 ⟨a34, n35, rfl, rfl, hb36, hs37⟩
def Cv (N : Nat) (x0 : Aa) (x1 : (Aa -> Option (Ah ⊕ (Aa × Expr)))) (x2 : (List (Qo × Int))) (r27 : (Aa × Expr)) : (Int × Int × List Expr × List Ap × Int) -> Option (BV (Ah ⊕ (Aa × Expr)) (Int × Int × List Expr × List Ap × Int)) := fun s42 =>
 ((idx s42.2.2.2.1 0).bind fun x64 => ((bif (!(Nh x2 x64.text_)) then some (true, s42.2.2.2.1, s42.2.2.2.2) else ((idx s42.2.2.2.1 0).bind fun x95 => ((Ar N ({ l_ := s42.2.2.2.1, open_ := s42.2.2.2.2 } : Aa) x95.text_).bind fun r101 => some ((!r101.2), r101.1.l_, r101.1.open_)))).bind fun j81 => (bif j81.1 then some (.ret (.inr (({ l_ := j81.2.1, open_ := j81.2.2 } : Aa), ({ Op := s42.1, Value := s42.2.1, Kids := s42.2.2.1 } : Expr)))) else (((x1 ({ l_ := j81.2.1, open_ := j81.2.2 } : Aa)).bind fun r129 => sk r129 (fun b146 => some (.inl b146)) (fun r132 => some (.inr (r132.1.l_, r132.1.open_, (IA x2 x64.text_ 0), 0, [({ Op := s42.1, Value := s42.2.1, Kids := s42.2.2.1 } : Expr), r132.2])))).bind fun j119 => sk j119 (fun b158 => some (.ret (.inl b158))) (fun J128 => some (.next (J128.2.2.1, J128.2.2.2.1, J128.2.2.2.2, J128.1, J128.2.1)))))))
def Be (N : Nat) (x0 : Aa) (x1 : (Aa -> Option (Ah ⊕ (Aa × Expr)))) (x2 : (List (Qo × Int))) : Option (Ah ⊕ (Aa × Expr)) :=
 ((x1 x0).bind fun r24 => sk r24 (fun b165 => some (.inl b165)) (fun r27 => ((Bz (Cv N x0 x1 x2 r27) N (r27.2.Op, r27.2.Value, r27.2.Kids, r27.1.l_, r27.1.open_)).bind fun o => o.k (fun r => some r) (fun s52 => some (.inr (({ l_ := s52.2.2.2.1, open_ := s52.2.2.2.2 } : Aa), ({ Op := 0, Value := 0, Kids := ([] : List Expr) } : Expr)))))))
theorem Bi : An Tryz.prog 184 := fun _ _ => by kernel_rfl
theorem Bt (N : Nat) {wb w0 : World} {Fb F0 : Mem} {Lf : Own} (hG : Ce F0) (bp0 : Nat) (x0 : Aa) (a0_0 : Qp) (n0_0 : Nat) (hb0_0 : LC x0.l_.length n0_0) (hs0_0 : SlA Ae F0 a0_0 x0.l_) (gx1 : FuncId) (fx1 kx1 : List Value) (x1 : (Aa -> Option (Ah ⊕ (Aa × Expr)))) (hox1 : An Tryz.prog gx1) (hpx1 : Pj bp0 gx1 fx1 kx1 x1) (x2 : (List (Qo × Int))) (o2_0 : Option Nat) (hm2_0 : MpA EH A4 F0 o2_0 x2) (hs0 : HS wb Fb w0 F0 ((sb bp0 (Ad x0 a0_0 n0_0) 100) :: Lf)) (r : (Ah ⊕ (Aa × Expr))) (h : Be N x0 x1 x2 = some r) :
  Calls Tryz.prog 184 ([(pt bp0 0), (.func (.func gx1) fx1.toArray kx1.toArray), (.map o2_0)] : List Value).toArray w0 (Bq wb Fb F0 Lf r (fun b => (.iface 158 (.agg (AF b)))) fun a F' v L' => ∃ (aq0_0 : Qp) (nq0_0 : Nat) (aq1_2 : Qp) (nq1_2 : Nat), v = (.agg (Ag a.2 aq1_2 nq1_2)) /\ L' = (sb bp0 (Ad a.1 aq0_0 nq0_0) 100) :: Lf /\ LC a.1.l_.length nq0_0 /\ SlA Ae F' aq0_0 a.1.l_ /\ LC a.2.Kids.length nq1_2 /\ SlA Ao F' aq1_2 a.2.Kids) := by
 refine Go 45 Tryz.func184 ?_
 refine Sq (Rg [0] ?_)
 refine Al' 33 #[(vi 0), (vi 0), (.slice none ([] : List Expr).length 0)] hs0 (fun b21 w22 hs23 => ?_)
 refine Nss (Rg [0, 1, 2, 3] ?_)
 refine Vs 1 ?_
 obtain ⟨r24, hr25, h26⟩ := bind_some h
 refine CPq hox1 (hpx1 hG x0 a0_0 n0_0 hb0_0 hs0_0 hs23.pk1 _ hr25) ?_ ?_
 ·rintro r27 _ F1 w29 _ rfl hs30 le31 ⟨ar27_0_0, nr27_0_0, ar27_1_2, nr27_1_2, rfl, rfl, hbr27_0_0, hsr27_0_0, hbr27_1_2, hsr27_1_2⟩
  have h33 := BD h26
  refine Al' 33 #[(vi 0), (vi 0), (.slice none ([] : List Expr).length 0)] hs30 (fun b34 w35 hs36 => ?_)
  refine St0 (Ag r27.2 ar27_1_2 nr27_1_2) hs36 (fun w37 hs38 => ?_)
  refine Nt ?_
  obtain ⟨o39, ho40, h41⟩ := bind_some h33
  refine P9 (fun f w => ∃ (s52 : (Int × Int × List Expr × List Ap × Int)) (F3 : Mem) (as52_3 : Qp) (ns52_3 : Nat), o39 = .done s52 /\ HS wb Fb w F3 ((sb bp0 #[(.slice as52_3 s52.2.2.2.1.length ns52_3), (vi s52.2.2.2.2)] 100) :: (sb b21 #[(vi 0), (vi 0), (.slice none ([] : List Expr).length 0)] 33) :: Lf) /\ P2 F1 F3 /\ FI f [] [(6, (pt b21 0))] /\ LC s52.2.2.2.1.length ns52_3 /\ SlA Ae F3 as52_3 s52.2.2.2.1) ?_ ?_
  ·refine Bk ?_
   refine P1 (by kernel_rfl) (fun m f w => ∃ (s42 : (Int × Int × List Expr × List Ap × Int)) (F2 : Mem) (as42_2 : Qp) (ns42_2 : Nat) (as42_3 : Qp) (ns42_3 : Nat), Bz (Cv N x0 x1 x2 r27) m s42 = some o39 /\ HS wb Fb w F2 ((sb b34 #[(vi s42.1), (vi s42.2.1), (.slice as42_2 s42.2.2.1.length ns42_2)] 33) :: (sb bp0 #[(.slice as42_3 s42.2.2.2.1.length ns42_3), (vi s42.2.2.2.2)] 100) :: (sb b21 #[(vi 0), (vi 0), (.slice none ([] : List Expr).length 0)] 33) :: Lf) /\ P2 F1 F2 /\ FI f [] [(0, (pt bp0 0)), (1, (.func (.func gx1) fx1.toArray kx1.toArray)), (2, (.map o2_0)), (6, (pt b21 0)), (7, (pt b34 0))] /\ LC s42.2.2.1.length ns42_2 /\ SlA Ao F2 as42_2 s42.2.2.1 /\ LC s42.2.2.2.1.length ns42_3 /\ SlA Ae F2 as42_3 s42.2.2.2.1) N ⟨(r27.2.Op, r27.2.Value, r27.2.Kids, r27.1.l_, r27.1.open_), F1, ar27_1_2, nr27_1_2, ar27_0_0, nr27_0_0, ho40, hs38, (P3 _), fI, hbr27_1_2, hsr27_1_2, hbr27_0_0, hsr27_0_0⟩ ?_
   rintro m58 f w43 ⟨s42, F2, as42_2, ns42_2, as42_3, ns42_3, hit59, hs44, le45, ⟨_, rfl⟩, hbs42_2, hss42_2, hbs42_3, hss42_3⟩
   obtain ⟨m60, fl61, rfl, hb62, hnx63⟩ := A3 hit59
   refine Bk ?_
   refine Sq (Rg [0, 1, 2, 3, 4, 5, 6, 7, 8, 9, 10, 11, 12, 13] ?_)
   refine Vs 4 ?_
   refine Ld hs44.at1 ?_
   obtain ⟨x64, hx65, h67⟩ := bind_some hb62
   obtain ⟨hi66, hx65'⟩ := Aw hx65
   obtain ⟨b68, o69, C70, E71, fz72, rfl, hF74, hE75⟩ := Qd hss42_3 hx65'
   have hc77 := hE75 _ _ hx65'
   refine Ix hi66 ?_
   refine Vs 1 ?_
   refine Lx 2 (hs44.pers _ _ hF74) hc77 ?_
   refine V 21 213 (L0 (mt := 198) (k := 9) (vt := 3) (m := (.tmp 13)) (x := (.tmp 20)) (kv := (.string ⟨(x64.text_).toArray⟩)) (kx := x64.text_) (z := (vi 0)) (zx := 0) (K := EH) (T := A4) kl9 rfl rfl ⟨_, rfl, rfl⟩ (by kernel_rfl) (by kernel_rfl) ⟨_, rfl, rfl⟩ (MpA.mpw hs44.pers (MpA.mono hm2_0 (le31.trans le45))) (fun h => by obtain ⟨_, rfl, rfl⟩ := h; rfl)) ?_
   refine Vs 5 ?_
   refine Nss ?_
   refine Sq (Rg [0, 1, 2, 3, 4, 5, 6, 7, 8, 9, 10, 11, 12, 13] ?_)
   obtain ⟨j81, hj90, h91⟩ := bind_some h67
   refine P8 (fun f w => ∃ (F4 : Mem) (aj81_1 : Qp) (nj81_1 : Nat), HS wb Fb w F4 ((sb b34 #[(vi s42.1), (vi s42.2.1), (.slice as42_2 s42.2.2.1.length ns42_2)] 33) :: (sb bp0 #[(.slice aj81_1 j81.2.1.length nj81_1), (vi j81.2.2)] 100) :: (sb b21 #[(vi 0), (vi 0), (.slice none ([] : List Expr).length 0)] 33) :: Lf) /\ P2 F2 F4 /\ FI f [] [(0, (pt bp0 0)), (1, (.func (.func gx1) fx1.toArray kx1.toArray)), (2, (.map o2_0)), (6, (pt b21 0)), (7, (pt b34 0)), (8, (vi (IA x2 x64.text_ 0))), (37, (.bool j81.1))] /\ LC j81.2.1.length nj81_1 /\ SlA Ae F4 aj81_1 j81.2.1) ?_ ?_
   ·refine Vs 3 ?_
    refine Sp hj90 (fun hb92 h93 => ?_) (fun hb92 h94 => ?_)
    ·refine Ss hb92 10 ?_
     refine Pk1 hb92 ?_
     obtain rfl := Ab h93
     exact PX ⟨rfl, F2, (some ⟨b68, o69, none⟩), ns42_3, hs44, (P3 _), fI, hbs42_3, hss42_3⟩
    ·refine Vgs hb92 4 ?_
     refine Lg hb92 hs44.at1 ?_
     obtain ⟨x95, hx96, h98⟩ := bind_some h94
     obtain ⟨hi97, hx96'⟩ := Aw hx96
     have hc100 := hE75 _ _ hx96'
     refine Ixg hb92 hi97 ?_
     refine Vgs hb92 1 ?_
     refine Lxg hb92 2 (hs44.pers _ _ hF74) hc100 ?_
     obtain ⟨r101, hr102, h103⟩ := bind_some h98
     refine RWP.callB (dst := (some 35)) (ty := 4) (g := (some (2, false))) (by kernel_rfl) (LH (d := 26) (by kernel_rfl) rfl hb92) (f0 := (.func 80)) (aos := #[(.tmp 27), (.tmp 34)]) (ats := #[95, 9]) (fid := 80) (first := #[]) (cap := #[]) (args := [(pt bp0 0), (.string ⟨(x95.text_).toArray⟩)]) rfl AD rfl (AE N bp0 (({ l_ := s42.2.2.2.1, open_ := s42.2.2.2.2 } : Aa)) (some ⟨b68, o69, none⟩) ns42_3 hbs42_3 hss42_3 x95.text_ hs44.pk2.pk1.pk2 _ hr102) ?_
     rintro _ F5 w104 _ hs105 le106 ⟨ar101_0_0, nr101_0_0, rfl, rfl, hbr101_0_0, hsr101_0_0⟩
     refine Vgs hb92 1 ?_
     refine Pk0 hb92 ?_
     obtain rfl := Ab h103
     exact PX ⟨rfl, F5, ar101_0_0, nr101_0_0, hs105.pk2.pk1.pk2, le106, fI, hbr101_0_0, hsr101_0_0⟩
   ·rintro f w78 ⟨F4, aj81_1, nj81_1, hs79, le80, ⟨_, rfl⟩, hbj81_1, hsj81_1⟩
    refine Ac ?_
    refine Cd h91 (fun hb108 h109 => ?_) (fun hb108 h110 => ?_)
    ·refine Sq (Rg [0, 1] ?_)
     refine Ld hs79.at0 ?_
     refine St2 #[(vi s42.1), (vi s42.2.1), (.slice as42_2 s42.2.2.1.length ns42_2)] hs79 (fun w111 hs112 => ?_)
     refine Nt ?_
     refine Rt ?_
     refine Af ?_
     refine Ai ?_
     refine Af ?_
     refine Ai ?_
     have hret := B2 h109 hnx63
     subst hret
     refine .inr ?_
     obtain rfl := Ab h41
     exact ⟨rfl, (.agg #[(vi s42.1), (vi s42.2.1), (.slice as42_2 s42.2.2.1.length ns42_2)]), Ay (l := [.cell 6 33]) (by kernel_rfl) (vs := [(.agg #[(vi s42.1), (vi s42.2.1), (.slice as42_2 s42.2.2.1.length ns42_2)])]) ⟨b21, 0, rfl, Aj (t := 33) (g := true) (s := 3) (by kernel_rfl) hs112.at2 rfl (by decide), trivial⟩, .inl ⟨_, F4, _, _, rfl, rfl, hs112.dr0.dr1, ((le31.trans le45).trans le80), ⟨aj81_1, nj81_1, as42_2, ns42_2, rfl, rfl, hbj81_1, hsj81_1, hbs42_2, (P5 hss42_2 le80)⟩⟩⟩
    ·refine Sc ?_
     refine Ac ?_
     obtain ⟨j119, hj126, h127⟩ := bind_some h110
     refine RDP 6 7 [(sb b21 #[(vi 0), (vi 0), (.slice none ([] : List Expr).length 0)] 33)] [(sb b34 #[(vi s42.1), (vi s42.2.1), (.slice as42_2 s42.2.2.1.length ns42_2)] 33)] hs79 (fun c d w => d = [] /\ ∃ (b : Ah) (Fp : Mem), j119 = .inl b /\ c = [{ v := (.iface 158 (.agg (AF b))), recovered := false }] /\ HS wb Fb w Fp Lf /\ P2 F4 Fp) (fun f w => ∃ (J128 : (List Ap × Int × Int × Int × List Expr)), j119 = .inr J128 /\ ∃ (F6 : Mem) (aj119_0 : Qp) (nj119_0 : Nat) (aj119_4 : Qp) (nj119_4 : Nat) (ej119_4 : Option Nat × Obj), HS wb Fb w F6 (ej119_4 :: (sb b34 #[(vi J128.2.2.1), (vi J128.2.2.2.1), (.slice aj119_4 J128.2.2.2.2.length nj119_4)] 33) :: (sb bp0 #[(.slice aj119_0 J128.1.length nj119_0), (vi J128.2.1)] 100) :: (sb b21 #[(vi 0), (vi 0), (.slice none ([] : List Expr).length 0)] 33) :: Lf) /\ P2 F4 F6 /\ FI f [] [(0, (pt bp0 0)), (1, (.func (.func gx1) fx1.toArray kx1.toArray)), (2, (.map o2_0)), (6, (pt b21 0)), (7, (pt b34 0))] /\ LC J128.1.length nj119_0 /\ SlA Ae F6 aj119_0 J128.1 /\ Aq Ao 33 F6 aj119_4 nj119_4 J128.2.2.2.2 ej119_4) (fun wd113 hw114 => ?_) ?_ ?_
     ·refine Dv [0] ?_
      refine Dl 1 (fun _ hq => ((hq.2 rfl).2 0 _ _ rfl)) ?_
      refine Dv [2] ?_
      refine D1 3 ?_
      obtain ⟨r129, hr130, h131⟩ := bind_some hj126
      refine Ax.callBP (l' := [true, true, true, true, false, false, false]) (zd := false) (by kernel_rfl) (by kernel_rfl) (Lf := (sb b34 #[(vi s42.1), (vi s42.2.1), (.slice as42_2 s42.2.2.1.length ns42_2)] 33) :: (sb b21 #[(vi 0), (vi 0), (.slice none ([] : List Expr).length 0)] 33) :: Lf) (dst := (some 42)) (ty := 33) (g := none) (by kernel_rfl) rfl (f0 := (.tmp 41)) (aos := #[]) (ats := #[]) (fid := gx1) (first := fx1.toArray) (cap := kx1.toArray) (args := (fx1 ++ (([] : List Value) ++ kx1))) rfl hox1 (Np (l := []) (fi := fx1) (k := kx1) rfl) (hpx1 (hG.mono ((le31.trans le45).trans le80)) (({ l_ := j81.2.1, open_ := j81.2.2 } : Aa)) aj81_1 nj81_1 hbj81_1 hsj81_1 hw114.pk2.pk1.pk2 _ hr130) ?_ ?_
      ·rintro r132 _ F7 w134 _ rfl hs135 le136 ⟨ar132_0_0, nr132_0_0, ar132_1_2, nr132_1_2, rfl, rfl, hbr132_0_0, hsr132_0_0, hbr132_1_2, hsr132_1_2⟩
       have h138 := BD h131
       refine ⟨Bo hs135 le136 (by simp) (fun _ => by simp), ?_⟩
       refine D1 4 ?_
       refine DBs 33 [(vi s42.1), (vi s42.2.1), (.slice as42_2 s42.2.2.1.length ns42_2), (vi r132.2.Op), (vi r132.2.Value), (.slice ar132_1_2 r132.2.Kids.length nr132_1_2)] hs135 le136 (fun b139 w140 hs141 => ?_)
       have hr143 : Aq Ao 33 F7 (some ⟨b139, 0, none⟩) 2 [({ Op := s42.1, Value := s42.2.1, Kids := s42.2.2.1 } : Expr), r132.2] (some b139, .cells ([(vi s42.1), (vi s42.2.1), (.slice as42_2 s42.2.2.1.length ns42_2), (vi r132.2.Op), (vi r132.2.Value), (.slice ar132_1_2 r132.2.Kids.length nr132_1_2)] : List Value).toArray 33 (0, 0)) := Ql ⟨(AY ⟨as42_2, ns42_2, rfl, hbs42_2, (P5 hss42_2 (le80.trans le136))⟩), ⟨(AY ⟨ar132_1_2, nr132_1_2, rfl, hbr132_1_2, hsr132_1_2⟩), rfl⟩⟩ (by simp)
       refine Dv [5] ?_
       refine D1 6 ?_
       refine PT #[(vi (IA x2 x64.text_ 0)), (vi 0), (.slice (some ⟨b139, 0, none⟩) [({ Op := s42.1, Value := s42.2.1, Kids := s42.2.2.1 } : Expr), r132.2].length 2)] hs141 le136 (fun w144 hs145 => ?_)
       obtain rfl := Ab h138
       exact Qi (by kernel_rfl) ⟨_, rfl, F7, ar132_0_0, nr132_0_0, (some ⟨b139, 0, none⟩), 2, (some b139, .cells ([(vi s42.1), (vi s42.2.1), (.slice as42_2 s42.2.2.1.length ns42_2), (vi r132.2.Op), (vi r132.2.Value), (.slice ar132_1_2 r132.2.Kids.length nr132_1_2)] : List Value).toArray 33 (0, 0)), hs145.pk3.pk2.pk3.pk3, le136, fI, hbr132_0_0, hsr132_0_0, hr143⟩
      ·rintro b146 F8 w147 rfl hs148 le149
       have h150 := A9 h131
       obtain rfl := Ab h150
       exact ⟨rfl, _, _, rfl, rfl, hs148.dr0.dr0, le149⟩
     ·rintro f w115 ⟨J128, rfl, F6, aj119_0, nj119_0, aj119_4, nj119_4, ej119_4, hs116, le117, ⟨_, rfl⟩, hbj119_0, hsj119_0, hrj119_4⟩
      have h152 := BD h127
      refine Av ?_
      have hb156 := Qj hrj119_4
      obtain ⟨F9, hs153, le154, hs155⟩ := hs116.fr0 hrj119_4
      have hn157 := A0 h152 hnx63
      exact ⟨m60, Nat.lt_succ_self _, (J128.2.2.1, J128.2.2.2.1, J128.2.2.2.2, J128.1, J128.2.1), F9, aj119_4, nj119_4, aj119_0, nj119_0, hn157, hs153, (((le45.trans le80).trans le117).trans le154), fI, hb156, hs155, hbj119_0, (P5 hsj119_0 le154)⟩
     ·rintro c f w159 ⟨hd162, b158, F10, rfl, rfl, hs160, le161⟩
      have h163 := A9 h127
      refine AJ ?_
      refine Ak ?_
      refine AJ ?_
      have hret := B2 h163 hnx63
      subst hret
      refine .inr ?_
      obtain rfl := Ab h41
      exact ⟨hd162, .inr ⟨_, F10, rfl, rfl, hs160, (((le31.trans le45).trans le80).trans le161)⟩⟩
  ·rintro f w53 ⟨s52, F3, as52_3, ns52_3, rfl, hs54, le55, ⟨_, rfl⟩, hbs52_3, hss52_3⟩
   have h164 := Ca h41
   obtain rfl := Ab h164
   exact ⟨rfl, (.agg #[(vi 0), (vi 0), (.slice none ([] : List Expr).length 0)]), Ay (l := [.cell 6 33]) (by kernel_rfl) (vs := [(.agg #[(vi 0), (vi 0), (.slice none ([] : List Expr).length 0)])]) ⟨b21, 0, rfl, Aj (t := 33) (g := true) (s := 3) (by kernel_rfl) hs54.at1 rfl (by decide), trivial⟩, .inl ⟨_, F3, _, _, rfl, rfl, hs54.dr1, (le31.trans le55), ⟨as52_3, ns52_3, none, 0, rfl, rfl, hbs52_3, hss52_3, P6, (.inl rfl)⟩⟩⟩
 ·rintro b165 F11 w166 rfl hs167 le168
  have h169 := A9 h26
  refine Ak ?_
  obtain rfl := Ab h169
  exact B3 hs167.dr0 le168
def K5 (sR145 : Aa -> Option (Ah ⊕ (Aa × Expr))) : Prop := ∀ {wb w0 : World} {Fb F0 : Mem} {Lf : Own} (hG : Ce F0) (bp0 : Nat) (x0 : Aa) (a0_0 : Qp) (n0_0 : Nat) (hb0_0 : LC x0.l_.length n0_0) (hs0_0 : SlA Ae F0 a0_0 x0.l_) (hs0 : HS wb Fb w0 F0 ((some bp0, (.cells #[(.slice a0_0 x0.l_.length n0_0), (.int .i64 x0.open_)] 100 (0, 0))) :: Lf)) (r : (Ah ⊕ (Aa × Expr))), sR145 x0 = some r -> Calls Tryz.prog 145 ([(.pointer (some ⟨bp0, 0, none⟩))] : List Value).toArray w0 (Bq wb Fb F0 Lf r (fun b => (.iface 158 (.agg #[(.int .i64 b.e_), (.int .i64 b.at_)]))) fun a F' v L' => ∃ (aq0_0 : Qp) (nq0_0 : Nat) (aq1_2 : Qp) (nq1_2 : Nat), v = (.agg #[(.int .i64 a.2.Op), (.int .i64 a.2.Value), (.slice aq1_2 a.2.Kids.length nq1_2)]) /\ L' = (some bp0, (.cells #[(.slice aq0_0 a.1.l_.length nq0_0), (.int .i64 a.1.open_)] 100 (0, 0))) :: Lf /\ LC a.1.l_.length nq0_0 /\ SlA Ae F' aq0_0 a.1.l_ /\ LC a.2.Kids.length nq1_2 /\ SlA Ao F' aq1_2 a.2.Kids)
theorem Bp : An Tryz.prog 145 := fun _ _ => by kernel_rfl
def K2 (sR185 : Aa -> Option (Ah ⊕ (Aa × Expr))) : Prop := ∀ {wb w0 : World} {Fb F0 : Mem} {Lf : Own} (hG : Ce F0) (bp0 : Nat) (x0 : Aa) (a0_0 : Qp) (n0_0 : Nat) (hb0_0 : LC x0.l_.length n0_0) (hs0_0 : SlA Ae F0 a0_0 x0.l_) (hs0 : HS wb Fb w0 F0 ((some bp0, (.cells #[(.slice a0_0 x0.l_.length n0_0), (.int .i64 x0.open_)] 100 (0, 0))) :: Lf)) (r : (Ah ⊕ (Aa × Expr))), sR185 x0 = some r -> Calls Tryz.prog 185 ([(.pointer (some ⟨bp0, 0, none⟩))] : List Value).toArray w0 (Bq wb Fb F0 Lf r (fun b => (.iface 158 (.agg #[(.int .i64 b.e_), (.int .i64 b.at_)]))) fun a F' v L' => ∃ (aq0_0 : Qp) (nq0_0 : Nat) (aq1_2 : Qp) (nq1_2 : Nat), v = (.agg #[(.int .i64 a.2.Op), (.int .i64 a.2.Value), (.slice aq1_2 a.2.Kids.length nq1_2)]) /\ L' = (some bp0, (.cells #[(.slice aq0_0 a.1.l_.length nq0_0), (.int .i64 a.1.open_)] 100 (0, 0))) :: Lf /\ LC a.1.l_.length nq0_0 /\ SlA Ae F' aq0_0 a.1.l_ /\ LC a.2.Kids.length nq1_2 /\ SlA Ao F' aq1_2 a.2.Kids)
theorem FN : An Tryz.prog 185 := fun _ _ => by kernel_rfl
def Jd (sR212 : Aa -> Option (Ah ⊕ (Aa × Expr))) : Prop := ∀ {wb w0 : World} {Fb F0 : Mem} {Lf : Own} (hG : Ce F0) (bp0 : Nat) (x0 : Aa) (a0_0 : Qp) (n0_0 : Nat) (hb0_0 : LC x0.l_.length n0_0) (hs0_0 : SlA Ae F0 a0_0 x0.l_) (hs0 : HS wb Fb w0 F0 ((some bp0, (.cells #[(.slice a0_0 x0.l_.length n0_0), (.int .i64 x0.open_)] 100 (0, 0))) :: Lf)) (r : (Ah ⊕ (Aa × Expr))), sR212 x0 = some r -> Calls Tryz.prog 212 ([(.pointer (some ⟨bp0, 0, none⟩))] : List Value).toArray w0 (Bq wb Fb F0 Lf r (fun b => (.iface 158 (.agg #[(.int .i64 b.e_), (.int .i64 b.at_)]))) fun a F' v L' => ∃ (aq0_0 : Qp) (nq0_0 : Nat) (aq1_2 : Qp) (nq1_2 : Nat), v = (.agg #[(.int .i64 a.2.Op), (.int .i64 a.2.Value), (.slice aq1_2 a.2.Kids.length nq1_2)]) /\ L' = (some bp0, (.cells #[(.slice aq0_0 a.1.l_.length nq0_0), (.int .i64 a.1.open_)] 100 (0, 0))) :: Lf /\ LC a.1.l_.length nq0_0 /\ SlA Ae F' aq0_0 a.1.l_ /\ LC a.2.Kids.length nq1_2 /\ SlA Ao F' aq1_2 a.2.Kids)
theorem Dq : An Tryz.prog 212 := fun _ _ => by kernel_rfl
def K0 (sR226 : Aa -> Option (Ah ⊕ (Aa × Expr))) : Prop := ∀ {wb w0 : World} {Fb F0 : Mem} {Lf : Own} (hG : Ce F0) (bp0 : Nat) (x0 : Aa) (a0_0 : Qp) (n0_0 : Nat) (hb0_0 : LC x0.l_.length n0_0) (hs0_0 : SlA Ae F0 a0_0 x0.l_) (hs0 : HS wb Fb w0 F0 ((some bp0, (.cells #[(.slice a0_0 x0.l_.length n0_0), (.int .i64 x0.open_)] 100 (0, 0))) :: Lf)) (r : (Ah ⊕ (Aa × Expr))), sR226 x0 = some r -> Calls Tryz.prog 226 ([(.pointer (some ⟨bp0, 0, none⟩))] : List Value).toArray w0 (Bq wb Fb F0 Lf r (fun b => (.iface 158 (.agg #[(.int .i64 b.e_), (.int .i64 b.at_)]))) fun a F' v L' => ∃ (aq0_0 : Qp) (nq0_0 : Nat) (aq1_2 : Qp) (nq1_2 : Nat), v = (.agg #[(.int .i64 a.2.Op), (.int .i64 a.2.Value), (.slice aq1_2 a.2.Kids.length nq1_2)]) /\ L' = (some bp0, (.cells #[(.slice aq0_0 a.1.l_.length nq0_0), (.int .i64 a.1.open_)] 100 (0, 0))) :: Lf /\ LC a.1.l_.length nq0_0 /\ SlA Ae F' aq0_0 a.1.l_ /\ LC a.2.Kids.length nq1_2 /\ SlA Ao F' aq1_2 a.2.Kids)
theorem FJ : An Tryz.prog 226 := fun _ _ => by kernel_rfl
def KZ (sR233 : Aa -> Option (Ah ⊕ (Aa × Expr))) : Prop := ∀ {wb w0 : World} {Fb F0 : Mem} {Lf : Own} (hG : Ce F0) (bp0 : Nat) (x0 : Aa) (a0_0 : Qp) (n0_0 : Nat) (hb0_0 : LC x0.l_.length n0_0) (hs0_0 : SlA Ae F0 a0_0 x0.l_) (hs0 : HS wb Fb w0 F0 ((some bp0, (.cells #[(.slice a0_0 x0.l_.length n0_0), (.int .i64 x0.open_)] 100 (0, 0))) :: Lf)) (r : (Ah ⊕ (Aa × Expr))), sR233 x0 = some r -> Calls Tryz.prog 233 ([(.pointer (some ⟨bp0, 0, none⟩))] : List Value).toArray w0 (Bq wb Fb F0 Lf r (fun b => (.iface 158 (.agg #[(.int .i64 b.e_), (.int .i64 b.at_)]))) fun a F' v L' => ∃ (aq0_0 : Qp) (nq0_0 : Nat) (aq1_2 : Qp) (nq1_2 : Nat), v = (.agg #[(.int .i64 a.2.Op), (.int .i64 a.2.Value), (.slice aq1_2 a.2.Kids.length nq1_2)]) /\ L' = (some bp0, (.cells #[(.slice aq0_0 a.1.l_.length nq0_0), (.int .i64 a.1.open_)] 100 (0, 0))) :: Lf /\ LC a.1.l_.length nq0_0 /\ SlA Ae F' aq0_0 a.1.l_ /\ LC a.2.Kids.length nq1_2 /\ SlA Ao F' aq1_2 a.2.Kids)
theorem BA : An Tryz.prog 233 := fun _ _ => by kernel_rfl
def KY (sR239 : Aa -> Option (Ah ⊕ (Aa × Expr))) : Prop := ∀ {wb w0 : World} {Fb F0 : Mem} {Lf : Own} (hG : Ce F0) (bp0 : Nat) (x0 : Aa) (a0_0 : Qp) (n0_0 : Nat) (hb0_0 : LC x0.l_.length n0_0) (hs0_0 : SlA Ae F0 a0_0 x0.l_) (hs0 : HS wb Fb w0 F0 ((some bp0, (.cells #[(.slice a0_0 x0.l_.length n0_0), (.int .i64 x0.open_)] 100 (0, 0))) :: Lf)) (r : (Ah ⊕ (Aa × Expr))), sR239 x0 = some r -> Calls Tryz.prog 239 ([(.pointer (some ⟨bp0, 0, none⟩))] : List Value).toArray w0 (Bq wb Fb F0 Lf r (fun b => (.iface 158 (.agg #[(.int .i64 b.e_), (.int .i64 b.at_)]))) fun a F' v L' => ∃ (aq0_0 : Qp) (nq0_0 : Nat) (aq1_2 : Qp) (nq1_2 : Nat), v = (.agg #[(.int .i64 a.2.Op), (.int .i64 a.2.Value), (.slice aq1_2 a.2.Kids.length nq1_2)]) /\ L' = (some bp0, (.cells #[(.slice aq0_0 a.1.l_.length nq0_0), (.int .i64 a.1.open_)] 100 (0, 0))) :: Lf /\ LC a.1.l_.length nq0_0 /\ SlA Ae F' aq0_0 a.1.l_ /\ LC a.2.Kids.length nq1_2 /\ SlA Ao F' aq1_2 a.2.Kids)
theorem FK : An Tryz.prog 239 := fun _ _ => by kernel_rfl
def KX (sR243 : Aa -> Option (Ah ⊕ (Aa × Expr))) : Prop := ∀ {wb w0 : World} {Fb F0 : Mem} {Lf : Own} (hG : Ce F0) (bp0 : Nat) (x0 : Aa) (a0_0 : Qp) (n0_0 : Nat) (hb0_0 : LC x0.l_.length n0_0) (hs0_0 : SlA Ae F0 a0_0 x0.l_) (hs0 : HS wb Fb w0 F0 ((some bp0, (.cells #[(.slice a0_0 x0.l_.length n0_0), (.int .i64 x0.open_)] 100 (0, 0))) :: Lf)) (r : (Ah ⊕ (Aa × Expr))), sR243 x0 = some r -> Calls Tryz.prog 243 ([(.pointer (some ⟨bp0, 0, none⟩))] : List Value).toArray w0 (Bq wb Fb F0 Lf r (fun b => (.iface 158 (.agg #[(.int .i64 b.e_), (.int .i64 b.at_)]))) fun a F' v L' => ∃ (aq0_0 : Qp) (nq0_0 : Nat) (aq1_2 : Qp) (nq1_2 : Nat), v = (.agg #[(.int .i64 a.2.Op), (.int .i64 a.2.Value), (.slice aq1_2 a.2.Kids.length nq1_2)]) /\ L' = (some bp0, (.cells #[(.slice aq0_0 a.1.l_.length nq0_0), (.int .i64 a.1.open_)] 100 (0, 0))) :: Lf /\ LC a.1.l_.length nq0_0 /\ SlA Ae F' aq0_0 a.1.l_ /\ LC a.2.Kids.length nq1_2 /\ SlA Ao F' aq1_2 a.2.Kids)
theorem FM : An Tryz.prog 243 := fun _ _ => by kernel_rfl
def DI (N : Nat) (sR185 : Aa -> Option (Ah ⊕ (Aa × Expr))) (x0 : Aa) : Option (Ah ⊕ (Aa × Expr)) :=
 ((Be N x0 (fun y => sR185 y) (D9 ([] : List (Qo × Int)) ([111, 114] : Qo) 5)).bind fun r37 => sk r37 (fun b49 => some (.inl b49)) (fun r40 => some (.inr (r40.1, r40.2))))
theorem FZ (N : Nat) (sR185 : Aa -> Option (Ah ⊕ (Aa × Expr))) (hsR185 : K2 sR185) {wb w0 : World} {Fb F0 : Mem} {Lf : Own} (hG : Ce F0) (bp0 : Nat) (x0 : Aa) (a0_0 : Qp) (n0_0 : Nat) (hb0_0 : LC x0.l_.length n0_0) (hs0_0 : SlA Ae F0 a0_0 x0.l_) (hs0 : HS wb Fb w0 F0 ((sb bp0 (Ad x0 a0_0 n0_0) 100) :: Lf)) (r : (Ah ⊕ (Aa × Expr))) (h : DI N sR185 x0 = some r) :
  Calls Tryz.prog 145 ([(pt bp0 0)] : List Value).toArray w0 (Bq wb Fb F0 Lf r (fun b => (.iface 158 (.agg (AF b)))) fun a F' v L' => ∃ (aq0_0 : Qp) (nq0_0 : Nat) (aq1_2 : Qp) (nq1_2 : Nat), v = (.agg (Ag a.2 aq1_2 nq1_2)) /\ L' = (sb bp0 (Ad a.1 aq0_0 nq0_0) 100) :: Lf /\ LC a.1.l_.length nq0_0 /\ SlA Ae F' aq0_0 a.1.l_ /\ LC a.2.Kids.length nq1_2 /\ SlA Ao F' aq1_2 a.2.Kids) := by
 refine Go 9 Tryz.func145 ?_
 refine Sq (Rg [0] ?_)
 refine Al' 33 #[(vi 0), (vi 0), (.slice none ([] : List Expr).length 0)] hs0 (fun b21 w22 hs23 => ?_)
 refine Nss (Rg [0, 1, 2, 3, 4, 5, 6, 7] ?_)
 refine Vs 3 ?_
 refine RWP.makeMap (t := 198) (K := EH) (T := A4) (dst := (some 6)) (ty := 198) (g := none) (by kernel_rfl) rfl hs23 (fun b25 e26 w27 (hs28 : HS wb Fb w27 F0 (e26 :: (sb b21 #[(vi 0), (vi 0), (.slice none ([] : List Expr).length 0)] 33) :: (sb bp0 (Ad x0 a0_0 n0_0) 100) :: Lf)) hr29 => ?_)
 refine RWP.mapIns kl9 (ty := 0) (g := none) (mt := 198) (k := 9) (vt := 3) (m := (.tmp 6)) (x := (.const (.string ⟨([111, 114] : Qo).toArray⟩))) (y := (.const (vi 5))) (b := b25) (kx := ([111, 114] : Qo)) (u := 5) (kv := (.string ⟨(([111, 114] : Qo)).toArray⟩)) (v := (vi 5)) (K := EH) (T := A4) (by kernel_rfl) rfl rfl rfl rfl ⟨_, rfl, rfl⟩ ⟨_, rfl, rfl⟩ (by kernel_rfl) hs28 (q := 0) rfl hr29 (fun e30 w31 (hs32 : HS wb Fb w31 F0 (e30 :: (sb b21 #[(vi 0), (vi 0), (.slice none ([] : List Expr).length 0)] 33) :: (sb bp0 (Ad x0 a0_0 n0_0) 100) :: Lf)) hr33 => ?_)
 refine Vs 1 ?_
 obtain ⟨F1, hs34, le35, hm36⟩ : ∃ Fq, HS wb Fb w31 Fq ((sb b21 #[(vi 0), (vi 0), (.slice none ([] : List Expr).length 0)] 33) :: (sb bp0 (Ad x0 a0_0 n0_0) 100) :: Lf) /\ P2 F0 Fq /\ MpA EH A4 Fq (some b25) (D9 ([] : List (Qo × Int)) ([111, 114] : Qo) 5) := HS.freezeMap hs32 (i := 0) rfl hr33
 obtain ⟨r37, hr38, h39⟩ := bind_some h
 refine CP Bi (Bt N (hG.mono le35) bp0 x0 a0_0 n0_0 hb0_0 (P5 hs0_0 le35) 185 [(pt bp0 0)] ([] : List Value) (fun y => sR185 y) FN (fun {_ _ _ _ _} hGe y ay_0 ny_0 hby_0 hsy_0 hs r h => hsR185 hGe bp0 y ay_0 ny_0 hby_0 hsy_0 hs r h) ((D9 ([] : List (Qo × Int)) ([111, 114] : Qo) 5)) (some b25) hm36 hs34.pk1 _ hr38) ?_ ?_
 ·rintro r40 _ F2 w42 _ rfl hs43 le44 ⟨ar40_0_0, nr40_0_0, ar40_1_2, nr40_1_2, rfl, rfl, hbr40_0_0, hsr40_0_0, hbr40_1_2, hsr40_1_2⟩
  have h46 := BD h39
  refine St1 (Ag r40.2 ar40_1_2 nr40_1_2) hs43 (fun w47 hs48 => ?_)
  refine Nt ?_
  refine Rt ?_
  obtain rfl := Ab h46
  exact ⟨rfl, (.agg (Ag r40.2 ar40_1_2 nr40_1_2)), Ay (l := [.cell 2 33]) (by kernel_rfl) (vs := [(.agg (Ag r40.2 ar40_1_2 nr40_1_2))]) ⟨b21, 0, rfl, Aj (t := 33) (g := true) (s := 3) (by kernel_rfl) hs48.at1 rfl (by decide), trivial⟩, .inl ⟨_, F2, _, _, rfl, rfl, hs48.dr1, (le35.trans le44), ⟨ar40_0_0, nr40_0_0, ar40_1_2, nr40_1_2, rfl, rfl, hbr40_0_0, hsr40_0_0, hbr40_1_2, hsr40_1_2⟩⟩⟩
 ·rintro b49 F3 w50 rfl hs51 le52
  have h53 := A9 h39
  refine Ak ?_
  obtain rfl := Ab h53
  exact B3 hs51.dr0 (le35.trans le52)
def DK (N : Nat) (sR212 : Aa -> Option (Ah ⊕ (Aa × Expr))) (x0 : Aa) : Option (Ah ⊕ (Aa × Expr)) :=
 ((Be N x0 (fun y => sR212 y) (D9 ([] : List (Qo × Int)) ([97, 110, 100] : Qo) 4)).bind fun r37 => sk r37 (fun b49 => some (.inl b49)) (fun r40 => some (.inr (r40.1, r40.2))))
theorem Gb (N : Nat) (sR212 : Aa -> Option (Ah ⊕ (Aa × Expr))) (hsR212 : Jd sR212) {wb w0 : World} {Fb F0 : Mem} {Lf : Own} (hG : Ce F0) (bp0 : Nat) (x0 : Aa) (a0_0 : Qp) (n0_0 : Nat) (hb0_0 : LC x0.l_.length n0_0) (hs0_0 : SlA Ae F0 a0_0 x0.l_) (hs0 : HS wb Fb w0 F0 ((sb bp0 (Ad x0 a0_0 n0_0) 100) :: Lf)) (r : (Ah ⊕ (Aa × Expr))) (h : DK N sR212 x0 = some r) :
  Calls Tryz.prog 185 ([(pt bp0 0)] : List Value).toArray w0 (Bq wb Fb F0 Lf r (fun b => (.iface 158 (.agg (AF b)))) fun a F' v L' => ∃ (aq0_0 : Qp) (nq0_0 : Nat) (aq1_2 : Qp) (nq1_2 : Nat), v = (.agg (Ag a.2 aq1_2 nq1_2)) /\ L' = (sb bp0 (Ad a.1 aq0_0 nq0_0) 100) :: Lf /\ LC a.1.l_.length nq0_0 /\ SlA Ae F' aq0_0 a.1.l_ /\ LC a.2.Kids.length nq1_2 /\ SlA Ao F' aq1_2 a.2.Kids) := by
 refine Go 9 Tryz.func185 ?_
 refine Sq (Rg [0] ?_)
 refine Al' 33 #[(vi 0), (vi 0), (.slice none ([] : List Expr).length 0)] hs0 (fun b21 w22 hs23 => ?_)
 refine Nss (Rg [0, 1, 2, 3, 4, 5, 6, 7] ?_)
 refine Vs 3 ?_
 refine RWP.makeMap (t := 198) (K := EH) (T := A4) (dst := (some 6)) (ty := 198) (g := none) (by kernel_rfl) rfl hs23 (fun b25 e26 w27 (hs28 : HS wb Fb w27 F0 (e26 :: (sb b21 #[(vi 0), (vi 0), (.slice none ([] : List Expr).length 0)] 33) :: (sb bp0 (Ad x0 a0_0 n0_0) 100) :: Lf)) hr29 => ?_)
 refine RWP.mapIns kl9 (ty := 0) (g := none) (mt := 198) (k := 9) (vt := 3) (m := (.tmp 6)) (x := (.const (.string ⟨([97, 110, 100] : Qo).toArray⟩))) (y := (.const (vi 4))) (b := b25) (kx := ([97, 110, 100] : Qo)) (u := 4) (kv := (.string ⟨(([97, 110, 100] : Qo)).toArray⟩)) (v := (vi 4)) (K := EH) (T := A4) (by kernel_rfl) rfl rfl rfl rfl ⟨_, rfl, rfl⟩ ⟨_, rfl, rfl⟩ (by kernel_rfl) hs28 (q := 0) rfl hr29 (fun e30 w31 (hs32 : HS wb Fb w31 F0 (e30 :: (sb b21 #[(vi 0), (vi 0), (.slice none ([] : List Expr).length 0)] 33) :: (sb bp0 (Ad x0 a0_0 n0_0) 100) :: Lf)) hr33 => ?_)
 refine Vs 1 ?_
 obtain ⟨F1, hs34, le35, hm36⟩ : ∃ Fq, HS wb Fb w31 Fq ((sb b21 #[(vi 0), (vi 0), (.slice none ([] : List Expr).length 0)] 33) :: (sb bp0 (Ad x0 a0_0 n0_0) 100) :: Lf) /\ P2 F0 Fq /\ MpA EH A4 Fq (some b25) (D9 ([] : List (Qo × Int)) ([97, 110, 100] : Qo) 4) := HS.freezeMap hs32 (i := 0) rfl hr33
 obtain ⟨r37, hr38, h39⟩ := bind_some h
 refine CP Bi (Bt N (hG.mono le35) bp0 x0 a0_0 n0_0 hb0_0 (P5 hs0_0 le35) 212 [(pt bp0 0)] ([] : List Value) (fun y => sR212 y) Dq (fun {_ _ _ _ _} hGe y ay_0 ny_0 hby_0 hsy_0 hs r h => hsR212 hGe bp0 y ay_0 ny_0 hby_0 hsy_0 hs r h) ((D9 ([] : List (Qo × Int)) ([97, 110, 100] : Qo) 4)) (some b25) hm36 hs34.pk1 _ hr38) ?_ ?_
 ·rintro r40 _ F2 w42 _ rfl hs43 le44 ⟨ar40_0_0, nr40_0_0, ar40_1_2, nr40_1_2, rfl, rfl, hbr40_0_0, hsr40_0_0, hbr40_1_2, hsr40_1_2⟩
  have h46 := BD h39
  refine St1 (Ag r40.2 ar40_1_2 nr40_1_2) hs43 (fun w47 hs48 => ?_)
  refine Nt ?_
  refine Rt ?_
  obtain rfl := Ab h46
  exact ⟨rfl, (.agg (Ag r40.2 ar40_1_2 nr40_1_2)), Ay (l := [.cell 2 33]) (by kernel_rfl) (vs := [(.agg (Ag r40.2 ar40_1_2 nr40_1_2))]) ⟨b21, 0, rfl, Aj (t := 33) (g := true) (s := 3) (by kernel_rfl) hs48.at1 rfl (by decide), trivial⟩, .inl ⟨_, F2, _, _, rfl, rfl, hs48.dr1, (le35.trans le44), ⟨ar40_0_0, nr40_0_0, ar40_1_2, nr40_1_2, rfl, rfl, hbr40_0_0, hsr40_0_0, hbr40_1_2, hsr40_1_2⟩⟩⟩
 ·rintro b49 F3 w50 rfl hs51 le52
  have h53 := A9 h39
  refine Ak ?_
  obtain rfl := Ab h53
  exact B3 hs51.dr0 (le35.trans le52)
def DJ (N : Nat) (sR212 : Aa -> Option (Ah ⊕ (Aa × Expr))) (sR226 : Aa -> Option (Ah ⊕ (Aa × Expr))) (x0 : Aa) : Option (Ah ⊕ (Aa × Expr)) :=
 ((Ar N x0 ([110, 111, 116] : Qo)).bind fun r24 => (bif r24.2 then ((sR212 r24.1).bind fun r34 => sk r34 (fun b55 => some (.inl b55)) (fun r37 => some (.inr (r37.1, ({ Op := 3, Value := 0, Kids := [r37.2] } : Expr))))) else ((sR226 r24.1).bind fun r61 => sk r61 (fun b73 => some (.inl b73)) (fun r64 => some (.inr (r64.1, r64.2))))))
theorem Ga (N : Nat) (sR212 : Aa -> Option (Ah ⊕ (Aa × Expr))) (hsR212 : Jd sR212) (sR226 : Aa -> Option (Ah ⊕ (Aa × Expr))) (hsR226 : K0 sR226) {wb w0 : World} {Fb F0 : Mem} {Lf : Own} (hG : Ce F0) (bp0 : Nat) (x0 : Aa) (a0_0 : Qp) (n0_0 : Nat) (hb0_0 : LC x0.l_.length n0_0) (hs0_0 : SlA Ae F0 a0_0 x0.l_) (hs0 : HS wb Fb w0 F0 ((sb bp0 (Ad x0 a0_0 n0_0) 100) :: Lf)) (r : (Ah ⊕ (Aa × Expr))) (h : DJ N sR212 sR226 x0 = some r) :
  Calls Tryz.prog 212 ([(pt bp0 0)] : List Value).toArray w0 (Bq wb Fb F0 Lf r (fun b => (.iface 158 (.agg (AF b)))) fun a F' v L' => ∃ (aq0_0 : Qp) (nq0_0 : Nat) (aq1_2 : Qp) (nq1_2 : Nat), v = (.agg (Ag a.2 aq1_2 nq1_2)) /\ L' = (sb bp0 (Ad a.1 aq0_0 nq0_0) 100) :: Lf /\ LC a.1.l_.length nq0_0 /\ SlA Ae F' aq0_0 a.1.l_ /\ LC a.2.Kids.length nq1_2 /\ SlA Ao F' aq1_2 a.2.Kids) := by
 refine Go 11 Tryz.func212 ?_
 refine Sq (Rg [0] ?_)
 refine Al' 33 #[(vi 0), (vi 0), (.slice none ([] : List Expr).length 0)] hs0 (fun b21 w22 hs23 => ?_)
 refine Nss ?_
 refine Sq (Rg [0, 1] ?_)
 refine Vs 1 ?_
 obtain ⟨r24, hr25, h26⟩ := bind_some h
 refine CB AD (AE N bp0 x0 a0_0 n0_0 hb0_0 hs0_0 (([110, 111, 116] : Qo)) hs23.pk1 _ hr25) ?_
 rintro _ F1 w27 _ hs28 le29 ⟨ar24_0_0, nr24_0_0, rfl, rfl, hbr24_0_0, hsr24_0_0⟩
 refine Nt ?_
 refine Cd h26 (fun hb31 h32 => ?_) (fun hb31 h33 => ?_)
 ·refine Sq (Rg [0, 1, 2, 3, 4] ?_)
  refine Vs 1 ?_
  obtain ⟨r34, hr35, h36⟩ := bind_some h32
  refine CP Dq (hsR212 (hG.mono le29) bp0 r24.1 ar24_0_0 nr24_0_0 hbr24_0_0 hsr24_0_0 hs28 _ hr35) ?_ ?_
  ·rintro r37 _ F2 w39 _ rfl hs40 le41 ⟨ar37_0_0, nr37_0_0, ar37_1_2, nr37_1_2, rfl, rfl, hbr37_0_0, hsr37_0_0, hbr37_1_2, hsr37_1_2⟩
   have h43 := BD h36
   refine Bs 33 [(vi r37.2.Op), (vi r37.2.Value), (.slice ar37_1_2 r37.2.Kids.length nr37_1_2)] hs40 (fun b44 w45 hs46 => ?_)
   have hr48 : Aq Ao 33 F2 (some ⟨b44, 0, none⟩) 1 [r37.2] (some b44, .cells ([(vi r37.2.Op), (vi r37.2.Value), (.slice ar37_1_2 r37.2.Kids.length nr37_1_2)] : List Value).toArray 33 (0, 0)) := Ql ⟨(AY ⟨ar37_1_2, nr37_1_2, rfl, hbr37_1_2, hsr37_1_2⟩), rfl⟩ (by simp)
   refine Vs 1 ?_
   refine St2 #[(vi 3), (vi 0), (.slice (some ⟨b44, 0, none⟩) [r37.2].length 1)] hs46 (fun w49 hs50 => ?_)
   refine Nt ?_
   refine Rt ?_
   refine Af ?_
   have hb54 := Qj hr48
   obtain ⟨F3, hs51, le52, hs53⟩ := hs50.fr0 hr48
   obtain rfl := Ab h43
   exact ⟨rfl, (.agg #[(vi 3), (vi 0), (.slice (some ⟨b44, 0, none⟩) [r37.2].length 1)]), Ay (l := [.cell 2 33]) (by kernel_rfl) (vs := [(.agg #[(vi 3), (vi 0), (.slice (some ⟨b44, 0, none⟩) [r37.2].length 1)])]) ⟨b21, 0, rfl, Aj (t := 33) (g := true) (s := 3) (by kernel_rfl) hs51.at1 rfl (by decide), trivial⟩, .inl ⟨_, F3, _, _, rfl, rfl, hs51.dr1, ((le29.trans le41).trans le52), ⟨ar37_0_0, nr37_0_0, (some ⟨b44, 0, none⟩), 1, rfl, rfl, hbr37_0_0, (P5 hsr37_0_0 le52), hb54, hs53⟩⟩⟩
  ·rintro b55 F4 w56 rfl hs57 le58
   have h59 := A9 h36
   refine Ak ?_
   refine Ak ?_
   obtain rfl := Ab h59
   exact B3 hs57.dr0 (le29.trans le58)
 ·refine Sc ?_
  refine Ac ?_
  refine Sq (Rg [0, 1, 2] ?_)
  refine Vs 1 ?_
  obtain ⟨r61, hr62, h63⟩ := bind_some h33
  refine CP FJ (hsR226 (hG.mono le29) bp0 r24.1 ar24_0_0 nr24_0_0 hbr24_0_0 hsr24_0_0 hs28 _ hr62) ?_ ?_
  ·rintro r64 _ F5 w66 _ rfl hs67 le68 ⟨ar64_0_0, nr64_0_0, ar64_1_2, nr64_1_2, rfl, rfl, hbr64_0_0, hsr64_0_0, hbr64_1_2, hsr64_1_2⟩
   have h70 := BD h63
   refine St1 (Ag r64.2 ar64_1_2 nr64_1_2) hs67 (fun w71 hs72 => ?_)
   refine Nt ?_
   refine Rt ?_
   obtain rfl := Ab h70
   exact ⟨rfl, (.agg (Ag r64.2 ar64_1_2 nr64_1_2)), Ay (l := [.cell 2 33]) (by kernel_rfl) (vs := [(.agg (Ag r64.2 ar64_1_2 nr64_1_2))]) ⟨b21, 0, rfl, Aj (t := 33) (g := true) (s := 3) (by kernel_rfl) hs72.at1 rfl (by decide), trivial⟩, .inl ⟨_, F5, _, _, rfl, rfl, hs72.dr1, (le29.trans le68), ⟨ar64_0_0, nr64_0_0, ar64_1_2, nr64_1_2, rfl, rfl, hbr64_0_0, hsr64_0_0, hbr64_1_2, hsr64_1_2⟩⟩⟩
  ·rintro b73 F6 w74 rfl hs75 le76
   have h77 := A9 h63
   refine Ak ?_
   obtain rfl := Ab h77
   exact B3 hs75.dr0 (le29.trans le76)
theorem JT {N : Nat} {p q : Aa} {t : Qo} (h : Ar N p t = some (q, false)) : q = p := by
 unfold Ar at h
 cases hp : AL N p t with
 | none => rw [hp] at h; cases h
 | some b =>
  rw [hp] at h
  cases b with
  | false => simp at h; exact h.symm
  | true =>
   simp only [Option.bind_some, Bool.not_true, cond_false] at h
   cases hs : sub p.l_ 1 (p.l_.length : Int) with
   | none => rw [hs] at h; cases h
   | some l => rw [hs] at h; simp at h
theorem Nd {N : Nat} {p : Aa} {t : Qo} (h : AL N p t = some true) : ∃ x, idx p.l_ 0 = some x /\ x.text_ = t := by
 unfold AL at h
 cases hi : idx p.l_ 0 with
 | none => rw [hi] at h; cases h
 | some x =>
  rw [hi] at h
  refine ⟨x, rfl, ?_⟩
  simp only [Option.bind_some] at h
  cases h2 : (x.kind_ == 2) <;> cases h3 : (x.kind_ == 3) <;> rw [h2] at h <;> try rw [h3] at h
  all_goals simp at h
  all_goals exact h
theorem Mb {N : Nat} {p : Aa} {s t : Qo} (h : AL N p s = some true) (hne : s ≠ t) : AL N p t = some false := by
 obtain ⟨x, hx, hs⟩ := Nd h
 unfold AL at h ⊢
 rw [hx] at h ⊢
 simp only [Option.bind_some] at h ⊢
 have hne' : (x.text_ == t) = false := by rw [hs]; simpa using hne
 rw [hne']
 cases h2 : (x.kind_ == 2) <;> cases h3 : (x.kind_ == 3) <;> simp
theorem KV {N : Nat} {p q : Aa} {s t : Qo} (h : Ar N p s = some (q, true)) (hne : s ≠ t) : Ar N p t = some (p, false) := by
 unfold Ar at h ⊢
 cases hp : AL N p s with
 | none => rw [hp] at h; cases h
 | some b =>
  rw [hp] at h
  cases b with
  | false => simp at h
  | true => rw [Mb hp hne]; rfl
theorem IK {N : Nat} {p : Aa} {α : Type} {X6 X7 Z : Aa × Bool -> Option α} {r : α}
  (h : ((Ar N p ([61] : Qo)).bind fun a => (bif a.2 then X6 a else ((Ar N a.1 ([60] : Qo)).bind fun b => (bif b.2 then X7 b else Z b)))) = some r) :
  ((Ar N p ([60] : Qo)).bind fun a => (bif a.2 then X7 a else ((Ar N a.1 ([61] : Qo)).bind fun b => (bif b.2 then X6 b else Z b)))) = some r := by
 cases ha : Ar N p [61] with
 | none => rw [ha] at h; cases h
 | some a =>
  obtain ⟨q, b⟩ := a
  rw [ha] at h
  simp only [Option.bind_some] at h
  cases b with
  | true =>
   rw [KV ha (by decide)]
   simp only [cond_true] at h
   simp only [Option.bind_some, cond_false, ha, cond_true]; exact h
  | false =>
   obtain rfl := JT ha
   simp only [cond_false] at h
   cases hb : Ar N q [60] with
   | none => rw [hb] at h; cases h
   | some b =>
    obtain ⟨q2, c⟩ := b
    rw [hb] at h
    simp only [Option.bind_some] at h ⊢
    cases c with
    | true => simpa using h
    | false =>
     obtain rfl := JT hb
     simp only [cond_false, ha, Option.bind_some] at h ⊢
     exact h
def DF (N : Nat) (sR233 : Aa -> Option (Ah ⊕ (Aa × Expr))) (x0 : Aa) : Option (Ah ⊕ (Aa × Expr)) :=
 ((sR233 x0).bind fun r24 => sk r24 (fun b291 => some (.inl b291)) (fun r27 => ((Ar N r27.1 ([61] : Qo)).bind fun r51 => (bif r51.2 then (((sR233 r51.1).bind fun r73 => sk r73 (fun b90 => some (.inl b90)) (fun r76 => some (.inr (6, [r27.2, r76.2], r76.1.l_, r76.1.open_)))).bind fun j67 => sk j67 (fun b101 => some (.inl b101)) (fun J72 => some (.inr (({ l_ := J72.2.2.1, open_ := J72.2.2.2 } : Aa), ({ Op := J72.1, Value := 0, Kids := J72.2.1 } : Expr))))) else ((Ar N r51.1 ([60] : Qo)).bind fun r109 => (bif r109.2 then (((sR233 r109.1).bind fun r131 => sk r131 (fun b148 => some (.inl b148)) (fun r134 => some (.inr (7, [r27.2, r134.2], r134.1.l_, r134.1.open_)))).bind fun j125 => sk j125 (fun b159 => some (.inl b159)) (fun J130 => some (.inr (({ l_ := J130.2.2.1, open_ := J130.2.2.2 } : Aa), ({ Op := J130.1, Value := 0, Kids := J130.2.1 } : Expr))))) else some (.inr (r109.1, r27.2))))))))
theorem FV (N : Nat) (sR233 : Aa -> Option (Ah ⊕ (Aa × Expr))) (hsR233 : KZ sR233) {wb w0 : World} {Fb F0 : Mem} {Lf : Own} (hG : Ce F0) (bp0 : Nat) (x0 : Aa) (a0_0 : Qp) (n0_0 : Nat) (hb0_0 : LC x0.l_.length n0_0) (hs0_0 : SlA Ae F0 a0_0 x0.l_) (hs0 : HS wb Fb w0 F0 ((sb bp0 (Ad x0 a0_0 n0_0) 100) :: Lf)) (r : (Ah ⊕ (Aa × Expr))) (h : DF N sR233 x0 = some r) :
  Calls Tryz.prog 226 ([(pt bp0 0)] : List Value).toArray w0 (Bq wb Fb F0 Lf r (fun b => (.iface 158 (.agg (AF b)))) fun a F' v L' => ∃ (aq0_0 : Qp) (nq0_0 : Nat) (aq1_2 : Qp) (nq1_2 : Nat), v = (.agg (Ag a.2 aq1_2 nq1_2)) /\ L' = (sb bp0 (Ad a.1 aq0_0 nq0_0) 100) :: Lf /\ LC a.1.l_.length nq0_0 /\ SlA Ae F' aq0_0 a.1.l_ /\ LC a.2.Kids.length nq1_2 /\ SlA Ao F' aq1_2 a.2.Kids) := by
 refine Go 26 Tryz.func226 ?_
 refine Sq (Rg [0] ?_)
 refine Al' 33 #[(vi 0), (vi 0), (.slice none ([] : List Expr).length 0)] hs0 (fun b21 w22 hs23 => ?_)
 refine Nss (Rg [0, 1, 2, 3] ?_)
 refine Vs 1 ?_
 obtain ⟨r24, hr25, h26⟩ := bind_some h
 refine CP BA (hsR233 hG bp0 x0 a0_0 n0_0 hb0_0 hs0_0 hs23.pk1 _ hr25) ?_ ?_
 ·rintro r27 _ F1 w29 _ rfl hs30 le31 ⟨ar27_0_0, nr27_0_0, ar27_1_2, nr27_1_2, rfl, rfl, hbr27_0_0, hsr27_0_0, hbr27_1_2, hsr27_1_2⟩
  have h33 := BD h26
  refine Al' 33 #[(vi 0), (vi 0), (.slice none ([] : List Expr).length 0)] hs30 (fun b34 w35 hs36 => ?_)
  refine St0 (Ag r27.2 ar27_1_2 nr27_1_2) hs36 (fun w37 hs38 => ?_)
  refine Nss ?_
  refine Sq (Rg [0, 1, 2, 3, 4] ?_)
  refine RWP.litMap (dst := (some 8)) (ty := 198) (g := none) (by kernel_rfl) rfl (t := 198) hs38 (fun b39 w40 (hs41 : HS wb Fb w40 F1 ((some b39, (.map #[] 0)) :: (sb b34 (Ag r27.2 ar27_1_2 nr27_1_2) 33) :: (sb bp0 (Ad r27.1 ar27_0_0 nr27_0_0) 100) :: (sb b21 #[(vi 0), (vi 0), (.slice none ([] : List Expr).length 0)] 33) :: Lf)) => ?_)
  refine RWP.litIns (d := .string) (k := 9) (vt := 3) (ty := 0) (g := none) (mt := 198) (m := (.tmp 8)) (x := (.const (.string ⟨([61] : Qo).toArray⟩))) (y := (.const (vi 6))) (b := b39) (q := 0) (kv := (.string ⟨(([61] : Qo)).toArray⟩)) (v := (vi 6)) (by kernel_rfl) rfl rfl rfl rfl (by kernel_rfl) (by kernel_rfl) trivial (by kernel_rfl) hs41 rfl rfl (fun w42 (hs43 : HS wb Fb w42 F1 ((some b39, (.map #[⟨(.string ⟨(([61] : Qo)).toArray⟩), (vi 6), 0⟩] 1)) :: (sb b34 (Ag r27.2 ar27_1_2 nr27_1_2) 33) :: (sb bp0 (Ad r27.1 ar27_0_0 nr27_0_0) 100) :: (sb b21 #[(vi 0), (vi 0), (.slice none ([] : List Expr).length 0)] 33) :: Lf)) => ?_)
  refine RWP.litIns (d := .string) (k := 9) (vt := 3) (ty := 0) (g := none) (mt := 198) (m := (.tmp 8)) (x := (.const (.string ⟨([60] : Qo).toArray⟩))) (y := (.const (vi 7))) (b := b39) (q := 0) (kv := (.string ⟨(([60] : Qo)).toArray⟩)) (v := (vi 7)) (by kernel_rfl) rfl rfl rfl rfl (by kernel_rfl) (by kernel_rfl) trivial (by kernel_rfl) hs43 rfl rfl (fun w44 (hs45 : HS wb Fb w44 F1 ((some b39, (.map #[⟨(.string ⟨(([61] : Qo)).toArray⟩), (vi 6), 0⟩, ⟨(.string ⟨(([60] : Qo)).toArray⟩), (vi 7), 1⟩] 2)) :: (sb b34 (Ag r27.2 ar27_1_2 nr27_1_2) 33) :: (sb bp0 (Ad r27.1 ar27_0_0 nr27_0_0) 100) :: (sb b21 #[(vi 0), (vi 0), (.slice none ([] : List Expr).length 0)] 33) :: Lf)) => ?_)
  refine Vs 1 ?_
  refine RWP.litRange (k := 9) (vt := 3) (dst := (some 10)) (ty := 0) (g := none) (by kernel_rfl) rfl (mt := 198) (x := (.tmp 9)) (b := b39) (q := 0) rfl (by kernel_rfl) hs45 rfl (fun b46 w47 (hs48 : HS wb Fb w47 F1 ((some b46, (.mapIter (some b39) 2 #[] 2)) :: (some b39, (.map #[⟨(.string ⟨(([61] : Qo)).toArray⟩), (vi 6), 0⟩, ⟨(.string ⟨(([60] : Qo)).toArray⟩), (vi 7), 1⟩] 2)) :: (sb b34 (Ag r27.2 ar27_1_2 nr27_1_2) 33) :: (sb bp0 (Ad r27.1 ar27_0_0 nr27_0_0) 100) :: (sb b21 #[(vi 0), (vi 0), (.slice none ([] : List Expr).length 0)] 33) :: Lf)) => ?_)
  refine Nt ?_
  refine Bk ?_
  refine CWP.unroll (by kernel_rfl) 4 ?_
  refine URL.step ?_
  refine Sq (Rg [0, 1] ?_)
  refine RWP.litNext2  (e := ⟨(.string ⟨(([61] : Qo)).toArray⟩), (vi 6), 0⟩) (e2 := ⟨(.string ⟨(([60] : Qo)).toArray⟩), (vi 7), 1⟩) (dst := (some 11)) (ty := 0) (g := none) (by kernel_rfl) rfl (x := (.tmp 10)) (r := b46) (ki := 0) (km := 1) rfl hs48 rfl rfl (by kernel_rfl) (by kernel_rfl) ?_ ?_
  ·rintro w49 (hs50 : HS wb Fb w49 F1 ((some b46, (.mapIter (some b39) 2 #[0] 2)) :: (some b39, (.map #[⟨(.string ⟨(([61] : Qo)).toArray⟩), (vi 6), 0⟩, ⟨(.string ⟨(([60] : Qo)).toArray⟩), (vi 7), 1⟩] 2)) :: (sb b34 (Ag r27.2 ar27_1_2 nr27_1_2) 33) :: (sb bp0 (Ad r27.1 ar27_0_0 nr27_0_0) 100) :: (sb b21 #[(vi 0), (vi 0), (.slice none ([] : List Expr).length 0)] 33) :: Lf))
   refine Vs 1 ?_
   refine Nss ?_
   refine C1 (rfl : true = true) ?_
   refine Sc ?_
   refine Ac ?_
   refine Bk ?_
   refine Sq (Rg [0, 1, 2, 3, 4] ?_)
   refine V 13 0 (DQ (x := (.tmp 10)) (en := ⟨(.string ⟨(([61] : Qo)).toArray⟩), (vi 6), 0⟩) rfl (hs50.ownAt (k := 0) rfl) (hs50.ownAt (k := 1) rfl) rfl rfl) ?_
   refine Vs 4 ?_
   refine Nss (Rg [0, 1, 2] ?_)
   refine Vs 2 ?_
   obtain ⟨r51, hr52, h53⟩ := bind_some h33
   refine CB AD (AE N bp0 r27.1 ar27_0_0 nr27_0_0 hbr27_0_0 hsr27_0_0 (([61] : Qo)) hs50.pk4.pk3.pk3.pk3.pk4 _ hr52) ?_
   rintro _ F2 w54 _ hs55 le56 ⟨ar51_0_0, nr51_0_0, rfl, rfl, hbr51_0_0, hsr51_0_0⟩
   refine Nt ?_
   refine Cd h53 (fun hb58 h59 => ?_) (fun hb58 h60 => ?_)
   ·refine Sq ?_
    obtain ⟨j67, hj70, h71⟩ := bind_some h59
    refine RDP 6 7 [(some b46, (.mapIter (some b39) 2 #[0] 2)), (some b39, (.map #[⟨(.string ⟨(([61] : Qo)).toArray⟩), (vi 6), 0⟩, ⟨(.string ⟨(([60] : Qo)).toArray⟩), (vi 7), 1⟩] 2)), (sb b34 (Ag r27.2 ar27_1_2 nr27_1_2) 33)] [(sb b21 #[(vi 0), (vi 0), (.slice none ([] : List Expr).length 0)] 33)] hs55 (fun c d w => d = [] /\ ∃ (b : Ah) (Fp : Mem), j67 = .inl b /\ c = [{ v := (.iface 158 (.agg (AF b))), recovered := false }] /\ HS wb Fb w Fp Lf /\ P2 F2 Fp) (fun f w => ∃ (J72 : (Int × List Expr × List Ap × Int)), j67 = .inr J72 /\ ∃ (F3 : Mem) (aj67_1 : Qp) (nj67_1 : Nat) (ej67_1 : Option Nat × Obj) (aj67_2 : Qp) (nj67_2 : Nat), HS wb Fb w F3 (ej67_1 :: (sb bp0 #[(.slice aj67_2 J72.2.2.1.length nj67_2), (vi J72.2.2.2)] 100) :: (sb b21 #[(vi J72.1), (vi 0), (.slice aj67_1 J72.2.1.length nj67_1)] 33) :: Lf) /\ P2 F2 F3 /\ FI f [] [(2, (pt b21 0))] /\ Aq Ao 33 F3 aj67_1 nj67_1 J72.2.1 ej67_1 /\ LC J72.2.2.1.length nj67_2 /\ SlA Ae F3 aj67_2 J72.2.2.1) (fun wd61 hw62 => ?_) ?_ ?_
    ·refine Dv [0] ?_
     refine Dl 1 (fun _ hq => (hq.1.2 2 _ _ rfl)) ?_
     refine Dv [2] ?_
     refine D1 3 ?_
     obtain ⟨r73, hr74, h75⟩ := bind_some hj70
     refine DCP BA (hsR233 (hG.mono (le31.trans le56)) bp0 r51.1 ar51_0_0 nr51_0_0 hbr51_0_0 hsr51_0_0 hw62 _ hr74) ?_ ?_
     ·rintro r76 _ F4 w78 _ rfl hs79 le80 ⟨ar76_0_0, nr76_0_0, ar76_1_2, nr76_1_2, rfl, rfl, hbr76_0_0, hsr76_0_0, hbr76_1_2, hsr76_1_2⟩
      have h82 := BD h75
      refine ⟨Bo hs79 le80 (by simp) (fun _ => by simp), ?_⟩
      refine D1 4 ?_
      refine DBs 33 [(vi r27.2.Op), (vi r27.2.Value), (.slice ar27_1_2 r27.2.Kids.length nr27_1_2), (vi r76.2.Op), (vi r76.2.Value), (.slice ar76_1_2 r76.2.Kids.length nr76_1_2)] hs79 le80 (fun b83 w84 hs85 => ?_)
      have hr87 : Aq Ao 33 F4 (some ⟨b83, 0, none⟩) 2 [r27.2, r76.2] (some b83, .cells ([(vi r27.2.Op), (vi r27.2.Value), (.slice ar27_1_2 r27.2.Kids.length nr27_1_2), (vi r76.2.Op), (vi r76.2.Value), (.slice ar76_1_2 r76.2.Kids.length nr76_1_2)] : List Value).toArray 33 (0, 0)) := Ql ⟨(AY ⟨ar27_1_2, nr27_1_2, rfl, hbr27_1_2, (P5 hsr27_1_2 (le56.trans le80))⟩), ⟨(AY ⟨ar76_1_2, nr76_1_2, rfl, hbr76_1_2, hsr76_1_2⟩), rfl⟩⟩ (by simp)
      refine Dv [5] ?_
      refine D1 6 ?_
      refine OT #[(vi 6), (vi 0), (.slice (some ⟨b83, 0, none⟩) [r27.2, r76.2].length 2)] hs85 le80 (fun w88 hs89 => ?_)
      obtain rfl := Ab h82
      exact Qi (by kernel_rfl) ⟨_, rfl, F4, (some ⟨b83, 0, none⟩), 2, (some b83, .cells ([(vi r27.2.Op), (vi r27.2.Value), (.slice ar27_1_2 r27.2.Kids.length nr27_1_2), (vi r76.2.Op), (vi r76.2.Value), (.slice ar76_1_2 r76.2.Kids.length nr76_1_2)] : List Value).toArray 33 (0, 0)), ar76_0_0, nr76_0_0, hs89.dr2.dr2.dr2, le80, fI, hr87, hbr76_0_0, hsr76_0_0⟩
     ·rintro b90 F5 w91 rfl hs92 le93
      have h94 := A9 h75
      obtain rfl := Ab h94
      exact ⟨rfl, _, _, rfl, rfl, hs92.dr0.dr0.dr0.dr0, le93⟩
    ·rintro f w63 ⟨J72, rfl, F3, aj67_1, nj67_1, ej67_1, aj67_2, nj67_2, hs64, le65, ⟨_, rfl⟩, hrj67_1, hbj67_2, hsj67_2⟩
     have h96 := BD h71
     refine Ac ?_
     refine Rt ?_
     refine Ai ?_
     refine Af ?_
     refine Ai ?_
     refine Af ?_
     have hb100 := Qj hrj67_1
     obtain ⟨F6, hs97, le98, hs99⟩ := hs64.fr0 hrj67_1
     obtain rfl := Ab h96
     exact ⟨rfl, (.agg #[(vi J72.1), (vi 0), (.slice aj67_1 J72.2.1.length nj67_1)]), Ay (l := [.cell 2 33]) (by kernel_rfl) (vs := [(.agg #[(vi J72.1), (vi 0), (.slice aj67_1 J72.2.1.length nj67_1)])]) ⟨b21, 0, rfl, Aj (t := 33) (g := true) (s := 3) (by kernel_rfl) hs97.at1 rfl (by decide), trivial⟩, .inl ⟨_, F6, _, _, rfl, rfl, hs97.dr1, (((le31.trans le56).trans le65).trans le98), ⟨aj67_2, nj67_2, aj67_1, nj67_1, rfl, rfl, hbj67_2, (P5 hsj67_2 le98), hb100, hs99⟩⟩⟩
    ·rintro c f w102 ⟨hd105, b101, F7, rfl, rfl, hs103, le104⟩
     have h106 := A9 h71
     refine Ak ?_
     refine AJ ?_
     refine Ak ?_
     refine AJ ?_
     refine Ak ?_
     obtain rfl := Ab h106
     exact ⟨hd105, .inr ⟨_, F7, rfl, rfl, hs103, ((le31.trans le56).trans le104)⟩⟩
   ·refine Sc ?_
    refine Av ?_
    refine Ac ?_
    refine URL.step ?_
    refine Sq (Rg [0, 1] ?_)
    refine RWP.litNext1  (e := ⟨(.string ⟨(([60] : Qo)).toArray⟩), (vi 7), 1⟩) (dst := (some 11)) (ty := 0) (g := none) (by kernel_rfl) rfl (x := (.tmp 10)) (r := b46) (ki := 1) (km := 2) rfl hs55 rfl rfl (by kernel_rfl) (by kernel_rfl) ?_
    ·rintro w107 (hs108 : HS wb Fb w107 F2 ((sb bp0 (Ad r51.1 ar51_0_0 nr51_0_0) 100) :: (some b46, (.mapIter (some b39) 2 #[0, 1] 2)) :: (some b39, (.map #[⟨(.string ⟨(([61] : Qo)).toArray⟩), (vi 6), 0⟩, ⟨(.string ⟨(([60] : Qo)).toArray⟩), (vi 7), 1⟩] 2)) :: (sb b34 (Ag r27.2 ar27_1_2 nr27_1_2) 33) :: (sb b21 #[(vi 0), (vi 0), (.slice none ([] : List Expr).length 0)] 33) :: Lf))
     refine Vs 1 ?_
     refine Nss ?_
     refine C1 (rfl : true = true) ?_
     refine Sc ?_
     refine Ac ?_
     refine Bk ?_
     refine Sq (Rg [0, 1, 2, 3, 4] ?_)
     refine V 13 0 (DQ (x := (.tmp 10)) (en := ⟨(.string ⟨(([60] : Qo)).toArray⟩), (vi 7), 1⟩) rfl (hs108.ownAt (k := 1) rfl) (hs108.ownAt (k := 2) rfl) rfl rfl) ?_
     refine Vs 4 ?_
     refine Nss (Rg [0, 1, 2] ?_)
     refine Vs 2 ?_
     obtain ⟨r109, hr110, h111⟩ := bind_some h60
     refine CB AD (AE N bp0 r51.1 ar51_0_0 nr51_0_0 hbr51_0_0 hsr51_0_0 (([60] : Qo)) hs108 _ hr110) ?_
     rintro _ F8 w112 _ hs113 le114 ⟨ar109_0_0, nr109_0_0, rfl, rfl, hbr109_0_0, hsr109_0_0⟩
     refine Nt ?_
     refine Cd h111 (fun hb116 h117 => ?_) (fun hb116 h118 => ?_)
     ·refine Sq ?_
      obtain ⟨j125, hj128, h129⟩ := bind_some h117
      refine RDP 6 7 [(some b46, (.mapIter (some b39) 2 #[0, 1] 2)), (some b39, (.map #[⟨(.string ⟨(([61] : Qo)).toArray⟩), (vi 6), 0⟩, ⟨(.string ⟨(([60] : Qo)).toArray⟩), (vi 7), 1⟩] 2)), (sb b34 (Ag r27.2 ar27_1_2 nr27_1_2) 33)] [(sb b21 #[(vi 0), (vi 0), (.slice none ([] : List Expr).length 0)] 33)] hs113 (fun c d w => d = [] /\ ∃ (b : Ah) (Fp : Mem), j125 = .inl b /\ c = [{ v := (.iface 158 (.agg (AF b))), recovered := false }] /\ HS wb Fb w Fp Lf /\ P2 F8 Fp) (fun f w => ∃ (J130 : (Int × List Expr × List Ap × Int)), j125 = .inr J130 /\ ∃ (F9 : Mem) (aj125_1 : Qp) (nj125_1 : Nat) (ej125_1 : Option Nat × Obj) (aj125_2 : Qp) (nj125_2 : Nat), HS wb Fb w F9 (ej125_1 :: (sb bp0 #[(.slice aj125_2 J130.2.2.1.length nj125_2), (vi J130.2.2.2)] 100) :: (sb b21 #[(vi J130.1), (vi 0), (.slice aj125_1 J130.2.1.length nj125_1)] 33) :: Lf) /\ P2 F8 F9 /\ FI f [] [(2, (pt b21 0))] /\ Aq Ao 33 F9 aj125_1 nj125_1 J130.2.1 ej125_1 /\ LC J130.2.2.1.length nj125_2 /\ SlA Ae F9 aj125_2 J130.2.2.1) (fun wd119 hw120 => ?_) ?_ ?_
      ·refine Dv [0] ?_
       refine Dl 1 (fun _ hq => (hq.1.2 2 _ _ rfl)) ?_
       refine Dv [2] ?_
       refine D1 3 ?_
       obtain ⟨r131, hr132, h133⟩ := bind_some hj128
       refine DCP BA (hsR233 (hG.mono ((le31.trans le56).trans le114)) bp0 r109.1 ar109_0_0 nr109_0_0 hbr109_0_0 hsr109_0_0 hw120 _ hr132) ?_ ?_
       ·rintro r134 _ F10 w136 _ rfl hs137 le138 ⟨ar134_0_0, nr134_0_0, ar134_1_2, nr134_1_2, rfl, rfl, hbr134_0_0, hsr134_0_0, hbr134_1_2, hsr134_1_2⟩
        have h140 := BD h133
        refine ⟨Bo hs137 le138 (by simp) (fun _ => by simp), ?_⟩
        refine D1 4 ?_
        refine DBs 33 [(vi r27.2.Op), (vi r27.2.Value), (.slice ar27_1_2 r27.2.Kids.length nr27_1_2), (vi r134.2.Op), (vi r134.2.Value), (.slice ar134_1_2 r134.2.Kids.length nr134_1_2)] hs137 le138 (fun b141 w142 hs143 => ?_)
        have hr145 : Aq Ao 33 F10 (some ⟨b141, 0, none⟩) 2 [r27.2, r134.2] (some b141, .cells ([(vi r27.2.Op), (vi r27.2.Value), (.slice ar27_1_2 r27.2.Kids.length nr27_1_2), (vi r134.2.Op), (vi r134.2.Value), (.slice ar134_1_2 r134.2.Kids.length nr134_1_2)] : List Value).toArray 33 (0, 0)) := Ql ⟨(AY ⟨ar27_1_2, nr27_1_2, rfl, hbr27_1_2, (P5 hsr27_1_2 ((le56.trans le114).trans le138))⟩), ⟨(AY ⟨ar134_1_2, nr134_1_2, rfl, hbr134_1_2, hsr134_1_2⟩), rfl⟩⟩ (by simp)
        refine Dv [5] ?_
        refine D1 6 ?_
        refine OT #[(vi 7), (vi 0), (.slice (some ⟨b141, 0, none⟩) [r27.2, r134.2].length 2)] hs143 le138 (fun w146 hs147 => ?_)
        obtain rfl := Ab h140
        exact Qi (by kernel_rfl) ⟨_, rfl, F10, (some ⟨b141, 0, none⟩), 2, (some b141, .cells ([(vi r27.2.Op), (vi r27.2.Value), (.slice ar27_1_2 r27.2.Kids.length nr27_1_2), (vi r134.2.Op), (vi r134.2.Value), (.slice ar134_1_2 r134.2.Kids.length nr134_1_2)] : List Value).toArray 33 (0, 0)), ar134_0_0, nr134_0_0, hs147.dr2.dr2.dr2, le138, fI, hr145, hbr134_0_0, hsr134_0_0⟩
       ·rintro b148 F11 w149 rfl hs150 le151
        have h152 := A9 h133
        obtain rfl := Ab h152
        exact ⟨rfl, _, _, rfl, rfl, hs150.dr0.dr0.dr0.dr0, le151⟩
      ·rintro f w121 ⟨J130, rfl, F9, aj125_1, nj125_1, ej125_1, aj125_2, nj125_2, hs122, le123, ⟨_, rfl⟩, hrj125_1, hbj125_2, hsj125_2⟩
       have h154 := BD h129
       refine Ac ?_
       refine Rt ?_
       refine Ai ?_
       refine Af ?_
       refine Ai ?_
       refine Af ?_
       have hb158 := Qj hrj125_1
       obtain ⟨F12, hs155, le156, hs157⟩ := hs122.fr0 hrj125_1
       obtain rfl := Ab h154
       exact ⟨rfl, (.agg #[(vi J130.1), (vi 0), (.slice aj125_1 J130.2.1.length nj125_1)]), Ay (l := [.cell 2 33]) (by kernel_rfl) (vs := [(.agg #[(vi J130.1), (vi 0), (.slice aj125_1 J130.2.1.length nj125_1)])]) ⟨b21, 0, rfl, Aj (t := 33) (g := true) (s := 3) (by kernel_rfl) hs155.at1 rfl (by decide), trivial⟩, .inl ⟨_, F12, _, _, rfl, rfl, hs155.dr1, ((((le31.trans le56).trans le114).trans le123).trans le156), ⟨aj125_2, nj125_2, aj125_1, nj125_1, rfl, rfl, hbj125_2, (P5 hsj125_2 le156), hb158, hs157⟩⟩⟩
      ·rintro c f w160 ⟨hd163, b159, F13, rfl, rfl, hs161, le162⟩
       have h164 := A9 h129
       refine Ak ?_
       refine AJ ?_
       refine Ak ?_
       refine AJ ?_
       refine Ak ?_
       obtain rfl := Ab h164
       exact ⟨hd163, .inr ⟨_, F13, rfl, rfl, hs161, (((le31.trans le56).trans le114).trans le162)⟩⟩
     ·refine Sc ?_
      refine Av ?_
      refine Ac ?_
      refine URL.step ?_
      refine Sq (Rg [0, 1] ?_)
      refine RWP.litNext0  (dst := (some 11)) (ty := 0) (g := none) (by kernel_rfl) rfl (x := (.tmp 10)) (r := b46) (ki := 1) (km := 2) rfl hs113 rfl rfl (by kernel_rfl) (by kernel_rfl) ?_
      ·rintro w165 (hs166 : HS wb Fb w165 F8 ((sb bp0 (Ad r109.1 ar109_0_0 nr109_0_0) 100) :: (some b46, (.mapIter (some b39) 2 #[0, 1] 2)) :: (some b39, (.map #[⟨(.string ⟨(([61] : Qo)).toArray⟩), (vi 6), 0⟩, ⟨(.string ⟨(([60] : Qo)).toArray⟩), (vi 7), 1⟩] 2)) :: (sb b34 (Ag r27.2 ar27_1_2 nr27_1_2) 33) :: (sb b21 #[(vi 0), (vi 0), (.slice none ([] : List Expr).length 0)] 33) :: Lf))
       refine Vs 1 ?_
       refine Nss ?_
       refine C0 (rfl : false = false) ?_
       refine Ex ?_
       refine AC ?_
       refine AC ?_
       refine AR rfl ?_
       refine Ac ?_
       refine Sq (Rg [0, 1] ?_)
       refine Ld hs166.at3 ?_
       refine St4 (Ag r27.2 ar27_1_2 nr27_1_2) hs166 (fun w167 hs168 => ?_)
       refine Nt ?_
       refine Rt ?_
       obtain rfl := Ab h118
       exact ⟨rfl, (.agg (Ag r27.2 ar27_1_2 nr27_1_2)), Ay (l := [.cell 2 33]) (by kernel_rfl) (vs := [(.agg (Ag r27.2 ar27_1_2 nr27_1_2))]) ⟨b21, 0, rfl, Aj (t := 33) (g := true) (s := 3) (by kernel_rfl) hs168.at4 rfl (by decide), trivial⟩, .inl ⟨_, F8, _, _, rfl, rfl, hs168.dr1.dr1.dr1.dr1, ((le31.trans le56).trans le114), ⟨ar109_0_0, nr109_0_0, ar27_1_2, nr27_1_2, rfl, rfl, hbr109_0_0, hsr109_0_0, hbr27_1_2, (P5 hsr27_1_2 (le56.trans le114))⟩⟩⟩
  ·rintro w169 (hs170 : HS wb Fb w169 F1 ((some b46, (.mapIter (some b39) 2 #[1] 2)) :: (some b39, (.map #[⟨(.string ⟨(([61] : Qo)).toArray⟩), (vi 6), 0⟩, ⟨(.string ⟨(([60] : Qo)).toArray⟩), (vi 7), 1⟩] 2)) :: (sb b34 (Ag r27.2 ar27_1_2 nr27_1_2) 33) :: (sb bp0 (Ad r27.1 ar27_0_0 nr27_0_0) 100) :: (sb b21 #[(vi 0), (vi 0), (.slice none ([] : List Expr).length 0)] 33) :: Lf))
   have h171 := IK h33
   refine Vs 1 ?_
   refine Nss ?_
   refine C1 (rfl : true = true) ?_
   refine Sc ?_
   refine Ac ?_
   refine Bk ?_
   refine Sq (Rg [0, 1, 2, 3, 4] ?_)
   refine V 13 0 (DQ (x := (.tmp 10)) (en := ⟨(.string ⟨(([60] : Qo)).toArray⟩), (vi 7), 1⟩) rfl (hs170.ownAt (k := 0) rfl) (hs170.ownAt (k := 1) rfl) rfl rfl) ?_
   refine Vs 4 ?_
   refine Nss (Rg [0, 1, 2] ?_)
   refine Vs 2 ?_
   have hs172 := hs170.pk4.pk3.pk3.pk3.pk4
   obtain ⟨r173, hr174, h175⟩ := bind_some h171
   refine CB AD (AE N bp0 r27.1 ar27_0_0 nr27_0_0 hbr27_0_0 hsr27_0_0 (([60] : Qo)) hs172 _ hr174) ?_
   rintro _ F14 w176 _ hs177 le178 ⟨ar173_0_0, nr173_0_0, rfl, rfl, hbr173_0_0, hsr173_0_0⟩
   refine Nt ?_
   refine Cd h175 (fun hb180 h181 => ?_) (fun hb180 h182 => ?_)
   ·refine Sq ?_
    obtain ⟨j189, hj192, h193⟩ := bind_some h181
    refine RDP 6 7 [(some b46, (.mapIter (some b39) 2 #[1] 2)), (some b39, (.map #[⟨(.string ⟨(([61] : Qo)).toArray⟩), (vi 6), 0⟩, ⟨(.string ⟨(([60] : Qo)).toArray⟩), (vi 7), 1⟩] 2)), (sb b34 (Ag r27.2 ar27_1_2 nr27_1_2) 33)] [(sb b21 #[(vi 0), (vi 0), (.slice none ([] : List Expr).length 0)] 33)] hs177 (fun c d w => d = [] /\ ∃ (b : Ah) (Fp : Mem), j189 = .inl b /\ c = [{ v := (.iface 158 (.agg (AF b))), recovered := false }] /\ HS wb Fb w Fp Lf /\ P2 F14 Fp) (fun f w => ∃ (J194 : (Int × List Expr × List Ap × Int)), j189 = .inr J194 /\ ∃ (F15 : Mem) (aj189_1 : Qp) (nj189_1 : Nat) (ej189_1 : Option Nat × Obj) (aj189_2 : Qp) (nj189_2 : Nat), HS wb Fb w F15 (ej189_1 :: (sb bp0 #[(.slice aj189_2 J194.2.2.1.length nj189_2), (vi J194.2.2.2)] 100) :: (sb b21 #[(vi J194.1), (vi 0), (.slice aj189_1 J194.2.1.length nj189_1)] 33) :: Lf) /\ P2 F14 F15 /\ FI f [] [(2, (pt b21 0))] /\ Aq Ao 33 F15 aj189_1 nj189_1 J194.2.1 ej189_1 /\ LC J194.2.2.1.length nj189_2 /\ SlA Ae F15 aj189_2 J194.2.2.1) (fun wd183 hw184 => ?_) ?_ ?_
    ·refine Dv [0] ?_
     refine Dl 1 (fun _ hq => (hq.1.2 2 _ _ rfl)) ?_
     refine Dv [2] ?_
     refine D1 3 ?_
     obtain ⟨r195, hr196, h197⟩ := bind_some hj192
     refine DCP BA (hsR233 (hG.mono (le31.trans le178)) bp0 r173.1 ar173_0_0 nr173_0_0 hbr173_0_0 hsr173_0_0 hw184 _ hr196) ?_ ?_
     ·rintro r198 _ F16 w200 _ rfl hs201 le202 ⟨ar198_0_0, nr198_0_0, ar198_1_2, nr198_1_2, rfl, rfl, hbr198_0_0, hsr198_0_0, hbr198_1_2, hsr198_1_2⟩
      have h204 := BD h197
      refine ⟨Bo hs201 le202 (by simp) (fun _ => by simp), ?_⟩
      refine D1 4 ?_
      refine DBs 33 [(vi r27.2.Op), (vi r27.2.Value), (.slice ar27_1_2 r27.2.Kids.length nr27_1_2), (vi r198.2.Op), (vi r198.2.Value), (.slice ar198_1_2 r198.2.Kids.length nr198_1_2)] hs201 le202 (fun b205 w206 hs207 => ?_)
      have hr209 : Aq Ao 33 F16 (some ⟨b205, 0, none⟩) 2 [r27.2, r198.2] (some b205, .cells ([(vi r27.2.Op), (vi r27.2.Value), (.slice ar27_1_2 r27.2.Kids.length nr27_1_2), (vi r198.2.Op), (vi r198.2.Value), (.slice ar198_1_2 r198.2.Kids.length nr198_1_2)] : List Value).toArray 33 (0, 0)) := Ql ⟨(AY ⟨ar27_1_2, nr27_1_2, rfl, hbr27_1_2, (P5 hsr27_1_2 (le178.trans le202))⟩), ⟨(AY ⟨ar198_1_2, nr198_1_2, rfl, hbr198_1_2, hsr198_1_2⟩), rfl⟩⟩ (by simp)
      refine Dv [5] ?_
      refine D1 6 ?_
      refine OT #[(vi 7), (vi 0), (.slice (some ⟨b205, 0, none⟩) [r27.2, r198.2].length 2)] hs207 le202 (fun w210 hs211 => ?_)
      obtain rfl := Ab h204
      exact Qi (by kernel_rfl) ⟨_, rfl, F16, (some ⟨b205, 0, none⟩), 2, (some b205, .cells ([(vi r27.2.Op), (vi r27.2.Value), (.slice ar27_1_2 r27.2.Kids.length nr27_1_2), (vi r198.2.Op), (vi r198.2.Value), (.slice ar198_1_2 r198.2.Kids.length nr198_1_2)] : List Value).toArray 33 (0, 0)), ar198_0_0, nr198_0_0, hs211.dr2.dr2.dr2, le202, fI, hr209, hbr198_0_0, hsr198_0_0⟩
     ·rintro b212 F17 w213 rfl hs214 le215
      have h216 := A9 h197
      obtain rfl := Ab h216
      exact ⟨rfl, _, _, rfl, rfl, hs214.dr0.dr0.dr0.dr0, le215⟩
    ·rintro f w185 ⟨J194, rfl, F15, aj189_1, nj189_1, ej189_1, aj189_2, nj189_2, hs186, le187, ⟨_, rfl⟩, hrj189_1, hbj189_2, hsj189_2⟩
     have h218 := BD h193
     refine Ac ?_
     refine Rt ?_
     refine Ai ?_
     refine Af ?_
     refine Ai ?_
     refine Af ?_
     have hb222 := Qj hrj189_1
     obtain ⟨F18, hs219, le220, hs221⟩ := hs186.fr0 hrj189_1
     obtain rfl := Ab h218
     exact ⟨rfl, (.agg #[(vi J194.1), (vi 0), (.slice aj189_1 J194.2.1.length nj189_1)]), Ay (l := [.cell 2 33]) (by kernel_rfl) (vs := [(.agg #[(vi J194.1), (vi 0), (.slice aj189_1 J194.2.1.length nj189_1)])]) ⟨b21, 0, rfl, Aj (t := 33) (g := true) (s := 3) (by kernel_rfl) hs219.at1 rfl (by decide), trivial⟩, .inl ⟨_, F18, _, _, rfl, rfl, hs219.dr1, (((le31.trans le178).trans le187).trans le220), ⟨aj189_2, nj189_2, aj189_1, nj189_1, rfl, rfl, hbj189_2, (P5 hsj189_2 le220), hb222, hs221⟩⟩⟩
    ·rintro c f w224 ⟨hd227, b223, F19, rfl, rfl, hs225, le226⟩
     have h228 := A9 h193
     refine Ak ?_
     refine AJ ?_
     refine Ak ?_
     refine AJ ?_
     refine Ak ?_
     obtain rfl := Ab h228
     exact ⟨hd227, .inr ⟨_, F19, rfl, rfl, hs225, ((le31.trans le178).trans le226)⟩⟩
   ·refine Sc ?_
    refine Av ?_
    refine Ac ?_
    refine URL.step ?_
    refine Sq (Rg [0, 1] ?_)
    refine RWP.litNext1  (e := ⟨(.string ⟨(([61] : Qo)).toArray⟩), (vi 6), 0⟩) (dst := (some 11)) (ty := 0) (g := none) (by kernel_rfl) rfl (x := (.tmp 10)) (r := b46) (ki := 1) (km := 2) rfl hs177 rfl rfl (by kernel_rfl) (by kernel_rfl) ?_
    ·rintro w229 (hs230 : HS wb Fb w229 F14 ((sb bp0 (Ad r173.1 ar173_0_0 nr173_0_0) 100) :: (some b46, (.mapIter (some b39) 2 #[1, 0] 2)) :: (some b39, (.map #[⟨(.string ⟨(([61] : Qo)).toArray⟩), (vi 6), 0⟩, ⟨(.string ⟨(([60] : Qo)).toArray⟩), (vi 7), 1⟩] 2)) :: (sb b34 (Ag r27.2 ar27_1_2 nr27_1_2) 33) :: (sb b21 #[(vi 0), (vi 0), (.slice none ([] : List Expr).length 0)] 33) :: Lf))
     refine Vs 1 ?_
     refine Nss ?_
     refine C1 (rfl : true = true) ?_
     refine Sc ?_
     refine Ac ?_
     refine Bk ?_
     refine Sq (Rg [0, 1, 2, 3, 4] ?_)
     refine V 13 0 (DQ (x := (.tmp 10)) (en := ⟨(.string ⟨(([61] : Qo)).toArray⟩), (vi 6), 0⟩) rfl (hs230.ownAt (k := 1) rfl) (hs230.ownAt (k := 2) rfl) rfl rfl) ?_
     refine Vs 4 ?_
     refine Nss (Rg [0, 1, 2] ?_)
     refine Vs 2 ?_
     obtain ⟨r231, hr232, h233⟩ := bind_some h182
     refine CB AD (AE N bp0 r173.1 ar173_0_0 nr173_0_0 hbr173_0_0 hsr173_0_0 (([61] : Qo)) hs230 _ hr232) ?_
     rintro _ F20 w234 _ hs235 le236 ⟨ar231_0_0, nr231_0_0, rfl, rfl, hbr231_0_0, hsr231_0_0⟩
     refine Nt ?_
     refine Cd h233 (fun hb238 h239 => ?_) (fun hb238 h240 => ?_)
     ·refine Sq ?_
      obtain ⟨j247, hj250, h251⟩ := bind_some h239
      refine RDP 6 7 [(some b46, (.mapIter (some b39) 2 #[1, 0] 2)), (some b39, (.map #[⟨(.string ⟨(([61] : Qo)).toArray⟩), (vi 6), 0⟩, ⟨(.string ⟨(([60] : Qo)).toArray⟩), (vi 7), 1⟩] 2)), (sb b34 (Ag r27.2 ar27_1_2 nr27_1_2) 33)] [(sb b21 #[(vi 0), (vi 0), (.slice none ([] : List Expr).length 0)] 33)] hs235 (fun c d w => d = [] /\ ∃ (b : Ah) (Fp : Mem), j247 = .inl b /\ c = [{ v := (.iface 158 (.agg (AF b))), recovered := false }] /\ HS wb Fb w Fp Lf /\ P2 F20 Fp) (fun f w => ∃ (J252 : (Int × List Expr × List Ap × Int)), j247 = .inr J252 /\ ∃ (F21 : Mem) (aj247_1 : Qp) (nj247_1 : Nat) (ej247_1 : Option Nat × Obj) (aj247_2 : Qp) (nj247_2 : Nat), HS wb Fb w F21 (ej247_1 :: (sb bp0 #[(.slice aj247_2 J252.2.2.1.length nj247_2), (vi J252.2.2.2)] 100) :: (sb b21 #[(vi J252.1), (vi 0), (.slice aj247_1 J252.2.1.length nj247_1)] 33) :: Lf) /\ P2 F20 F21 /\ FI f [] [(2, (pt b21 0))] /\ Aq Ao 33 F21 aj247_1 nj247_1 J252.2.1 ej247_1 /\ LC J252.2.2.1.length nj247_2 /\ SlA Ae F21 aj247_2 J252.2.2.1) (fun wd241 hw242 => ?_) ?_ ?_
      ·refine Dv [0] ?_
       refine Dl 1 (fun _ hq => (hq.1.2 2 _ _ rfl)) ?_
       refine Dv [2] ?_
       refine D1 3 ?_
       obtain ⟨r253, hr254, h255⟩ := bind_some hj250
       refine DCP BA (hsR233 (hG.mono ((le31.trans le178).trans le236)) bp0 r231.1 ar231_0_0 nr231_0_0 hbr231_0_0 hsr231_0_0 hw242 _ hr254) ?_ ?_
       ·rintro r256 _ F22 w258 _ rfl hs259 le260 ⟨ar256_0_0, nr256_0_0, ar256_1_2, nr256_1_2, rfl, rfl, hbr256_0_0, hsr256_0_0, hbr256_1_2, hsr256_1_2⟩
        have h262 := BD h255
        refine ⟨Bo hs259 le260 (by simp) (fun _ => by simp), ?_⟩
        refine D1 4 ?_
        refine DBs 33 [(vi r27.2.Op), (vi r27.2.Value), (.slice ar27_1_2 r27.2.Kids.length nr27_1_2), (vi r256.2.Op), (vi r256.2.Value), (.slice ar256_1_2 r256.2.Kids.length nr256_1_2)] hs259 le260 (fun b263 w264 hs265 => ?_)
        have hr267 : Aq Ao 33 F22 (some ⟨b263, 0, none⟩) 2 [r27.2, r256.2] (some b263, .cells ([(vi r27.2.Op), (vi r27.2.Value), (.slice ar27_1_2 r27.2.Kids.length nr27_1_2), (vi r256.2.Op), (vi r256.2.Value), (.slice ar256_1_2 r256.2.Kids.length nr256_1_2)] : List Value).toArray 33 (0, 0)) := Ql ⟨(AY ⟨ar27_1_2, nr27_1_2, rfl, hbr27_1_2, (P5 hsr27_1_2 ((le178.trans le236).trans le260))⟩), ⟨(AY ⟨ar256_1_2, nr256_1_2, rfl, hbr256_1_2, hsr256_1_2⟩), rfl⟩⟩ (by simp)
        refine Dv [5] ?_
        refine D1 6 ?_
        refine OT #[(vi 6), (vi 0), (.slice (some ⟨b263, 0, none⟩) [r27.2, r256.2].length 2)] hs265 le260 (fun w268 hs269 => ?_)
        obtain rfl := Ab h262
        exact Qi (by kernel_rfl) ⟨_, rfl, F22, (some ⟨b263, 0, none⟩), 2, (some b263, .cells ([(vi r27.2.Op), (vi r27.2.Value), (.slice ar27_1_2 r27.2.Kids.length nr27_1_2), (vi r256.2.Op), (vi r256.2.Value), (.slice ar256_1_2 r256.2.Kids.length nr256_1_2)] : List Value).toArray 33 (0, 0)), ar256_0_0, nr256_0_0, hs269.dr2.dr2.dr2, le260, fI, hr267, hbr256_0_0, hsr256_0_0⟩
       ·rintro b270 F23 w271 rfl hs272 le273
        have h274 := A9 h255
        obtain rfl := Ab h274
        exact ⟨rfl, _, _, rfl, rfl, hs272.dr0.dr0.dr0.dr0, le273⟩
      ·rintro f w243 ⟨J252, rfl, F21, aj247_1, nj247_1, ej247_1, aj247_2, nj247_2, hs244, le245, ⟨_, rfl⟩, hrj247_1, hbj247_2, hsj247_2⟩
       have h276 := BD h251
       refine Ac ?_
       refine Rt ?_
       refine Ai ?_
       refine Af ?_
       refine Ai ?_
       refine Af ?_
       have hb280 := Qj hrj247_1
       obtain ⟨F24, hs277, le278, hs279⟩ := hs244.fr0 hrj247_1
       obtain rfl := Ab h276
       exact ⟨rfl, (.agg #[(vi J252.1), (vi 0), (.slice aj247_1 J252.2.1.length nj247_1)]), Ay (l := [.cell 2 33]) (by kernel_rfl) (vs := [(.agg #[(vi J252.1), (vi 0), (.slice aj247_1 J252.2.1.length nj247_1)])]) ⟨b21, 0, rfl, Aj (t := 33) (g := true) (s := 3) (by kernel_rfl) hs277.at1 rfl (by decide), trivial⟩, .inl ⟨_, F24, _, _, rfl, rfl, hs277.dr1, ((((le31.trans le178).trans le236).trans le245).trans le278), ⟨aj247_2, nj247_2, aj247_1, nj247_1, rfl, rfl, hbj247_2, (P5 hsj247_2 le278), hb280, hs279⟩⟩⟩
      ·rintro c f w282 ⟨hd285, b281, F25, rfl, rfl, hs283, le284⟩
       have h286 := A9 h251
       refine Ak ?_
       refine AJ ?_
       refine Ak ?_
       refine AJ ?_
       refine Ak ?_
       obtain rfl := Ab h286
       exact ⟨hd285, .inr ⟨_, F25, rfl, rfl, hs283, (((le31.trans le178).trans le236).trans le284)⟩⟩
     ·refine Sc ?_
      refine Av ?_
      refine Ac ?_
      refine URL.step ?_
      refine Sq (Rg [0, 1] ?_)
      refine RWP.litNext0  (dst := (some 11)) (ty := 0) (g := none) (by kernel_rfl) rfl (x := (.tmp 10)) (r := b46) (ki := 1) (km := 2) rfl hs235 rfl rfl (by kernel_rfl) (by kernel_rfl) ?_
      ·rintro w287 (hs288 : HS wb Fb w287 F20 ((sb bp0 (Ad r231.1 ar231_0_0 nr231_0_0) 100) :: (some b46, (.mapIter (some b39) 2 #[1, 0] 2)) :: (some b39, (.map #[⟨(.string ⟨(([61] : Qo)).toArray⟩), (vi 6), 0⟩, ⟨(.string ⟨(([60] : Qo)).toArray⟩), (vi 7), 1⟩] 2)) :: (sb b34 (Ag r27.2 ar27_1_2 nr27_1_2) 33) :: (sb b21 #[(vi 0), (vi 0), (.slice none ([] : List Expr).length 0)] 33) :: Lf))
       refine Vs 1 ?_
       refine Nss ?_
       refine C0 (rfl : false = false) ?_
       refine Ex ?_
       refine AC ?_
       refine AC ?_
       refine AR rfl ?_
       refine Ac ?_
       refine Sq (Rg [0, 1] ?_)
       refine Ld hs288.at3 ?_
       refine St4 (Ag r27.2 ar27_1_2 nr27_1_2) hs288 (fun w289 hs290 => ?_)
       refine Nt ?_
       refine Rt ?_
       obtain rfl := Ab h240
       exact ⟨rfl, (.agg (Ag r27.2 ar27_1_2 nr27_1_2)), Ay (l := [.cell 2 33]) (by kernel_rfl) (vs := [(.agg (Ag r27.2 ar27_1_2 nr27_1_2))]) ⟨b21, 0, rfl, Aj (t := 33) (g := true) (s := 3) (by kernel_rfl) hs290.at4 rfl (by decide), trivial⟩, .inl ⟨_, F20, _, _, rfl, rfl, hs290.dr1.dr1.dr1.dr1, ((le31.trans le178).trans le236), ⟨ar231_0_0, nr231_0_0, ar27_1_2, nr27_1_2, rfl, rfl, hbr231_0_0, hsr231_0_0, hbr27_1_2, (P5 hsr27_1_2 (le178.trans le236))⟩⟩⟩
 ·rintro b291 F26 w292 rfl hs293 le294
  have h295 := A9 h26
  refine Ak ?_
  obtain rfl := Ab h295
  exact B3 hs293.dr0 le294
def D6 (N : Nat) (sR239 : Aa -> Option (Ah ⊕ (Aa × Expr))) (x0 : Aa) : Option (Ah ⊕ (Aa × Expr)) :=
 ((Be N x0 (fun y => sR239 y) (D9 (D9 ([] : List (Qo × Int)) ([43] : Qo) 8) ([45] : Qo) 9)).bind fun r41 => sk r41 (fun b53 => some (.inl b53)) (fun r44 => some (.inr (r44.1, r44.2))))
theorem Gp (N : Nat) (sR239 : Aa -> Option (Ah ⊕ (Aa × Expr))) (hsR239 : KY sR239) {wb w0 : World} {Fb F0 : Mem} {Lf : Own} (hG : Ce F0) (bp0 : Nat) (x0 : Aa) (a0_0 : Qp) (n0_0 : Nat) (hb0_0 : LC x0.l_.length n0_0) (hs0_0 : SlA Ae F0 a0_0 x0.l_) (hs0 : HS wb Fb w0 F0 ((sb bp0 (Ad x0 a0_0 n0_0) 100) :: Lf)) (r : (Ah ⊕ (Aa × Expr))) (h : D6 N sR239 x0 = some r) :
  Calls Tryz.prog 233 ([(pt bp0 0)] : List Value).toArray w0 (Bq wb Fb F0 Lf r (fun b => (.iface 158 (.agg (AF b)))) fun a F' v L' => ∃ (aq0_0 : Qp) (nq0_0 : Nat) (aq1_2 : Qp) (nq1_2 : Nat), v = (.agg (Ag a.2 aq1_2 nq1_2)) /\ L' = (sb bp0 (Ad a.1 aq0_0 nq0_0) 100) :: Lf /\ LC a.1.l_.length nq0_0 /\ SlA Ae F' aq0_0 a.1.l_ /\ LC a.2.Kids.length nq1_2 /\ SlA Ao F' aq1_2 a.2.Kids) := by
 refine Go 9 Tryz.func233 ?_
 refine Sq (Rg [0] ?_)
 refine Al' 33 #[(vi 0), (vi 0), (.slice none ([] : List Expr).length 0)] hs0 (fun b21 w22 hs23 => ?_)
 refine Nss (Rg [0, 1, 2, 3, 4, 5, 6, 7, 8] ?_)
 refine Vs 3 ?_
 refine RWP.makeMap (t := 198) (K := EH) (T := A4) (dst := (some 6)) (ty := 198) (g := none) (by kernel_rfl) rfl hs23 (fun b25 e26 w27 (hs28 : HS wb Fb w27 F0 (e26 :: (sb b21 #[(vi 0), (vi 0), (.slice none ([] : List Expr).length 0)] 33) :: (sb bp0 (Ad x0 a0_0 n0_0) 100) :: Lf)) hr29 => ?_)
 refine RWP.mapIns kl9 (ty := 0) (g := none) (mt := 198) (k := 9) (vt := 3) (m := (.tmp 6)) (x := (.const (.string ⟨([43] : Qo).toArray⟩))) (y := (.const (vi 8))) (b := b25) (kx := ([43] : Qo)) (u := 8) (kv := (.string ⟨(([43] : Qo)).toArray⟩)) (v := (vi 8)) (K := EH) (T := A4) (by kernel_rfl) rfl rfl rfl rfl ⟨_, rfl, rfl⟩ ⟨_, rfl, rfl⟩ (by kernel_rfl) hs28 (q := 0) rfl hr29 (fun e30 w31 (hs32 : HS wb Fb w31 F0 (e30 :: (sb b21 #[(vi 0), (vi 0), (.slice none ([] : List Expr).length 0)] 33) :: (sb bp0 (Ad x0 a0_0 n0_0) 100) :: Lf)) hr33 => ?_)
 refine RWP.mapIns kl9 (ty := 0) (g := none) (mt := 198) (k := 9) (vt := 3) (m := (.tmp 6)) (x := (.const (.string ⟨([45] : Qo).toArray⟩))) (y := (.const (vi 9))) (b := b25) (kx := ([45] : Qo)) (u := 9) (kv := (.string ⟨(([45] : Qo)).toArray⟩)) (v := (vi 9)) (K := EH) (T := A4) (by kernel_rfl) rfl rfl rfl rfl ⟨_, rfl, rfl⟩ ⟨_, rfl, rfl⟩ (by kernel_rfl) hs32 (q := 0) rfl hr33 (fun e34 w35 (hs36 : HS wb Fb w35 F0 (e34 :: (sb b21 #[(vi 0), (vi 0), (.slice none ([] : List Expr).length 0)] 33) :: (sb bp0 (Ad x0 a0_0 n0_0) 100) :: Lf)) hr37 => ?_)
 refine Vs 1 ?_
 obtain ⟨F1, hs38, le39, hm40⟩ : ∃ Fq, HS wb Fb w35 Fq ((sb b21 #[(vi 0), (vi 0), (.slice none ([] : List Expr).length 0)] 33) :: (sb bp0 (Ad x0 a0_0 n0_0) 100) :: Lf) /\ P2 F0 Fq /\ MpA EH A4 Fq (some b25) (D9 (D9 ([] : List (Qo × Int)) ([43] : Qo) 8) ([45] : Qo) 9) := HS.freezeMap hs36 (i := 0) rfl hr37
 obtain ⟨r41, hr42, h43⟩ := bind_some h
 refine CP Bi (Bt N (hG.mono le39) bp0 x0 a0_0 n0_0 hb0_0 (P5 hs0_0 le39) 239 [(pt bp0 0)] ([] : List Value) (fun y => sR239 y) FK (fun {_ _ _ _ _} hGe y ay_0 ny_0 hby_0 hsy_0 hs r h => hsR239 hGe bp0 y ay_0 ny_0 hby_0 hsy_0 hs r h) ((D9 (D9 ([] : List (Qo × Int)) ([43] : Qo) 8) ([45] : Qo) 9)) (some b25) hm40 hs38.pk1 _ hr42) ?_ ?_
 ·rintro r44 _ F2 w46 _ rfl hs47 le48 ⟨ar44_0_0, nr44_0_0, ar44_1_2, nr44_1_2, rfl, rfl, hbr44_0_0, hsr44_0_0, hbr44_1_2, hsr44_1_2⟩
  have h50 := BD h43
  refine St1 (Ag r44.2 ar44_1_2 nr44_1_2) hs47 (fun w51 hs52 => ?_)
  refine Nt ?_
  refine Rt ?_
  obtain rfl := Ab h50
  exact ⟨rfl, (.agg (Ag r44.2 ar44_1_2 nr44_1_2)), Ay (l := [.cell 2 33]) (by kernel_rfl) (vs := [(.agg (Ag r44.2 ar44_1_2 nr44_1_2))]) ⟨b21, 0, rfl, Aj (t := 33) (g := true) (s := 3) (by kernel_rfl) hs52.at1 rfl (by decide), trivial⟩, .inl ⟨_, F2, _, _, rfl, rfl, hs52.dr1, (le39.trans le48), ⟨ar44_0_0, nr44_0_0, ar44_1_2, nr44_1_2, rfl, rfl, hbr44_0_0, hsr44_0_0, hbr44_1_2, hsr44_1_2⟩⟩⟩
 ·rintro b53 F3 w54 rfl hs55 le56
  have h57 := A9 h43
  refine Ak ?_
  obtain rfl := Ab h57
  exact B3 hs55.dr0 (le39.trans le56)
def DG (N : Nat) (sR243 : Aa -> Option (Ah ⊕ (Aa × Expr))) (x0 : Aa) : Option (Ah ⊕ (Aa × Expr)) :=
 ((Be N x0 (fun y => sR243 y) (D9 ([] : List (Qo × Int)) ([42] : Qo) 10)).bind fun r37 => sk r37 (fun b49 => some (.inl b49)) (fun r40 => some (.inr (r40.1, r40.2))))
theorem FX (N : Nat) (sR243 : Aa -> Option (Ah ⊕ (Aa × Expr))) (hsR243 : KX sR243) {wb w0 : World} {Fb F0 : Mem} {Lf : Own} (hG : Ce F0) (bp0 : Nat) (x0 : Aa) (a0_0 : Qp) (n0_0 : Nat) (hb0_0 : LC x0.l_.length n0_0) (hs0_0 : SlA Ae F0 a0_0 x0.l_) (hs0 : HS wb Fb w0 F0 ((sb bp0 (Ad x0 a0_0 n0_0) 100) :: Lf)) (r : (Ah ⊕ (Aa × Expr))) (h : DG N sR243 x0 = some r) :
  Calls Tryz.prog 239 ([(pt bp0 0)] : List Value).toArray w0 (Bq wb Fb F0 Lf r (fun b => (.iface 158 (.agg (AF b)))) fun a F' v L' => ∃ (aq0_0 : Qp) (nq0_0 : Nat) (aq1_2 : Qp) (nq1_2 : Nat), v = (.agg (Ag a.2 aq1_2 nq1_2)) /\ L' = (sb bp0 (Ad a.1 aq0_0 nq0_0) 100) :: Lf /\ LC a.1.l_.length nq0_0 /\ SlA Ae F' aq0_0 a.1.l_ /\ LC a.2.Kids.length nq1_2 /\ SlA Ao F' aq1_2 a.2.Kids) := by
 refine Go 9 Tryz.func239 ?_
 refine Sq (Rg [0] ?_)
 refine Al' 33 #[(vi 0), (vi 0), (.slice none ([] : List Expr).length 0)] hs0 (fun b21 w22 hs23 => ?_)
 refine Nss (Rg [0, 1, 2, 3, 4, 5, 6, 7] ?_)
 refine Vs 3 ?_
 refine RWP.makeMap (t := 198) (K := EH) (T := A4) (dst := (some 6)) (ty := 198) (g := none) (by kernel_rfl) rfl hs23 (fun b25 e26 w27 (hs28 : HS wb Fb w27 F0 (e26 :: (sb b21 #[(vi 0), (vi 0), (.slice none ([] : List Expr).length 0)] 33) :: (sb bp0 (Ad x0 a0_0 n0_0) 100) :: Lf)) hr29 => ?_)
 refine RWP.mapIns kl9 (ty := 0) (g := none) (mt := 198) (k := 9) (vt := 3) (m := (.tmp 6)) (x := (.const (.string ⟨([42] : Qo).toArray⟩))) (y := (.const (vi 10))) (b := b25) (kx := ([42] : Qo)) (u := 10) (kv := (.string ⟨(([42] : Qo)).toArray⟩)) (v := (vi 10)) (K := EH) (T := A4) (by kernel_rfl) rfl rfl rfl rfl ⟨_, rfl, rfl⟩ ⟨_, rfl, rfl⟩ (by kernel_rfl) hs28 (q := 0) rfl hr29 (fun e30 w31 (hs32 : HS wb Fb w31 F0 (e30 :: (sb b21 #[(vi 0), (vi 0), (.slice none ([] : List Expr).length 0)] 33) :: (sb bp0 (Ad x0 a0_0 n0_0) 100) :: Lf)) hr33 => ?_)
 refine Vs 1 ?_
 obtain ⟨F1, hs34, le35, hm36⟩ : ∃ Fq, HS wb Fb w31 Fq ((sb b21 #[(vi 0), (vi 0), (.slice none ([] : List Expr).length 0)] 33) :: (sb bp0 (Ad x0 a0_0 n0_0) 100) :: Lf) /\ P2 F0 Fq /\ MpA EH A4 Fq (some b25) (D9 ([] : List (Qo × Int)) ([42] : Qo) 10) := HS.freezeMap hs32 (i := 0) rfl hr33
 obtain ⟨r37, hr38, h39⟩ := bind_some h
 refine CP Bi (Bt N (hG.mono le35) bp0 x0 a0_0 n0_0 hb0_0 (P5 hs0_0 le35) 243 [(pt bp0 0)] ([] : List Value) (fun y => sR243 y) FM (fun {_ _ _ _ _} hGe y ay_0 ny_0 hby_0 hsy_0 hs r h => hsR243 hGe bp0 y ay_0 ny_0 hby_0 hsy_0 hs r h) ((D9 ([] : List (Qo × Int)) ([42] : Qo) 10)) (some b25) hm36 hs34.pk1 _ hr38) ?_ ?_
 ·rintro r40 _ F2 w42 _ rfl hs43 le44 ⟨ar40_0_0, nr40_0_0, ar40_1_2, nr40_1_2, rfl, rfl, hbr40_0_0, hsr40_0_0, hbr40_1_2, hsr40_1_2⟩
  have h46 := BD h39
  refine St1 (Ag r40.2 ar40_1_2 nr40_1_2) hs43 (fun w47 hs48 => ?_)
  refine Nt ?_
  refine Rt ?_
  obtain rfl := Ab h46
  exact ⟨rfl, (.agg (Ag r40.2 ar40_1_2 nr40_1_2)), Ay (l := [.cell 2 33]) (by kernel_rfl) (vs := [(.agg (Ag r40.2 ar40_1_2 nr40_1_2))]) ⟨b21, 0, rfl, Aj (t := 33) (g := true) (s := 3) (by kernel_rfl) hs48.at1 rfl (by decide), trivial⟩, .inl ⟨_, F2, _, _, rfl, rfl, hs48.dr1, (le35.trans le44), ⟨ar40_0_0, nr40_0_0, ar40_1_2, nr40_1_2, rfl, rfl, hbr40_0_0, hsr40_0_0, hbr40_1_2, hsr40_1_2⟩⟩⟩
 ·rintro b49 F3 w50 rfl hs51 le52
  have h53 := A9 h39
  refine Ak ?_
  obtain rfl := Ab h53
  exact B3 hs51.dr0 (le35.trans le52)
def AM (N : Nat) (x0 : Aa) (x1 : Int) (x2 : Int) : Option (Ah ⊕ Unit) :=
 some (.inl ({ e_ := x1, at_ := x2 } : Ah))
theorem AH : An Tryz.prog 87 := fun _ _ => by kernel_rfl
theorem AK (N : Nat) {wb w0 : World} {Fb F0 : Mem} {Lf : Own} (bp0 : Nat) (x0 : Aa) (a0_0 : Qp) (n0_0 : Nat) (hb0_0 : LC x0.l_.length n0_0) (hs0_0 : SlA Ae F0 a0_0 x0.l_) (x1 : Int) (x2 : Int) (hs0 : HS wb Fb w0 F0 ((sb bp0 (Ad x0 a0_0 n0_0) 100) :: Lf)) (r : (Ah ⊕ Unit)) (h : AM N x0 x1 x2 = some r) :
  Calls Tryz.prog 87 ([(pt bp0 0), (vi x1), (vi x2)] : List Value).toArray w0 (Bq wb Fb F0 Lf r (fun b => (.iface 158 (.agg (AF b)))) fun a F' v L' => v = (.tuple #[]) /\ L' = (sb bp0 (Ad x0 a0_0 n0_0) 100) :: Lf) := by
 refine Go 10 Tryz.func87 ?_
 refine Rg [0, 1, 2, 3, 4] ?_
 refine Vs 3 ?_
 refine V 9 20 (EY (t := 158) (x := (.tmp 8)) (v := (.agg #[(vi x1), (vi x2)])) rfl (by kernel_rfl)) ?_
 refine RWP.panics (dst := none) (ty := 0) (g := none) (by kernel_rfl) rfl (M6 (x := (.tmp 9)) (t := 158) (v := (.agg #[(vi x1), (vi x2)])) rfl) rfl ?_
 obtain rfl := Ab h
 exact B3 hs0.dr0 (P3 _)
def AW (N : Nat) (x0 : Aa) (x1 : Qo) : Option (Ah ⊕ Aa) :=
 ((Ar N x0 x1).bind fun r21 => (bif (!r21.2) then ((idx r21.1.l_ 0).bind fun x31 => ((AM N r21.1 60 x31.at_).bind fun r45 => sk r45 (fun b50 => some (.inl b50)) (fun r48 => none))) else some (.inr r21.1)))
theorem AU : An Tryz.prog 135 := fun _ _ => by kernel_rfl
theorem AX (N : Nat) {wb w0 : World} {Fb F0 : Mem} {Lf : Own} (bp0 : Nat) (x0 : Aa) (a0_0 : Qp) (n0_0 : Nat) (hb0_0 : LC x0.l_.length n0_0) (hs0_0 : SlA Ae F0 a0_0 x0.l_) (x1 : Qo) (hs0 : HS wb Fb w0 F0 ((sb bp0 (Ad x0 a0_0 n0_0) 100) :: Lf)) (r : (Ah ⊕ Aa)) (h : AW N x0 x1 = some r) :
  Calls Tryz.prog 135 ([(pt bp0 0), (.string ⟨(x1).toArray⟩)] : List Value).toArray w0 (Bq wb Fb F0 Lf r (fun b => (.iface 158 (.agg (AF b)))) fun a F' v L' => ∃ (aq0_0 : Qp) (nq0_0 : Nat), v = (.tuple #[]) /\ L' = (sb bp0 (Ad a aq0_0 nq0_0) 100) :: Lf /\ LC a.l_.length nq0_0 /\ SlA Ae F' aq0_0 a.l_) := by
 refine Go 17 Tryz.func135 ?_
 refine Sq (Rg [0, 1, 2, 3] ?_)
 refine Vs 2 ?_
 obtain ⟨r21, hr22, h23⟩ := bind_some h
 refine CB AD (AE N bp0 x0 a0_0 n0_0 hb0_0 hs0_0 x1 hs0 _ hr22) ?_
 rintro _ F1 w24 _ hs25 le26 ⟨ar21_0_0, nr21_0_0, rfl, rfl, hbr21_0_0, hsr21_0_0⟩
 refine Vs 1 ?_
 refine Nt ?_
 refine Cd h23 (fun hb28 h29 => ?_) (fun hb28 h30 => ?_)
 ·refine Rg [0, 1, 2, 3, 4, 5, 6, 7, 8] ?_
  refine Vs 4 ?_
  refine Ld hs25.at0 ?_
  obtain ⟨x31, hx32, h34⟩ := bind_some h29
  obtain ⟨hi33, hx32'⟩ := Aw hx32
  obtain ⟨b35, o36, C37, E38, fz39, rfl, hF41, hE42⟩ := Qd hsr21_0_0 hx32'
  have hc44 := hE42 _ _ hx32'
  refine Ix hi33 ?_
  refine Vs 1 ?_
  refine Lx 1 (hs25.pers _ _ hF41) hc44 ?_
  obtain ⟨r45, hr46, h47⟩ := bind_some h34
  refine CP AH (AK N bp0 r21.1 (some ⟨b35, o36, none⟩) nr21_0_0 hbr21_0_0 hsr21_0_0 60 x31.at_ hs25 _ hr46) ?_ ?_
  ·rintro _ _ _ _ _ rfl _ _ _; cases hr46
  ·rintro b50 F3 w51 rfl hs52 le53
   have h54 := A9 h47
   obtain rfl := Ab h54
   exact B3 hs52 (le26.trans le53)
 ·refine Sc ?_
  obtain rfl := Ab h30
  exact ReP [] hs25 le26 ⟨ar21_0_0, nr21_0_0, rfl, rfl, hbr21_0_0, hsr21_0_0⟩
def B4 (N : Nat) (x0 : (List Qo)) (x1 : Qo) : Int -> Option (BV Int Int) := fun s24 =>
 (bif (decide (s24 < (x0.length : Int))) then ((idx x0 s24).bind fun x47 => (bif (x1 == x47) then some (.ret s24) else some (.next (W64 (s24 + 1))))) else some (.done s24))
def Cf (N : Nat) (x0 : (List Qo)) (x1 : Qo) : Option Int :=
 ((Bz (B4 N x0 x1) N 0).bind fun o => o.k (fun r => some r) (fun s33 => some (-1)))
theorem Dp : An Tryz.prog 247 := fun _ _ => by kernel_rfl
theorem DC (N : Nat) (w0 : World) (F0 : Mem) (hF : Qq w0 F0) (x0 : (List Qo)) (a0_0 : Qp) (n0_0 : Nat) (hb0_0 : LC x0.length n0_0) (hs0_0 : SlA EH F0 a0_0 x0) (x1 : Qo) (r : Int) (h : Cf N x0 x1 = some r) :
  Calls Tryz.prog 247 ([(.slice a0_0 x0.length n0_0), (.string ⟨(x1).toArray⟩)] : List Value).toArray w0 (AO w0 F0 fun F' v => v = (vi r)) := by
 have hs0 := P4 hF
 refine Go 19 Tryz.func247 ?_
 refine Sq (Rg [0] ?_)
 refine Vs 1 ?_
 refine Nss ?_
 refine Sq (Rg [0, 1, 2] ?_)
 refine Vs 3 ?_
 refine Nt ?_
 obtain ⟨o21, ho22, h23⟩ := bind_some h
 refine P9 (fun f w => ∃ (s33 : Int) (F2 : Mem), o21 = .done s33 /\ HS w0 F0 w F2 [] /\ P2 F0 F2 /\ FI f [] []) ?_ ?_
 ·refine Bk ?_
  refine P1 (by kernel_rfl) (fun m f w => ∃ (s24 : Int) (F1 : Mem), Bz (B4 N x0 x1) m s24 = some o21 /\ HS w0 F0 w F1 [] /\ P2 F0 F1 /\ FI f [] [(0, (.slice a0_0 x0.length n0_0)), (1, (.string ⟨(x1).toArray⟩)), (7, (vi (x0.length : Int))), (8, (vi s24))]) N ⟨0, F0, ho22, hs0, (P3 _), fI⟩ ?_
  rintro m38 f w25 ⟨s24, F1, hit39, hs26, le27, ⟨_, rfl⟩⟩
  obtain ⟨m40, fl41, rfl, hb42, hnx43⟩ := A3 hit39
  refine Sq (Rg [0] ?_)
  refine Vs 1 ?_
  refine Nss ?_
  refine Cd hb42 (fun hb44 h45 => ?_) (fun hb44 h46 => ?_)
  ·refine Sc ?_
   refine Ac ?_
   refine Sq ?_
   refine Bk ?_
   refine Sq (Rg [0, 1] ?_)
   refine Vs 2 ?_
   refine Nss (Rg [0, 1, 2, 3, 4, 5] ?_)
   refine Vs 3 ?_
   obtain ⟨x47, hx48, h50⟩ := bind_some h45
   obtain ⟨hi49, hx48'⟩ := Aw hx48
   obtain ⟨b51, o52, C53, E54, fz55, rfl, hF57, hE58⟩ := Qd (P5 hs0_0 le27) hx48'
   have hc60 := hE58 _ _ hx48'
   refine Ix hi49 ?_
   refine Lx 0 (hs26.pers _ _ hF57) hc60 ?_
   refine Vs 1 ?_
   refine Nt ?_
   refine Cd h50 (fun hb61 h62 => ?_) (fun hb61 h63 => ?_)
   ·refine Sq (Rg [0, 1] ?_)
    refine Vs 2 ?_
    refine Nt ?_
    refine Rt ?_
    refine Ai ?_
    refine Af ?_
    refine Af ?_
    refine Ai ?_
    have hret := B2 h62 hnx43
    subst hret
    refine .inr ?_
    refine Af ?_
    obtain rfl := Ab h23
    exact Re [(vi s24)] hs26 rfl
   ·refine Sc ?_
    refine Av ?_
    refine Ac ?_
    refine Rg [0, 1] ?_
    refine Vs 2 ?_
    refine PX ?_
    have hn64 := A0 h63 hnx43
    exact ⟨m40, Nat.lt_succ_self _, (W64 (s24 + 1)), F1, hn64, hs26, le27, fI⟩
  ·refine Ex ?_
   refine AC ?_
   refine AC ?_
   refine AR rfl ?_
   have ho65 := A7 h46 hnx43
   exact .inl ⟨rfl, s24, F1, ho65, hs26, le27, fI⟩
 ·rintro f w34 ⟨s33, F2, rfl, hs35, le36, ⟨_, rfl⟩⟩
  have h66 := Ca h23
  refine Ac ?_
  refine Sq (Rg [0] ?_)
  refine Vs 1 ?_
  refine Nt ?_
  refine Rt ?_
  obtain rfl := Ab h66
  exact Re [(vi (-1))] hs35 rfl
def CD (N : Nat) (x0 : Aa) : Option (Ah ⊕ Aa) :=
 ((idx x0.l_ 0).bind fun x21 => (((AL N x0 ([40] : Qo)).bind fun r45 => (bif r45 then some (x0.open_ == 32) else some false)).bind fun j38 => (bif j38 then ((AM N x0 2 x21.at_).bind fun r58 => sk r58 (fun b63 => some (.inl b63)) (fun r61 => none)) else ((AW N x0 ([40] : Qo)).bind fun r69 => sk r69 (fun b81 => some (.inl b81)) (fun r72 => some (.inr ({ l_ := r72.l_, open_ := (W64 (r72.open_ + 1)) } : Aa)))))))
theorem CX : An Tryz.prog 249 := fun _ _ => by kernel_rfl
theorem Dy (N : Nat) {wb w0 : World} {Fb F0 : Mem} {Lf : Own} (bp0 : Nat) (x0 : Aa) (a0_0 : Qp) (n0_0 : Nat) (hb0_0 : LC x0.l_.length n0_0) (hs0_0 : SlA Ae F0 a0_0 x0.l_) (hs0 : HS wb Fb w0 F0 ((sb bp0 (Ad x0 a0_0 n0_0) 100) :: Lf)) (r : (Ah ⊕ Aa)) (h : CD N x0 = some r) :
  Calls Tryz.prog 249 ([(pt bp0 0)] : List Value).toArray w0 (Bq wb Fb F0 Lf r (fun b => (.iface 158 (.agg (AF b)))) fun a F' v L' => ∃ (aq0_0 : Qp) (nq0_0 : Nat), v = (.tuple #[]) /\ L' = (sb bp0 (Ad a aq0_0 nq0_0) 100) :: Lf /\ LC a.l_.length nq0_0 /\ SlA Ae F' aq0_0 a.l_) := by
 refine Go 31 Tryz.func249 ?_
 refine Sq ?_
 refine Sq (Rg [0, 1, 2, 3, 4, 5, 6, 7] ?_)
 refine Vs 3 ?_
 refine Ld hs0.at0 ?_
 obtain ⟨x21, hx22, h24⟩ := bind_some h
 obtain ⟨hi23, hx22'⟩ := Aw hx22
 obtain ⟨b25, o26, C27, E28, fz29, rfl, hF31, hE32⟩ := Qd hs0_0 hx22'
 have hc34 := hE32 _ _ hx22'
 refine Ix hi23 ?_
 refine Vs 1 ?_
 refine Lx 1 (hs0.pers _ _ hF31) hc34 ?_
 refine Vs 1 ?_
 refine Nss (Rg [0, 1, 2, 3, 4, 5, 6, 7, 8] ?_)
 obtain ⟨j38, hj43, h44⟩ := bind_some h24
 refine P8 (fun f w => ∃ (F1 : Mem), HS wb Fb w F1 ((sb bp0 (Ad x0 (some ⟨b25, o26, none⟩) n0_0) 100) :: Lf) /\ P2 F0 F1 /\ FI f [] [(0, (pt bp0 0)), (2, (vi x21.at_)), (18, (.bool j38))]) ?_ ?_
 ·refine Vs 1 ?_
  obtain ⟨r45, hr46, h47⟩ := bind_some hj43
  refine CB BS (BX N bp0 x0 (some ⟨b25, o26, none⟩) n0_0 hb0_0 hs0_0 (([40] : Qo)) hs0 _ hr46) ?_
  rintro _ F2 w48 _ hs49 le50 ⟨rfl, rfl⟩
  refine Vs 1 ?_
  refine Sp h47 (fun hb52 h53 => ?_) (fun hb52 h54 => ?_)
  ·refine Vgs hb52 3 ?_
   refine Lg hb52 hs49.at0 ?_
   refine Vgs hb52 1 ?_
   refine Pk1 hb52 ?_
   obtain rfl := Ab h53
   exact PX ⟨rfl, F2, hs49, le50, fI⟩
  ·refine Ss hb52 5 ?_
   refine Pk0 hb52 ?_
   obtain rfl := Ab h54
   exact PX ⟨rfl, F2, hs49, le50, fI⟩
 ·rintro f w35 ⟨F1, hs36, le37, ⟨_, rfl⟩⟩
  refine Ac ?_
  refine Cd h44 (fun hb55 h56 => ?_) (fun hb55 h57 => ?_)
  ·refine Rg [0, 1, 2] ?_
   refine Vs 2 ?_
   obtain ⟨r58, hr59, h60⟩ := bind_some h56
   refine CP AH (AK N bp0 x0 (some ⟨b25, o26, none⟩) n0_0 hb0_0 (P5 hs0_0 le37) 2 x21.at_ hs36 _ hr59) ?_ ?_
   ·rintro _ _ _ _ _ rfl _ _ _; cases hr59
   ·rintro b63 F4 w64 rfl hs65 le66
    have h67 := A9 h60
    refine Ak ?_
    obtain rfl := Ab h67
    exact B3 hs65 (le37.trans le66)
  ·refine Sc ?_
   refine Ac ?_
   refine Sq (Rg [0, 1] ?_)
   refine Vs 1 ?_
   obtain ⟨r69, hr70, h71⟩ := bind_some h57
   refine CP AU (AX N bp0 x0 (some ⟨b25, o26, none⟩) n0_0 hb0_0 (P5 hs0_0 le37) (([40] : Qo)) hs36 _ hr70) ?_ ?_
   ·rintro r72 _ F5 w74 _ rfl hs75 le76 ⟨ar72_0_0, nr72_0_0, rfl, rfl, hbr72_0_0, hsr72_0_0⟩
    have h78 := BD h71
    refine Nt ?_
    refine Rg [0, 1, 2, 3, 4, 5, 6, 7] ?_
    refine Vs 3 ?_
    refine Ld hs75.at0 ?_
    refine Vs 3 ?_
    refine St0 #[(.slice ar72_0_0 r72.l_.length nr72_0_0), (vi (W64 (r72.open_ + 1)))] hs75 (fun w79 hs80 => ?_)
    refine PX ?_
    obtain rfl := Ab h78
    exact ReP [] hs80 (le37.trans le76) ⟨ar72_0_0, nr72_0_0, rfl, rfl, hbr72_0_0, hsr72_0_0⟩
   ·rintro b81 F6 w82 rfl hs83 le84
    have h85 := A9 h71
    refine Ak ?_
    obtain rfl := Ab h85
    exact B3 hs83 (le37.trans le84)
def CC (N : Nat) (x0 : Aa) : Option (Ah ⊕ Aa) :=
 ((AW N x0 ([41] : Qo)).bind fun r21 => sk r21 (fun b33 => some (.inl b33)) (fun r24 => some (.inr ({ l_ := r24.l_, open_ := (W64 (r24.open_ - 1)) } : Aa))))
theorem CW : An Tryz.prog 250 := fun _ _ => by kernel_rfl
theorem Dw (N : Nat) {wb w0 : World} {Fb F0 : Mem} {Lf : Own} (bp0 : Nat) (x0 : Aa) (a0_0 : Qp) (n0_0 : Nat) (hb0_0 : LC x0.l_.length n0_0) (hs0_0 : SlA Ae F0 a0_0 x0.l_) (hs0 : HS wb Fb w0 F0 ((sb bp0 (Ad x0 a0_0 n0_0) 100) :: Lf)) (r : (Ah ⊕ Aa)) (h : CC N x0 = some r) :
  Calls Tryz.prog 250 ([(pt bp0 0)] : List Value).toArray w0 (Bq wb Fb F0 Lf r (fun b => (.iface 158 (.agg (AF b)))) fun a F' v L' => ∃ (aq0_0 : Qp) (nq0_0 : Nat), v = (.tuple #[]) /\ L' = (sb bp0 (Ad a aq0_0 nq0_0) 100) :: Lf /\ LC a.l_.length nq0_0 /\ SlA Ae F' aq0_0 a.l_) := by
 refine Go 11 Tryz.func250 ?_
 refine Sq (Rg [0, 1] ?_)
 refine Vs 1 ?_
 obtain ⟨r21, hr22, h23⟩ := bind_some h
 refine CP AU (AX N bp0 x0 a0_0 n0_0 hb0_0 hs0_0 (([41] : Qo)) hs0 _ hr22) ?_ ?_
 ·rintro r24 _ F1 w26 _ rfl hs27 le28 ⟨ar24_0_0, nr24_0_0, rfl, rfl, hbr24_0_0, hsr24_0_0⟩
  have h30 := BD h23
  refine Nt ?_
  refine Rg [0, 1, 2, 3, 4, 5, 6, 7] ?_
  refine Vs 3 ?_
  refine Ld hs27.at0 ?_
  refine Vs 3 ?_
  refine St0 #[(.slice ar24_0_0 r24.l_.length nr24_0_0), (vi (W64 (r24.open_ - 1)))] hs27 (fun w31 hs32 => ?_)
  refine PX ?_
  obtain rfl := Ab h30
  exact ReP [] hs32 le28 ⟨ar24_0_0, nr24_0_0, rfl, rfl, hbr24_0_0, hsr24_0_0⟩
 ·rintro b33 F2 w34 rfl hs35 le36
  have h37 := A9 h23
  refine Ak ?_
  obtain rfl := Ab h37
  exact B3 hs35 le36
def DH (N : Nat) (sR145 : Aa -> Option (Ah ⊕ (Aa × Expr))) (x0 : Aa) : Option (Ah ⊕ (Aa × Expr)) :=
 ((idx x0.l_ 0).bind fun x24 => (((Ft N ).bind fun r56 => ((Cf N r56 x24.text_).bind fun r64 => some r64)).bind fun j48 => (bif (x24.kind_ == 1) then ((EW N x24.text_).bind fun r75 => (bif (r75.2 || ((decide ((x24.text_.length : Int) > 7)) || (decide (r75.1 > 1000000)))) then ((AM N x0 60 x24.at_).bind fun r97 => sk r97 (fun b102 => some (.inl b102)) (fun r100 => none)) else ((sub x0.l_ 1 (x0.l_.length : Int)).bind fun r108 => some (.inr (({ l_ := r108, open_ := x0.open_ } : Aa), ({ Op := 1, Value := r75.1, Kids := ([] : List Expr) } : Expr)))))) else (bif ((x24.kind_ == 2) && (decide (j48 >= 0))) then ((sub x0.l_ 1 (x0.l_.length : Int)).bind fun r133 => some (.inr (({ l_ := r133, open_ := x0.open_ } : Aa), ({ Op := 2, Value := j48, Kids := ([] : List Expr) } : Expr)))) else ((Ar N x0 ([105, 102] : Qo)).bind fun r145 => (bif r145.2 then ((CD N r145.1).bind fun r155 => sk r155 (fun b291 => some (.inl b291)) (fun r158 => ((sR145 r158).bind fun r165 => sk r165 (fun b285 => some (.inl b285)) (fun r168 => ((AW N r168.1 ([44] : Qo)).bind fun r180 => sk r180 (fun b279 => some (.inl b279)) (fun r183 => ((sR145 r183).bind fun r190 => sk r190 (fun b273 => some (.inl b273)) (fun r193 => ((AW N r193.1 ([44] : Qo)).bind fun r206 => sk r206 (fun b267 => some (.inl b267)) (fun r209 => ((sR145 r209).bind fun r216 => sk r216 (fun b261 => some (.inl b261)) (fun r219 => ((CC N r219.1).bind fun r232 => sk r232 (fun b254 => some (.inl b254)) (fun r235 => some (.inr (r235, ({ Op := 11, Value := 0, Kids := [r168.2, r193.2, r219.2] } : Expr))))))))))))))))) else ((AL N r145.1 ([40] : Qo)).bind fun r297 => (bif r297 then ((CD N r145.1).bind fun r307 => sk r307 (fun b356 => some (.inl b356)) (fun r310 => ((sR145 r310).bind fun r317 => sk r317 (fun b350 => some (.inl b350)) (fun r320 => ((CC N r320.1).bind fun r332 => sk r332 (fun b344 => some (.inl b344)) (fun r335 => some (.inr (r335, r320.2)))))))) else ((AM N r145.1 60 x24.at_).bind fun r362 => sk r362 (fun b367 => some (.inl b367)) (fun r365 => none))))))))))
theorem FY (N : Nat) (sR145 : Aa -> Option (Ah ⊕ (Aa × Expr))) (hsR145 : K5 sR145) {wb w0 : World} {Fb F0 : Mem} {Lf : Own} (hG : Ce F0) (bp0 : Nat) (x0 : Aa) (a0_0 : Qp) (n0_0 : Nat) (hb0_0 : LC x0.l_.length n0_0) (hs0_0 : SlA Ae F0 a0_0 x0.l_) (hs0 : HS wb Fb w0 F0 ((sb bp0 (Ad x0 a0_0 n0_0) 100) :: Lf)) (r : (Ah ⊕ (Aa × Expr))) (h : DH N sR145 x0 = some r) :
  Calls Tryz.prog 243 ([(pt bp0 0)] : List Value).toArray w0 (Bq wb Fb F0 Lf r (fun b => (.iface 158 (.agg (AF b)))) fun a F' v L' => ∃ (aq0_0 : Qp) (nq0_0 : Nat) (aq1_2 : Qp) (nq1_2 : Nat), v = (.agg (Ag a.2 aq1_2 nq1_2)) /\ L' = (sb bp0 (Ad a.1 aq0_0 nq0_0) 100) :: Lf /\ LC a.1.l_.length nq0_0 /\ SlA Ae F' aq0_0 a.1.l_ /\ LC a.2.Kids.length nq1_2 /\ SlA Ao F' aq1_2 a.2.Kids) := by
 refine Go 112 Tryz.func243 ?_
 refine Sq (Rg [0] ?_)
 refine Al' 33 #[(vi 0), (vi 0), (.slice none ([] : List Expr).length 0)] hs0 (fun b21 w22 hs23 => ?_)
 refine Nss (Rg [0, 1, 2, 3, 4, 5, 6, 7] ?_)
 refine Vs 3 ?_
 refine Ld hs23.at1 ?_
 obtain ⟨x24, hx25, h27⟩ := bind_some h
 obtain ⟨hi26, hx25'⟩ := Aw hx25
 obtain ⟨b28, o29, C30, E31, fz32, rfl, hF34, hE35⟩ := Qd hs0_0 hx25'
 have hc37 := hE35 _ _ hx25'
 refine Ix hi26 ?_
 refine Lx 0 (hs23.pers _ _ hF34) hc37 ?_
 refine Al' 97 #[(vi 0), (vi 0), (.string ⟨(([] : Qo)).toArray⟩)] hs23 (fun b38 w39 hs40 => ?_)
 refine St0 (A1 x24) hs40 (fun w41 hs42 => ?_)
 refine Nss ?_
 refine Sq ?_
 obtain ⟨j48, hj54, h55⟩ := bind_some h27
 refine RD 5 5 [(sb b38 (A1 x24) 97), (sb b21 #[(vi 0), (vi 0), (.slice none ([] : List Expr).length 0)] 33), (sb bp0 (Ad x0 (some ⟨b28, o29, none⟩) n0_0) 100)] [] hs42 (fun f w => ∃ (F1 : Mem), HS wb Fb w F1 ((sb b38 (A1 x24) 97) :: (sb b21 #[(vi 0), (vi 0), (.slice none ([] : List Expr).length 0)] 33) :: (sb bp0 (Ad x0 (some ⟨b28, o29, none⟩) n0_0) 100) :: Lf) /\ P2 F0 F1 /\ FI f [] [(0, (pt bp0 0)), (2, (pt b21 0)), (3, (pt b38 0)), (4, (vi j48))]) (fun wd43 hw44 => ?_) ?_
 ·refine Dv [1] ?_
  refine Dl 2 (fun _ hq => (hq.1.2 0 _ _ rfl)) ?_
  refine D1 0 ?_
  obtain ⟨r56, hr57, h58⟩ := bind_some hj54
  refine DCl FO hw44 (GF N wd43 F0 hw44.pers  _ hr57) ?_
  rintro _ F2 w60 hs61 le62 ⟨ar56_0_0, nr56_0_0, rfl, hbr56_0_0, hsr56_0_0⟩
  refine D1 3 ?_
  obtain ⟨r64, hr65, h66⟩ := bind_some h58
  refine DCl Dp hs61 (DC N w60 F2 hs61.pers r56 ar56_0_0 nr56_0_0 hbr56_0_0 hsr56_0_0 x24.text_ _ hr65) ?_
  rintro _ F3 w68 hs69 le70 rfl
  refine Dv [4] ?_
  obtain rfl := Ab h66
  exact Qi (by kernel_rfl) ⟨F3, hs69, (le62.trans le70), fI⟩
 ·rintro f w45 ⟨F1, hs46, le47, ⟨_, rfl⟩⟩
  refine Ac ?_
  refine Bk ?_
  refine Sq (Rg [0, 1, 2, 3] ?_)
  refine Vs 1 ?_
  refine Ld hs46.at0 ?_
  refine Vs 2 ?_
  refine Nt ?_
  refine Cd h55 (fun hb72 h73 => ?_) (fun hb72 h74 => ?_)
  ·refine Sq (Rg [0, 1, 2, 3, 4, 5, 6, 7] ?_)
   refine Vs 1 ?_
   refine Ld hs46.at0 ?_
   obtain ⟨r75, hr76, h77⟩ := bind_some h73
   refine Cl' IW hs46 (JI N w45 F1 hs46.pers (hG.mono le47) x24.text_ _ hr76) ?_
   rintro _ F4 w79 hs80 le81 ⟨vr75_1_0, rfl, her75_1_0⟩
   refine Vs 5 ?_
   refine Nss ?_
   refine Sq (Rg [0, 1, 2, 3, 4, 5, 6, 7, 8, 9, 10, 11] ?_)
   refine P8 (fun f w => ∃ (F5 : Mem), HS wb Fb w F5 ((sb b38 (A1 x24) 97) :: (sb b21 #[(vi 0), (vi 0), (.slice none ([] : List Expr).length 0)] 33) :: (sb bp0 (Ad x0 (some ⟨b28, o29, none⟩) n0_0) 100) :: Lf) /\ P2 F4 F5 /\ FI f [] [(0, (pt bp0 0)), (2, (pt b21 0)), (3, (pt b38 0)), (5, (vi r75.1)), (42, (.bool (r75.2 || ((decide ((x24.text_.length : Int) > 7)) || (decide (r75.1 > 1000000))))))]) ?_ ?_
   ·refine Vs 1 ?_
    refine V 32 4 (GK (t := 134) (t' := 134) (x := (.tmp 31)) (c := .nilIface) her75_1_0 rfl rfl (by kernel_rfl)) ?_
    refine Vs 1 ?_
    refine P7 r75.2 (fun hb92 => ?_) (fun hb92 => ?_)
    ·refine Ss hb92 4 ?_
     refine Pk1 hb92 ?_
     refine Vs 1 ?_
     refine Ss (rfl : true = true) 2 ?_
     refine Pk1 (rfl : true = true) ?_
     exact PX ⟨rfl, F4, hs80, (P3 _), (fJ ⟨rfl, rfl, rfl, rfl, (congrArg Value.bool (EA hb92 rfl)), trivial⟩)⟩
    ·refine Vgs hb92 1 ?_
     refine Lg hb92 hs80.at0 ?_
     refine Vgs hb92 2 ?_
     refine Pk0 hb92 ?_
     refine Vs 1 ?_
     refine P7 (decide ((x24.text_.length : Int) > 7)) (fun hb93 => ?_) (fun hb93 => ?_)
     ·refine Ss hb93 2 ?_
      refine Pk1 hb93 ?_
      exact PX ⟨rfl, F4, hs80, (P3 _), (fJ ⟨rfl, rfl, rfl, rfl, (congrArg Value.bool (Bg hb92 (EA hb93 rfl))), trivial⟩)⟩
     ·refine Vgs hb93 2 ?_
      refine Pk0 hb93 ?_
      exact PX ⟨rfl, F4, hs80, (P3 _), (fJ ⟨rfl, rfl, rfl, rfl, (congrArg Value.bool (Bg hb92 (Bg hb93 rfl))), trivial⟩)⟩
   ·rintro f w83 ⟨F5, hs84, le85, ⟨_, rfl⟩⟩
    refine Ac ?_
    refine Cd h77 (fun hb94 h95 => ?_) (fun hb94 h96 => ?_)
    ·refine Rg [0, 1, 2, 3] ?_
     refine Vs 2 ?_
     refine Ld hs84.at0 ?_
     obtain ⟨r97, hr98, h99⟩ := bind_some h95
     refine CP AH (AK N bp0 x0 (some ⟨b28, o29, none⟩) n0_0 hb0_0 (P5 hs0_0 ((le47.trans le81).trans le85)) 60 x24.at_ hs84.pk1.pk1.pk2 _ hr98) ?_ ?_
     ·rintro _ _ _ _ _ rfl _ _ _; cases hr98
     ·rintro b102 F7 w103 rfl hs104 le105
      have h106 := A9 h99
      refine Ak ?_
      refine AJ ?_
      refine Ak ?_
      obtain rfl := Ab h106
      exact B3 hs104.dr0.dr0 (((le47.trans le81).trans le85).trans le105)
    ·refine Sc ?_
     refine Ac ?_
     refine Sq (Rg [0, 1, 2, 3, 4, 5, 6, 7, 8] ?_)
     refine Vs 4 ?_
     refine Ld hs84.at2 ?_
     obtain ⟨r108, hr109, h110⟩ := bind_some h96
     obtain ⟨a111, n112, hb113, hs114, hrun115⟩ := Jq (P := Tryz.prog) (T := Ae) (lo := (some (.const (vi 1)))) (hi := none) (mx := none) (t := 98) (E := 97) (by_ := 32) (c := n0_0) (a := (some ⟨b28, o29, none⟩)) (l := x0.l_) (r := r108) (il := 1) (ih := (x0.l_.length : Int)) (im := 0) (by kernel_rfl) (by kernel_rfl) hb0_0 (P5 hs0_0 ((le47.trans le81).trans le85)) (fun h => by first | rfl | cases h) hr109
     refine V 52 98 (hrun115 (x := (.tmp 51)) rfl rfl rfl trivial) ?_
     refine Vs 2 ?_
     refine St2 #[(.slice a111 r108.length n112), (vi x0.open_)] hs84 (fun w116 hs117 => ?_)
     refine Nss (Rg [0, 1, 2] ?_)
     refine Vs 2 ?_
     refine St1 #[(vi 1), (vi r75.1), (.slice none ([] : List Expr).length 0)] hs117 (fun w118 hs119 => ?_)
     refine Nt ?_
     refine Rt ?_
     refine Ai ?_
     refine Af ?_
     obtain rfl := Ab h110
     exact ⟨rfl, (.agg #[(vi 1), (vi r75.1), (.slice none ([] : List Expr).length 0)]), Ay (l := [.cell 2 33]) (by kernel_rfl) (vs := [(.agg #[(vi 1), (vi r75.1), (.slice none ([] : List Expr).length 0)])]) ⟨b21, 0, rfl, Aj (t := 33) (g := true) (s := 3) (by kernel_rfl) hs119.at1 rfl (by decide), trivial⟩, .inl ⟨_, F5, _, _, rfl, rfl, hs119.dr0.dr0, ((le47.trans le81).trans le85), ⟨a111, n112, none, 0, rfl, rfl, hb113, hs114, P6, (.inl rfl)⟩⟩⟩
  ·refine Sq (Rg [0, 1, 2, 3, 4, 5, 6, 7] ?_)
   refine P8 (fun f w => ∃ (F8 : Mem), HS wb Fb w F8 ((sb b38 (A1 x24) 97) :: (sb b21 #[(vi 0), (vi 0), (.slice none ([] : List Expr).length 0)] 33) :: (sb bp0 (Ad x0 (some ⟨b28, o29, none⟩) n0_0) 100) :: Lf) /\ P2 F1 F8 /\ FI f [] [(0, (pt bp0 0)), (2, (pt b21 0)), (3, (pt b38 0)), (4, (vi j48)), (57, (.bool ((x24.kind_ == 2) && (decide (j48 >= 0)))))]) ?_ ?_
   ·refine Vs 1 ?_
    refine Ld hs46.at0 ?_
    refine Vs 2 ?_
    refine P7 (x24.kind_ == 2) (fun hb129 => ?_) (fun hb129 => ?_)
    ·refine Vgs hb129 2 ?_
     refine Pk1 hb129 ?_
     refine Vs 1 ?_
     exact PX ⟨rfl, F1, hs46, (P3 _), (fJ ⟨rfl, rfl, rfl, rfl, (congrArg Value.bool (B9 hb129 rfl)), trivial⟩)⟩
    ·refine Ss hb129 2 ?_
     refine Pk0 hb129 ?_
     refine Vs 1 ?_
     exact PX ⟨rfl, F1, hs46, (P3 _), (fJ ⟨rfl, rfl, rfl, rfl, (congrArg Value.bool (DO hb129 rfl)), trivial⟩)⟩
   ·rintro f w120 ⟨F8, hs121, le122, ⟨_, rfl⟩⟩
    refine Ac ?_
    refine Cd h74 (fun hb130 h131 => ?_) (fun hb130 h132 => ?_)
    ·refine Sq (Rg [0, 1, 2, 3, 4, 5, 6, 7, 8] ?_)
     refine Vs 4 ?_
     refine Ld hs121.at2 ?_
     obtain ⟨r133, hr134, h135⟩ := bind_some h131
     obtain ⟨a136, n137, hb138, hs139, hrun140⟩ := Jq (P := Tryz.prog) (T := Ae) (lo := (some (.const (vi 1)))) (hi := none) (mx := none) (t := 98) (E := 97) (by_ := 32) (c := n0_0) (a := (some ⟨b28, o29, none⟩)) (l := x0.l_) (r := r133) (il := 1) (ih := (x0.l_.length : Int)) (im := 0) (by kernel_rfl) (by kernel_rfl) hb0_0 (P5 hs0_0 (le47.trans le122)) (fun h => by first | rfl | cases h) hr134
     refine V 70 98 (hrun140 (x := (.tmp 69)) rfl rfl rfl trivial) ?_
     refine Vs 2 ?_
     refine St2 #[(.slice a136 r133.length n137), (vi x0.open_)] hs121 (fun w141 hs142 => ?_)
     refine Nss (Rg [0, 1, 2] ?_)
     refine Vs 2 ?_
     refine St1 #[(vi 2), (vi j48), (.slice none ([] : List Expr).length 0)] hs142 (fun w143 hs144 => ?_)
     refine Nt ?_
     refine Rt ?_
     refine Ai ?_
     refine Af ?_
     obtain rfl := Ab h135
     exact ⟨rfl, (.agg #[(vi 2), (vi j48), (.slice none ([] : List Expr).length 0)]), Ay (l := [.cell 2 33]) (by kernel_rfl) (vs := [(.agg #[(vi 2), (vi j48), (.slice none ([] : List Expr).length 0)])]) ⟨b21, 0, rfl, Aj (t := 33) (g := true) (s := 3) (by kernel_rfl) hs144.at1 rfl (by decide), trivial⟩, .inl ⟨_, F8, _, _, rfl, rfl, hs144.dr0.dr0, (le47.trans le122), ⟨a136, n137, none, 0, rfl, rfl, hb138, hs139, P6, (.inl rfl)⟩⟩⟩
    ·refine Sq (Rg [0, 1, 2] ?_)
     refine Vs 1 ?_
     obtain ⟨r145, hr146, h147⟩ := bind_some h132
     refine CB AD (AE N bp0 x0 (some ⟨b28, o29, none⟩) n0_0 hb0_0 (P5 hs0_0 (le47.trans le122)) (([105, 102] : Qo)) hs121.pk1.pk1.pk2 _ hr146) ?_
     rintro _ F9 w148 _ hs149 le150 ⟨ar145_0_0, nr145_0_0, rfl, rfl, hbr145_0_0, hsr145_0_0⟩
     refine Vs 1 ?_
     refine Nt ?_
     refine Cd h147 (fun hb152 h153 => ?_) (fun hb152 h154 => ?_)
     ·refine Sq (Rg [0, 1] ?_)
      refine Vs 1 ?_
      obtain ⟨r155, hr156, h157⟩ := bind_some h153
      refine CP CX (Dy N bp0 r145.1 ar145_0_0 nr145_0_0 hbr145_0_0 hsr145_0_0 hs149 _ hr156) ?_ ?_
      ·rintro r158 _ F10 w160 _ rfl hs161 le162 ⟨ar158_0_0, nr158_0_0, rfl, rfl, hbr158_0_0, hsr158_0_0⟩
       have h164 := BD h157
       refine Nss (Rg [0, 1, 2, 3] ?_)
       refine Vs 1 ?_
       obtain ⟨r165, hr166, h167⟩ := bind_some h164
       refine CP Bp (hsR145 (hG.mono (((le47.trans le122).trans le150).trans le162)) bp0 r158 ar158_0_0 nr158_0_0 hbr158_0_0 hsr158_0_0 hs161 _ hr166) ?_ ?_
       ·rintro r168 _ F11 w170 _ rfl hs171 le172 ⟨ar168_0_0, nr168_0_0, ar168_1_2, nr168_1_2, rfl, rfl, hbr168_0_0, hsr168_0_0, hbr168_1_2, hsr168_1_2⟩
        have h174 := BD h167
        refine Al' 33 #[(vi 0), (vi 0), (.slice none ([] : List Expr).length 0)] hs171 (fun b175 w176 hs177 => ?_)
        refine St0 (Ag r168.2 ar168_1_2 nr168_1_2) hs177 (fun w178 hs179 => ?_)
        refine Nss (Rg [0, 1] ?_)
        refine Vs 1 ?_
        obtain ⟨r180, hr181, h182⟩ := bind_some h174
        refine CP AU (AX N bp0 r168.1 ar168_0_0 nr168_0_0 hbr168_0_0 hsr168_0_0 (([44] : Qo)) hs179.pk3.pk3.pk2.pk3 _ hr181) ?_ ?_
        ·rintro r183 _ F12 w185 _ rfl hs186 le187 ⟨ar183_0_0, nr183_0_0, rfl, rfl, hbr183_0_0, hsr183_0_0⟩
         have h189 := BD h182
         refine Nss (Rg [0, 1, 2, 3] ?_)
         refine Vs 1 ?_
         obtain ⟨r190, hr191, h192⟩ := bind_some h189
         refine CP Bp (hsR145 (hG.mono (((((le47.trans le122).trans le150).trans le162).trans le172).trans le187)) bp0 r183 ar183_0_0 nr183_0_0 hbr183_0_0 hsr183_0_0 hs186 _ hr191) ?_ ?_
         ·rintro r193 _ F13 w195 _ rfl hs196 le197 ⟨ar193_0_0, nr193_0_0, ar193_1_2, nr193_1_2, rfl, rfl, hbr193_0_0, hsr193_0_0, hbr193_1_2, hsr193_1_2⟩
          have h199 := BD h192
          refine Al' 33 #[(vi 0), (vi 0), (.slice none ([] : List Expr).length 0)] hs196 (fun b200 w201 hs202 => ?_)
          refine St0 (Ag r193.2 ar193_1_2 nr193_1_2) hs202 (fun w203 hs204 => ?_)
          refine Nss (Rg [0, 1] ?_)
          refine Vs 1 ?_
          have hs205 := hs204.pk4.pk4.pk4.pk3.pk4
          obtain ⟨r206, hr207, h208⟩ := bind_some h199
          refine CP AU (AX N bp0 r193.1 ar193_0_0 nr193_0_0 hbr193_0_0 hsr193_0_0 (([44] : Qo)) hs205 _ hr207) ?_ ?_
          ·rintro r209 _ F14 w211 _ rfl hs212 le213 ⟨ar209_0_0, nr209_0_0, rfl, rfl, hbr209_0_0, hsr209_0_0⟩
           have h215 := BD h208
           refine Nss (Rg [0, 1, 2, 3] ?_)
           refine Vs 1 ?_
           obtain ⟨r216, hr217, h218⟩ := bind_some h215
           refine CP Bp (hsR145 (hG.mono (((((((le47.trans le122).trans le150).trans le162).trans le172).trans le187).trans le197).trans le213)) bp0 r209 ar209_0_0 nr209_0_0 hbr209_0_0 hsr209_0_0 hs212 _ hr217) ?_ ?_
           ·rintro r219 _ F15 w221 _ rfl hs222 le223 ⟨ar219_0_0, nr219_0_0, ar219_1_2, nr219_1_2, rfl, rfl, hbr219_0_0, hsr219_0_0, hbr219_1_2, hsr219_1_2⟩
            have h225 := BD h218
            refine Al' 33 #[(vi 0), (vi 0), (.slice none ([] : List Expr).length 0)] hs222 (fun b226 w227 hs228 => ?_)
            refine St0 (Ag r219.2 ar219_1_2 nr219_1_2) hs228 (fun w229 hs230 => ?_)
            refine Nss (Rg [0, 1] ?_)
            refine Vs 1 ?_
            have hs231 := hs230.pk5.pk5.pk5.pk5.pk4
            obtain ⟨r232, hr233, h234⟩ := bind_some h225
            refine CP CW (Dw N bp0 r219.1 ar219_0_0 nr219_0_0 hbr219_0_0 hsr219_0_0 hs231.pk5 _ hr233) ?_ ?_
            ·rintro r235 _ F16 w237 _ rfl hs238 le239 ⟨ar235_0_0, nr235_0_0, rfl, rfl, hbr235_0_0, hsr235_0_0⟩
             have h241 := BD h234
             refine Nss (Rg [0, 1, 2, 3, 4, 5] ?_)
             refine Ld hs238.at3 ?_
             refine Ld hs238.at2 ?_
             refine Ld hs238.at1 ?_
             refine Bs 33 [(vi r168.2.Op), (vi r168.2.Value), (.slice ar168_1_2 r168.2.Kids.length nr168_1_2), (vi r193.2.Op), (vi r193.2.Value), (.slice ar193_1_2 r193.2.Kids.length nr193_1_2), (vi r219.2.Op), (vi r219.2.Value), (.slice ar219_1_2 r219.2.Kids.length nr219_1_2)] hs238 (fun b242 w243 hs244 => ?_)
             have hr246 : Aq Ao 33 F16 (some ⟨b242, 0, none⟩) 3 [r168.2, r193.2, r219.2] (some b242, .cells ([(vi r168.2.Op), (vi r168.2.Value), (.slice ar168_1_2 r168.2.Kids.length nr168_1_2), (vi r193.2.Op), (vi r193.2.Value), (.slice ar193_1_2 r193.2.Kids.length nr193_1_2), (vi r219.2.Op), (vi r219.2.Value), (.slice ar219_1_2 r219.2.Kids.length nr219_1_2)] : List Value).toArray 33 (0, 0)) := Ql ⟨(AY ⟨ar168_1_2, nr168_1_2, rfl, hbr168_1_2, (P5 hsr168_1_2 ((((le187.trans le197).trans le213).trans le223).trans le239))⟩), ⟨(AY ⟨ar193_1_2, nr193_1_2, rfl, hbr193_1_2, (P5 hsr193_1_2 ((le213.trans le223).trans le239))⟩), ⟨(AY ⟨ar219_1_2, nr219_1_2, rfl, hbr219_1_2, (P5 hsr219_1_2 le239)⟩), rfl⟩⟩⟩ (by simp)
             refine Vs 1 ?_
             refine St6 #[(vi 11), (vi 0), (.slice (some ⟨b242, 0, none⟩) [r168.2, r193.2, r219.2].length 3)] hs244 (fun w247 hs248 => ?_)
             refine Nt ?_
             refine Rt ?_
             refine Ai ?_
             refine Af ?_
             have hb252 := Qj hr246
             obtain ⟨F17, hs249, le250, hs251⟩ := hs248.fr0 hr246
             have hs253 := hs249.dr1.dr1.dr1.dr1.dr1
             obtain rfl := Ab h241
             exact ⟨rfl, (.agg #[(vi 11), (vi 0), (.slice (some ⟨b242, 0, none⟩) [r168.2, r193.2, r219.2].length 3)]), Ay (l := [.cell 2 33]) (by kernel_rfl) (vs := [(.agg #[(vi 11), (vi 0), (.slice (some ⟨b242, 0, none⟩) [r168.2, r193.2, r219.2].length 3)])]) ⟨b21, 0, rfl, Aj (t := 33) (g := true) (s := 3) (by kernel_rfl) hs249.at5 rfl (by decide), trivial⟩, .inl ⟨_, F17, _, _, rfl, rfl, hs253, ((((((((((le47.trans le122).trans le150).trans le162).trans le172).trans le187).trans le197).trans le213).trans le223).trans le239).trans le250), ⟨ar235_0_0, nr235_0_0, (some ⟨b242, 0, none⟩), 3, rfl, rfl, hbr235_0_0, (P5 hsr235_0_0 le250), hb252, hs251⟩⟩⟩
            ·rintro b254 F18 w255 rfl hs256 le257
             have h258 := A9 h234
             refine Ak ?_
             refine AJ ?_
             refine Ak ?_
             have hs260 := hs256.dr0.dr0.dr0.dr0.dr0
             obtain rfl := Ab h258
             exact B3 hs260 (((((((((le47.trans le122).trans le150).trans le162).trans le172).trans le187).trans le197).trans le213).trans le223).trans le257)
           ·rintro b261 F19 w262 rfl hs263 le264
            have h265 := A9 h218
            refine Ak ?_
            refine AJ ?_
            refine Ak ?_
            obtain rfl := Ab h265
            exact B3 hs263.dr0.dr0.dr0.dr0 ((((((((le47.trans le122).trans le150).trans le162).trans le172).trans le187).trans le197).trans le213).trans le264)
          ·rintro b267 F20 w268 rfl hs269 le270
           have h271 := A9 h208
           refine Ak ?_
           refine AJ ?_
           refine Ak ?_
           obtain rfl := Ab h271
           exact B3 hs269.dr0.dr0.dr0.dr0 (((((((le47.trans le122).trans le150).trans le162).trans le172).trans le187).trans le197).trans le270)
         ·rintro b273 F21 w274 rfl hs275 le276
          have h277 := A9 h192
          refine Ak ?_
          refine AJ ?_
          refine Ak ?_
          obtain rfl := Ab h277
          exact B3 hs275.dr0.dr0.dr0 ((((((le47.trans le122).trans le150).trans le162).trans le172).trans le187).trans le276)
        ·rintro b279 F22 w280 rfl hs281 le282
         have h283 := A9 h182
         refine Ak ?_
         refine AJ ?_
         refine Ak ?_
         obtain rfl := Ab h283
         exact B3 hs281.dr0.dr0.dr0 (((((le47.trans le122).trans le150).trans le162).trans le172).trans le282)
       ·rintro b285 F23 w286 rfl hs287 le288
        have h289 := A9 h167
        refine Ak ?_
        refine AJ ?_
        refine Ak ?_
        obtain rfl := Ab h289
        exact B3 hs287.dr0.dr0 ((((le47.trans le122).trans le150).trans le162).trans le288)
      ·rintro b291 F24 w292 rfl hs293 le294
       have h295 := A9 h157
       refine Ak ?_
       refine AJ ?_
       refine Ak ?_
       obtain rfl := Ab h295
       exact B3 hs293.dr0.dr0 (((le47.trans le122).trans le150).trans le294)
     ·refine Sq (Rg [0, 1, 2] ?_)
      refine Vs 1 ?_
      obtain ⟨r297, hr298, h299⟩ := bind_some h154
      refine CB BS (BX N bp0 r145.1 ar145_0_0 nr145_0_0 hbr145_0_0 hsr145_0_0 (([40] : Qo)) hs149 _ hr298) ?_
      rintro _ F25 w300 _ hs301 le302 ⟨rfl, rfl⟩
      refine Vs 1 ?_
      refine Nt ?_
      refine Cd h299 (fun hb304 h305 => ?_) (fun hb304 h306 => ?_)
      ·refine Sq (Rg [0, 1] ?_)
       refine Vs 1 ?_
       obtain ⟨r307, hr308, h309⟩ := bind_some h305
       refine CP CX (Dy N bp0 r145.1 ar145_0_0 nr145_0_0 hbr145_0_0 (P5 hsr145_0_0 le302) hs301 _ hr308) ?_ ?_
       ·rintro r310 _ F26 w312 _ rfl hs313 le314 ⟨ar310_0_0, nr310_0_0, rfl, rfl, hbr310_0_0, hsr310_0_0⟩
        have h316 := BD h309
        refine Nss (Rg [0, 1, 2, 3] ?_)
        refine Vs 1 ?_
        obtain ⟨r317, hr318, h319⟩ := bind_some h316
        refine CP Bp (hsR145 (hG.mono ((((le47.trans le122).trans le150).trans le302).trans le314)) bp0 r310 ar310_0_0 nr310_0_0 hbr310_0_0 hsr310_0_0 hs313 _ hr318) ?_ ?_
        ·rintro r320 _ F27 w322 _ rfl hs323 le324 ⟨ar320_0_0, nr320_0_0, ar320_1_2, nr320_1_2, rfl, rfl, hbr320_0_0, hsr320_0_0, hbr320_1_2, hsr320_1_2⟩
         have h326 := BD h319
         refine Al' 33 #[(vi 0), (vi 0), (.slice none ([] : List Expr).length 0)] hs323 (fun b327 w328 hs329 => ?_)
         refine St0 (Ag r320.2 ar320_1_2 nr320_1_2) hs329 (fun w330 hs331 => ?_)
         refine Nss (Rg [0, 1] ?_)
         refine Vs 1 ?_
         obtain ⟨r332, hr333, h334⟩ := bind_some h326
         refine CP CW (Dw N bp0 r320.1 ar320_0_0 nr320_0_0 hbr320_0_0 hsr320_0_0 hs331.pk3.pk3.pk2.pk3 _ hr333) ?_ ?_
         ·rintro r335 _ F28 w337 _ rfl hs338 le339 ⟨ar335_0_0, nr335_0_0, rfl, rfl, hbr335_0_0, hsr335_0_0⟩
          have h341 := BD h334
          refine Nss (Rg [0, 1] ?_)
          refine Ld hs338.at1 ?_
          refine St3 (Ag r320.2 ar320_1_2 nr320_1_2) hs338 (fun w342 hs343 => ?_)
          refine Nt ?_
          refine Rt ?_
          refine Ai ?_
          refine Af ?_
          obtain rfl := Ab h341
          exact ⟨rfl, (.agg (Ag r320.2 ar320_1_2 nr320_1_2)), Ay (l := [.cell 2 33]) (by kernel_rfl) (vs := [(.agg (Ag r320.2 ar320_1_2 nr320_1_2))]) ⟨b21, 0, rfl, Aj (t := 33) (g := true) (s := 3) (by kernel_rfl) hs343.at3 rfl (by decide), trivial⟩, .inl ⟨_, F28, _, _, rfl, rfl, hs343.dr1.dr1.dr1, ((((((le47.trans le122).trans le150).trans le302).trans le314).trans le324).trans le339), ⟨ar335_0_0, nr335_0_0, ar320_1_2, nr320_1_2, rfl, rfl, hbr335_0_0, hsr335_0_0, hbr320_1_2, (P5 hsr320_1_2 le339)⟩⟩⟩
         ·rintro b344 F29 w345 rfl hs346 le347
          have h348 := A9 h334
          refine Ak ?_
          refine AJ ?_
          refine Ak ?_
          obtain rfl := Ab h348
          exact B3 hs346.dr0.dr0.dr0 ((((((le47.trans le122).trans le150).trans le302).trans le314).trans le324).trans le347)
        ·rintro b350 F30 w351 rfl hs352 le353
         have h354 := A9 h319
         refine Ak ?_
         refine AJ ?_
         refine Ak ?_
         obtain rfl := Ab h354
         exact B3 hs352.dr0.dr0 (((((le47.trans le122).trans le150).trans le302).trans le314).trans le353)
       ·rintro b356 F31 w357 rfl hs358 le359
        have h360 := A9 h309
        refine Ak ?_
        refine AJ ?_
        refine Ak ?_
        obtain rfl := Ab h360
        exact B3 hs358.dr0.dr0 ((((le47.trans le122).trans le150).trans le302).trans le359)
      ·refine Sc ?_
       refine Av ?_
       refine Ac ?_
       refine Sq (Rg [0, 1, 2, 3] ?_)
       refine Vs 2 ?_
       refine Ld hs301.at1 ?_
       obtain ⟨r362, hr363, h364⟩ := bind_some h306
       refine CP AH (AK N bp0 r145.1 ar145_0_0 nr145_0_0 hbr145_0_0 (P5 hsr145_0_0 le302) 60 x24.at_ hs301 _ hr363) ?_ ?_
       ·rintro _ _ _ _ _ rfl _ _ _; cases hr363
       ·rintro b367 F33 w368 rfl hs369 le370
        have h371 := A9 h364
        refine Ak ?_
        obtain rfl := Ab h371
        exact B3 hs369.dr0.dr0 ((((le47.trans le122).trans le150).trans le302).trans le370)
structure Ph where
 q145 : Aa -> Option (Ah ⊕ (Aa × Expr))
 q185 : Aa -> Option (Ah ⊕ (Aa × Expr))
 q212 : Aa -> Option (Ah ⊕ (Aa × Expr))
 q226 : Aa -> Option (Ah ⊕ (Aa × Expr))
 q233 : Aa -> Option (Ah ⊕ (Aa × Expr))
 q239 : Aa -> Option (Ah ⊕ (Aa × Expr))
 q243 : Aa -> Option (Ah ⊕ (Aa × Expr))
def BE (N : Nat) : Nat -> Ph
 | 0 => ⟨fun _ => none, fun _ => none, fun _ => none, fun _ => none, fun _ => none, fun _ => none, fun _ => none⟩
 | k + 1 => ⟨DI N (BE N k).q185, DK N (BE N k).q212, DJ N (BE N k).q212 (BE N k).q226, DF N (BE N k).q233, D6 N (BE N k).q239, DG N (BE N k).q243, DH N (BE N k).q145⟩
theorem Ko (N : Nat) : ∀ k, K5 (BE N k).q145 /\ K2 (BE N k).q185 /\ Jd (BE N k).q212 /\ K0 (BE N k).q226 /\ KZ (BE N k).q233 /\ KY (BE N k).q239 /\ KX (BE N k).q243
 | 0 => ⟨(by unfold K5; intros; rename_i h; cases h), (by unfold K2; intros; rename_i h; cases h), (by unfold Jd; intros; rename_i h; cases h), (by unfold K0; intros; rename_i h; cases h), (by unfold KZ; intros; rename_i h; cases h), (by unfold KY; intros; rename_i h; cases h), (by unfold KX; intros; rename_i h; cases h)⟩
 | k + 1 => by
  have ih := Ko N k
  exact ⟨@FZ N (BE N k).q185 ih.2.1, @Gb N (BE N k).q212 ih.2.2.1, @Ga N (BE N k).q212 ih.2.2.1 (BE N k).q226 ih.2.2.2.1, @FV N (BE N k).q233 ih.2.2.2.2.1, @Gp N (BE N k).q239 ih.2.2.2.2.2.1, @FX N (BE N k).q243 ih.2.2.2.2.2.2, @FY N (BE N k).q145 ih.1⟩
def Em (N : Nat) (x0 : Aa) : Option (Ah ⊕ (Aa × Expr)) := (BE N N).q145 x0
theorem Gl (N : Nat) {wb w0 : World} {Fb F0 : Mem} {Lf : Own} (hG : Ce F0) (bp0 : Nat) (x0 : Aa) (a0_0 : Qp) (n0_0 : Nat) (hb0_0 : LC x0.l_.length n0_0) (hs0_0 : SlA Ae F0 a0_0 x0.l_) (hs0 : HS wb Fb w0 F0 ((some bp0, (.cells #[(.slice a0_0 x0.l_.length n0_0), (.int .i64 x0.open_)] 100 (0, 0))) :: Lf)) (r : (Ah ⊕ (Aa × Expr))) (h : Em N x0 = some r) :
  Calls Tryz.prog 145 ([(.pointer (some ⟨bp0, 0, none⟩))] : List Value).toArray w0 (Bq wb Fb F0 Lf r (fun b => (.iface 158 (.agg #[(.int .i64 b.e_), (.int .i64 b.at_)]))) fun a F' v L' => ∃ (aq0_0 : Qp) (nq0_0 : Nat) (aq1_2 : Qp) (nq1_2 : Nat), v = (.agg #[(.int .i64 a.2.Op), (.int .i64 a.2.Value), (.slice aq1_2 a.2.Kids.length nq1_2)]) /\ L' = (some bp0, (.cells #[(.slice aq0_0 a.1.l_.length nq0_0), (.int .i64 a.1.open_)] 100 (0, 0))) :: Lf /\ LC a.1.l_.length nq0_0 /\ SlA Ae F' aq0_0 a.1.l_ /\ LC a.2.Kids.length nq1_2 /\ SlA Ao F' aq1_2 a.2.Kids) := (Ko N N).1 hG bp0 x0 a0_0 n0_0 hb0_0 hs0_0 hs0 r h
def Bw (N : Nat) (x0 : Aa) : Option (Ah ⊕ (Aa × Ba)) :=
 ((idx x0.l_ 0).bind fun x24 => ((Em N x0).bind fun r38 => sk r38 (fun b50 => some (.inl b50)) (fun r41 => some (.inr (r41.1, ({ Expr := r41.2, at_ := x24.at_ } : Ba))))))
theorem BF : An Tryz.prog 86 := fun _ _ => by kernel_rfl
theorem BO (N : Nat) {wb w0 : World} {Fb F0 : Mem} {Lf : Own} (hG : Ce F0) (bp0 : Nat) (x0 : Aa) (a0_0 : Qp) (n0_0 : Nat) (hb0_0 : LC x0.l_.length n0_0) (hs0_0 : SlA Ae F0 a0_0 x0.l_) (hs0 : HS wb Fb w0 F0 ((sb bp0 (Ad x0 a0_0 n0_0) 100) :: Lf)) (r : (Ah ⊕ (Aa × Ba))) (h : Bw N x0 = some r) :
  Calls Tryz.prog 86 ([(pt bp0 0)] : List Value).toArray w0 (Bq wb Fb F0 Lf r (fun b => (.iface 158 (.agg (AF b)))) fun a F' v L' => ∃ (aq0_0 : Qp) (nq0_0 : Nat) (aq1_2 : Qp) (nq1_2 : Nat), v = (.agg (Au a.2 aq1_2 nq1_2)) /\ L' = (sb bp0 (Ad a.1 aq0_0 nq0_0) 100) :: Lf /\ LC a.1.l_.length nq0_0 /\ SlA Ae F' aq0_0 a.1.l_ /\ LC a.2.Expr.Kids.length nq1_2 /\ SlA Ao F' aq1_2 a.2.Expr.Kids) := by
 refine Go 15 Tryz.func86 ?_
 refine Sq (Rg [0] ?_)
 refine Al' 113 #[(vi 0), (vi 0), (.slice none ([] : List Expr).length 0), (vi 0)] hs0 (fun b21 w22 hs23 => ?_)
 refine Nss (Rg [0, 1, 2, 3, 4, 5, 6, 7] ?_)
 refine Vs 3 ?_
 refine Ld hs23.at1 ?_
 obtain ⟨x24, hx25, h27⟩ := bind_some h
 obtain ⟨hi26, hx25'⟩ := Aw hx25
 obtain ⟨b28, o29, C30, E31, fz32, rfl, hF34, hE35⟩ := Qd hs0_0 hx25'
 have hc37 := hE35 _ _ hx25'
 refine Ix hi26 ?_
 refine Vs 1 ?_
 refine Lx 1 (hs23.pers _ _ hF34) hc37 ?_
 refine Vs 1 ?_
 refine Nss (Rg [0, 1, 2, 3, 4] ?_)
 refine Vs 1 ?_
 obtain ⟨r38, hr39, h40⟩ := bind_some h27
 refine CP Bp (Gl N hG bp0 x0 (some ⟨b28, o29, none⟩) n0_0 hb0_0 hs0_0 hs23.pk1 _ hr39) ?_ ?_
 ·rintro r41 _ F1 w43 _ rfl hs44 le45 ⟨ar41_0_0, nr41_0_0, ar41_1_2, nr41_1_2, rfl, rfl, hbr41_0_0, hsr41_0_0, hbr41_1_2, hsr41_1_2⟩
  have h47 := BD h40
  refine Vs 2 ?_
  refine St1 #[(vi r41.2.Op), (vi r41.2.Value), (.slice ar41_1_2 r41.2.Kids.length nr41_1_2), (vi x24.at_)] hs44 (fun w48 hs49 => ?_)
  refine Nt ?_
  refine Rt ?_
  obtain rfl := Ab h47
  exact ⟨rfl, (.agg #[(vi r41.2.Op), (vi r41.2.Value), (.slice ar41_1_2 r41.2.Kids.length nr41_1_2), (vi x24.at_)]), Ay (l := [.cell 2 113]) (by kernel_rfl) (vs := [(.agg #[(vi r41.2.Op), (vi r41.2.Value), (.slice ar41_1_2 r41.2.Kids.length nr41_1_2), (vi x24.at_)])]) ⟨b21, 0, rfl, Aj (t := 113) (g := true) (s := 4) (by kernel_rfl) hs49.at1 rfl (by decide), trivial⟩, .inl ⟨_, F1, _, _, rfl, rfl, hs49.dr1, le45, ⟨ar41_0_0, nr41_0_0, ar41_1_2, nr41_1_2, rfl, rfl, hbr41_0_0, hsr41_0_0, hbr41_1_2, hsr41_1_2⟩⟩⟩
 ·rintro b50 F2 w51 rfl hs52 le53
  have h54 := A9 h40
  refine Ak ?_
  obtain rfl := Ab h54
  exact B3 hs52.dr0 le53
def BK (N : Nat) (x0 : Aa) (x1 : Ba) (x2 : Int) : Option (Ah ⊕ Unit) :=
 ((Cn N x1.Expr).bind fun r24 => ((Eo N x1.Expr).bind fun r32 => (bif (decide (r32 > 32)) then ((AM N x0 2 x1.at_).bind fun r43 => sk r43 (fun b48 => some (.inl b48)) (fun r46 => none)) else (bif ((r24 == 0) || ((x2 != 0) && (r24 != x2))) then ((AM N x0 61 x1.at_).bind fun r66 => sk r66 (fun b71 => some (.inl b71)) (fun r69 => none)) else some (.inr ())))))
theorem BN : An Tryz.prog 88 := fun _ _ => by kernel_rfl
theorem BT (N : Nat) {wb w0 : World} {Fb F0 : Mem} {Lf : Own} (bp0 : Nat) (x0 : Aa) (a0_0 : Qp) (n0_0 : Nat) (hb0_0 : LC x0.l_.length n0_0) (hs0_0 : SlA Ae F0 a0_0 x0.l_) (x1 : Ba) (a1_2 : Qp) (n1_2 : Nat) (hb1_2 : LC x1.Expr.Kids.length n1_2) (hs1_2 : SlA Ao F0 a1_2 x1.Expr.Kids) (x2 : Int) (hs0 : HS wb Fb w0 F0 ((sb bp0 (Ad x0 a0_0 n0_0) 100) :: Lf)) (r : (Ah ⊕ Unit)) (h : BK N x0 x1 x2 = some r) :
  Calls Tryz.prog 88 ([(pt bp0 0), (.agg (Au x1 a1_2 n1_2)), (vi x2)] : List Value).toArray w0 (Bq wb Fb F0 Lf r (fun b => (.iface 158 (.agg (AF b)))) fun a F' v L' => v = (.tuple #[]) /\ L' = (sb bp0 (Ad x0 a0_0 n0_0) 100) :: Lf) := by
 refine Go 35 Tryz.func88 ?_
 refine Sq (Rg [0] ?_)
 refine Bx' 113 (Au x1 a1_2 n1_2) hs0 (fun b21 w22 hs23 => ?_)
 refine Nss (Rg [0, 1, 2, 3] ?_)
 refine Vs 1 ?_
 refine Ld hs23.at0 ?_
 obtain ⟨r24, hr25, h26⟩ := bind_some h
 refine Cl' B8 hs23 (CS N w22 F0 hs23.pers x1.Expr a1_2 n1_2 hb1_2 hs1_2 _ hr25) ?_
 rintro _ F1 w28 hs29 le30 rfl
 refine Vs 1 ?_
 refine Nt ?_
 refine Bk ?_
 refine Sq (Rg [0, 1, 2, 3, 4] ?_)
 refine Vs 1 ?_
 refine Ld hs29.at0 ?_
 obtain ⟨r32, hr33, h34⟩ := bind_some h26
 refine Cl' Eb hs29 (GH N w28 F1 hs29.pers x1.Expr a1_2 n1_2 hb1_2 (P5 hs1_2 le30) _ hr33) ?_
 rintro _ F2 w36 hs37 le38 rfl
 refine Vs 2 ?_
 refine Nt ?_
 refine Cd h34 (fun hb40 h41 => ?_) (fun hb40 h42 => ?_)
 ·refine Rg [0, 1, 2, 3] ?_
  refine Vs 2 ?_
  refine Ld hs37.at0 ?_
  obtain ⟨r43, hr44, h45⟩ := bind_some h41
  refine CP AH (AK N bp0 x0 a0_0 n0_0 hb0_0 (P5 hs0_0 (le30.trans le38)) 2 x1.at_ hs37.pk1 _ hr44) ?_ ?_
  ·rintro _ _ _ _ _ rfl _ _ _; cases hr44
  ·rintro b48 F4 w49 rfl hs50 le51
   have h52 := A9 h45
   refine AJ ?_
   obtain rfl := Ab h52
   exact B3 hs50.dr0 ((le30.trans le38).trans le51)
 ·refine Sq (Rg [0, 1, 2, 3, 4, 5, 6, 7, 8, 9, 10, 11] ?_)
  refine P8 (fun f w => ∃ (F5 : Mem), HS wb Fb w F5 ((sb b21 (Au x1 a1_2 n1_2) 113) :: (sb bp0 (Ad x0 a0_0 n0_0) 100) :: Lf) /\ P2 F2 F5 /\ FI f [] [(0, (pt bp0 0)), (4, (pt b21 0)), (19, (.bool ((r24 == 0) || ((x2 != 0) && (r24 != x2)))))]) ?_ ?_
  ·refine Vs 3 ?_
   refine P7 (r24 == 0) (fun hb61 => ?_) (fun hb61 => ?_)
   ·refine Ss hb61 3 ?_
    refine Su' 3 ?_
    refine Ss hb61 1 ?_
    refine Pk1 hb61 ?_
    refine Vs 1 ?_
    exact PX ⟨rfl, F2, hs37, (P3 _), (fJ ⟨rfl, rfl, (congrArg Value.bool (EA hb61 rfl)), trivial⟩)⟩
   ·refine Vgs hb61 3 ?_
    refine P7 (x2 != 0) (fun hb62 => ?_) (fun hb62 => ?_)
    ·refine Vgs hb62 3 ?_
     refine Pg1 hb61 hb62 ?_
     refine Pk0 hb61 ?_
     refine Vs 1 ?_
     exact PX ⟨rfl, F2, hs37, (P3 _), (fJ ⟨rfl, rfl, (congrArg Value.bool (Bg hb61 (B9 hb62 rfl))), trivial⟩)⟩
    ·refine Ss hb62 3 ?_
     refine Pg0 hb61 hb62 ?_
     refine Pk0 hb61 ?_
     refine Vs 1 ?_
     exact PX ⟨rfl, F2, hs37, (P3 _), (fJ ⟨rfl, rfl, (congrArg Value.bool (Bg hb61 (DO hb62 rfl))), trivial⟩)⟩
  ·rintro f w54 ⟨F5, hs55, le56, ⟨_, rfl⟩⟩
   refine Ac ?_
   refine Cd h42 (fun hb63 h64 => ?_) (fun hb63 h65 => ?_)
   ·refine Rg [0, 1, 2, 3] ?_
    refine Vs 2 ?_
    refine Ld hs55.at0 ?_
    obtain ⟨r66, hr67, h68⟩ := bind_some h64
    refine CP AH (AK N bp0 x0 a0_0 n0_0 hb0_0 (P5 hs0_0 ((le30.trans le38).trans le56)) 61 x1.at_ hs55.pk1 _ hr67) ?_ ?_
    ·rintro _ _ _ _ _ rfl _ _ _; cases hr67
    ·rintro b71 F7 w72 rfl hs73 le74
     have h75 := A9 h68
     refine AJ ?_
     obtain rfl := Ab h75
     exact B3 hs73.dr0 (((le30.trans le38).trans le56).trans le74)
   ·refine Sc ?_
    refine Av ?_
    obtain rfl := Ab h65
    exact ReP [] hs55.dr0 ((le30.trans le38).trans le56) ⟨rfl, rfl⟩
def En (N : Nat) (x0 : Aa) (z0 : Ba) : Option (Ah ⊕ (Aa × Ba)) :=
 ((Bw N x0).bind fun r21 => sk r21 (fun b83 => some (.inl b83)) (fun r24 => ((idx r24.1.l_ 0).bind fun x33 => (bif (x33.kind_ != 0) then ((idx r24.1.l_ 0).bind fun x50 => ((AM N r24.1 60 x50.at_).bind fun r56 => sk r56 (fun b61 => some (.inl b61)) (fun r59 => none))) else ((BK N r24.1 r24.2 0).bind fun r67 => sk r67 (fun b77 => some (.inl b77)) (fun r70 => some (.inr (r24.1, r24.2))))))))
theorem FQ : An Tryz.prog 85 := fun _ _ => by kernel_rfl
theorem Gm (N : Nat) {wb w0 : World} {Fb F0 : Mem} {Lf : Own} (hG : Ce F0) (bp0 : Nat) (x0 : Aa) (a0_0 : Qp) (n0_0 : Nat) (hb0_0 : LC x0.l_.length n0_0) (hs0_0 : SlA Ae F0 a0_0 x0.l_) (bz0 : Nat) (z0 : Ba) (az0_2 : Qp) (nz0_2 : Nat) (hbz0_2 : LC z0.Expr.Kids.length nz0_2) (hsz0_2 : SlA Ao F0 az0_2 z0.Expr.Kids) (hs0 : HS wb Fb w0 F0 ((sb bp0 (Ad x0 a0_0 n0_0) 100) :: (sb bz0 (Au z0 az0_2 nz0_2) 113) :: Lf)) (r : (Ah ⊕ (Aa × Ba))) (h : En N x0 z0 = some r) :
  Calls Tryz.prog 85 ([(pt bp0 0), (pt bz0 0)] : List Value).toArray w0 (Bq wb Fb F0 Lf r (fun b => (.iface 158 (.agg (AF b)))) fun a F' v L' => ∃ (aq0_0 : Qp) (nq0_0 : Nat) (aq1_2 : Qp) (nq1_2 : Nat), v = (.tuple #[]) /\ L' = (sb bp0 (Ad a.1 aq0_0 nq0_0) 100) :: (sb bz0 (Au a.2 aq1_2 nq1_2) 113) :: Lf /\ LC a.1.l_.length nq0_0 /\ SlA Ae F' aq0_0 a.1.l_ /\ LC a.2.Expr.Kids.length nq1_2 /\ SlA Ao F' aq1_2 a.2.Expr.Kids) := by
 refine Go 25 Tryz.func85 ?_
 refine Sq (Rg [0, 1, 2] ?_)
 refine Vs 1 ?_
 obtain ⟨r21, hr22, h23⟩ := bind_some h
 refine CP BF (BO N hG bp0 x0 a0_0 n0_0 hb0_0 hs0_0 hs0 _ hr22) ?_ ?_
 ·rintro r24 _ F1 w26 _ rfl hs27 le28 ⟨ar24_0_0, nr24_0_0, ar24_1_2, nr24_1_2, rfl, rfl, hbr24_0_0, hsr24_0_0, hbr24_1_2, hsr24_1_2⟩
  have h30 := BD h23
  refine St1 (Au r24.2 ar24_1_2 nr24_1_2) hs27 (fun w31 hs32 => ?_)
  refine Nss ?_
  refine Sq (Rg [0, 1, 2, 3, 4, 5, 6, 7] ?_)
  refine Vs 3 ?_
  refine Ld hs32.at0 ?_
  obtain ⟨x33, hx34, h36⟩ := bind_some h30
  obtain ⟨hi35, hx34'⟩ := Aw hx34
  obtain ⟨b37, o38, C39, E40, fz41, rfl, hF43, hE44⟩ := Qd hsr24_0_0 hx34'
  have hc46 := hE44 _ _ hx34'
  refine Ix hi35 ?_
  refine Vs 1 ?_
  refine Lx 0 (hs32.pers _ _ hF43) hc46 ?_
  refine Vs 1 ?_
  refine Nt ?_
  refine Cd h36 (fun hb47 h48 => ?_) (fun hb47 h49 => ?_)
  ·refine Rg [0, 1, 2, 3, 4, 5, 6, 7, 8] ?_
   refine Vs 4 ?_
   refine Ld hs32.at0 ?_
   obtain ⟨x50, hx51, h53⟩ := bind_some h48
   obtain ⟨hi52, hx51'⟩ := Aw hx51
   have hc55 := hE44 _ _ hx51'
   refine Ix hi52 ?_
   refine Vs 1 ?_
   refine Lx 1 (hs32.pers _ _ hF43) hc55 ?_
   obtain ⟨r56, hr57, h58⟩ := bind_some h53
   refine CP AH (AK N bp0 r24.1 (some ⟨b37, o38, none⟩) nr24_0_0 hbr24_0_0 hsr24_0_0 60 x50.at_ hs32 _ hr57) ?_ ?_
   ·rintro _ _ _ _ _ rfl _ _ _; cases hr57
   ·rintro b61 F3 w62 rfl hs63 le64
    have h65 := A9 h58
    refine Ak ?_
    obtain rfl := Ab h65
    exact B3 hs63.dr0 (le28.trans le64)
  ·refine Sc ?_
   refine Ac ?_
   refine Rg [0, 1, 2] ?_
   refine Vs 1 ?_
   refine Ld hs32.at1 ?_
   obtain ⟨r67, hr68, h69⟩ := bind_some h49
   refine CP BN (BT N bp0 r24.1 (some ⟨b37, o38, none⟩) nr24_0_0 hbr24_0_0 hsr24_0_0 r24.2 ar24_1_2 nr24_1_2 hbr24_1_2 hsr24_1_2 0 hs32 _ hr68) ?_ ?_
   ·rintro r70 _ F4 w72 _ rfl hs73 le74 ⟨rfl, rfl⟩
    have h76 := BD h69
    refine PX ?_
    obtain rfl := Ab h76
    exact ReP [] hs73 (le28.trans le74) ⟨(some ⟨b37, o38, none⟩), nr24_0_0, ar24_1_2, nr24_1_2, rfl, rfl, hbr24_0_0, (P5 hsr24_0_0 le74), hbr24_1_2, (P5 hsr24_1_2 le74)⟩
   ·rintro b77 F5 w78 rfl hs79 le80
    have h81 := A9 h69
    obtain rfl := Ab h81
    exact B3 hs79.dr0 (le28.trans le80)
 ·rintro b83 F6 w84 rfl hs85 le86
  have h87 := A9 h23
  refine Ak ?_
  obtain rfl := Ab h87
  exact B3 hs85.dr0 le86
def CE (N : Nat) (x0 : Aa) : Option (Ah ⊕ Unit) :=
 (((idx x0.l_ 0).bind fun x30 => (bif (x30.kind_ != 0) then ((AL N x0 ([10] : Qo)).bind fun r47 => some (!r47)) else some false)).bind fun j24 => (bif j24 then ((idx x0.l_ 0).bind fun x57 => ((AM N x0 60 x57.at_).bind fun r71 => sk r71 (fun b76 => some (.inl b76)) (fun r74 => none))) else some (.inr ())))
theorem CY : An Tryz.prog 136 := fun _ _ => by kernel_rfl
theorem Dz (N : Nat) {wb w0 : World} {Fb F0 : Mem} {Lf : Own} (bp0 : Nat) (x0 : Aa) (a0_0 : Qp) (n0_0 : Nat) (hb0_0 : LC x0.l_.length n0_0) (hs0_0 : SlA Ae F0 a0_0 x0.l_) (hs0 : HS wb Fb w0 F0 ((sb bp0 (Ad x0 a0_0 n0_0) 100) :: Lf)) (r : (Ah ⊕ Unit)) (h : CE N x0 = some r) :
  Calls Tryz.prog 136 ([(pt bp0 0)] : List Value).toArray w0 (Bq wb Fb F0 Lf r (fun b => (.iface 158 (.agg (AF b)))) fun a F' v L' => v = (.tuple #[]) /\ L' = (sb bp0 (Ad x0 a0_0 n0_0) 100) :: Lf) := by
 refine Go 24 Tryz.func136 ?_
 refine Sq (Rg [0, 1, 2, 3, 4, 5, 6, 7, 8, 9, 10, 11, 12] ?_)
 obtain ⟨j24, hj28, h29⟩ := bind_some h
 refine P8 (fun f w => ∃ (F1 : Mem), HS wb Fb w F1 ((sb bp0 (Ad x0 a0_0 n0_0) 100) :: Lf) /\ P2 F0 F1 /\ FI f [] [(0, (pt bp0 0)), (14, (.bool j24))]) ?_ ?_
 ·refine Vs 3 ?_
  refine Ld hs0.at0 ?_
  obtain ⟨x30, hx31, h33⟩ := bind_some hj28
  obtain ⟨hi32, hx31'⟩ := Aw hx31
  obtain ⟨b34, o35, C36, E37, fz38, rfl, hF40, hE41⟩ := Qd hs0_0 hx31'
  have hc43 := hE41 _ _ hx31'
  refine Ix hi32 ?_
  refine Vs 1 ?_
  refine Lx 0 (hs0.pers _ _ hF40) hc43 ?_
  refine Vs 2 ?_
  refine Sp h33 (fun hb44 h45 => ?_) (fun hb44 h46 => ?_)
  ·refine Vgs hb44 1 ?_
   obtain ⟨r47, hr48, h49⟩ := bind_some h45
   refine RWP.callB (dst := (some 12)) (ty := 4) (g := (some (8, true))) (by kernel_rfl) (LH (d := 10) (by kernel_rfl) rfl hb44) (f0 := (.func 134)) (aos := #[(.tmp 11), (.const (.string ⟨([10] : Qo).toArray⟩))]) (ats := #[95, 9]) (fid := 134) (first := #[]) (cap := #[]) (args := [(pt bp0 0), (.string ⟨(([10] : Qo)).toArray⟩)]) rfl BS rfl (BX N bp0 x0 (some ⟨b34, o35, none⟩) n0_0 hb0_0 hs0_0 (([10] : Qo)) hs0 _ hr48) ?_
   rintro _ F2 w50 _ hs51 le52 ⟨rfl, rfl⟩
   refine Vgs hb44 1 ?_
   refine Pk1 hb44 ?_
   obtain rfl := Ab h49
   exact PX ⟨rfl, F2, hs51, le52, fI⟩
  ·refine Ss hb44 3 ?_
   refine Pk0 hb44 ?_
   obtain rfl := Ab h46
   exact PX ⟨rfl, F0, hs0, (P3 _), fI⟩
 ·rintro f w21 ⟨F1, hs22, le23, ⟨_, rfl⟩⟩
  refine Ac ?_
  refine Cd h29 (fun hb54 h55 => ?_) (fun hb54 h56 => ?_)
  ·refine Rg [0, 1, 2, 3, 4, 5, 6, 7, 8] ?_
   refine Vs 4 ?_
   refine Ld hs22.at0 ?_
   obtain ⟨x57, hx58, h60⟩ := bind_some h55
   obtain ⟨hi59, hx58'⟩ := Aw hx58
   obtain ⟨b61, o62, C63, E64, fz65, rfl, hF67, hE68⟩ := Qd (P5 hs0_0 le23) hx58'
   have hc70 := hE68 _ _ hx58'
   refine Ix hi59 ?_
   refine Vs 1 ?_
   refine Lx 1 (hs22.pers _ _ hF67) hc70 ?_
   obtain ⟨r71, hr72, h73⟩ := bind_some h60
   refine CP AH (AK N bp0 x0 (some ⟨b61, o62, none⟩) n0_0 hb0_0 (P5 hs0_0 le23) 60 x57.at_ hs22 _ hr72) ?_ ?_
   ·rintro _ _ _ _ _ rfl _ _ _; cases hr72
   ·rintro b76 F4 w77 rfl hs78 le79
    have h80 := A9 h73
    obtain rfl := Ab h80
    exact B3 hs78 (le23.trans le79)
  ·refine Sc ?_
   obtain rfl := Ab h56
   exact ReP [] hs22 le23 ⟨rfl, rfl⟩
def DE (N : Nat) (x0 : Aa) (x1 : (List Expr)) (x2 : Int) : Option (Ah ⊕ Unit) :=
 (bif ((x1.length : Int) == 64) then ((AM N x0 2 x2).bind fun r24 => sk r24 (fun b29 => some (.inl b29)) (fun r27 => none)) else some (.inr ()))
theorem E4 : An Tryz.prog 137 := fun _ _ => by kernel_rfl
theorem Fg (N : Nat) {wb w0 : World} {Fb F0 : Mem} {Lf : Own} (bp0 : Nat) (x0 : Aa) (a0_0 : Qp) (n0_0 : Nat) (hb0_0 : LC x0.l_.length n0_0) (hs0_0 : SlA Ae F0 a0_0 x0.l_) (x1 : (List Expr)) (a1_0 : Qp) (n1_0 : Nat) (x2 : Int) (hs0 : HS wb Fb w0 F0 ((sb bp0 (Ad x0 a0_0 n0_0) 100) :: Lf)) (r : (Ah ⊕ Unit)) (h : DE N x0 x1 x2 = some r) :
  Calls Tryz.prog 137 ([(pt bp0 0), (.slice a1_0 x1.length n1_0), (vi x2)] : List Value).toArray w0 (Bq wb Fb F0 Lf r (fun b => (.iface 158 (.agg (AF b)))) fun a F' v L' => v = (.tuple #[]) /\ L' = (sb bp0 (Ad x0 a0_0 n0_0) 100) :: Lf) := by
 refine Go 12 Tryz.func137 ?_
 refine Sq (Rg [0, 1, 2] ?_)
 refine Vs 3 ?_
 refine Nt ?_
 refine Cd h (fun hb21 h22 => ?_) (fun hb21 h23 => ?_)
 ·refine Rg [0, 1, 2] ?_
  refine Vs 2 ?_
  obtain ⟨r24, hr25, h26⟩ := bind_some h22
  refine CP AH (AK N bp0 x0 a0_0 n0_0 hb0_0 hs0_0 2 x2 hs0 _ hr25) ?_ ?_
  ·rintro _ _ _ _ _ rfl _ _ _; cases hr25
  ·rintro b29 F2 w30 rfl hs31 le32
   have h33 := A9 h26
   obtain rfl := Ab h33
   exact B3 hs31 le32
 ·refine Sc ?_
  obtain rfl := Ab h23
  exact ReP [] hs0 (P3 _) ⟨rfl, rfl⟩
def CV (N : Nat) (x0 : Aa) (x1 : (List Clause)) (x2 : Int) : Option (Ah ⊕ Unit) :=
 (bif ((x1.length : Int) == 64) then ((AM N x0 2 x2).bind fun r24 => sk r24 (fun b29 => some (.inl b29)) (fun r27 => none)) else some (.inr ()))
theorem EC : An Tryz.prog 138 := fun _ _ => by kernel_rfl
theorem ES (N : Nat) {wb w0 : World} {Fb F0 : Mem} {Lf : Own} (bp0 : Nat) (x0 : Aa) (a0_0 : Qp) (n0_0 : Nat) (hb0_0 : LC x0.l_.length n0_0) (hs0_0 : SlA Ae F0 a0_0 x0.l_) (x1 : (List Clause)) (a1_0 : Qp) (n1_0 : Nat) (x2 : Int) (hs0 : HS wb Fb w0 F0 ((sb bp0 (Ad x0 a0_0 n0_0) 100) :: Lf)) (r : (Ah ⊕ Unit)) (h : CV N x0 x1 x2 = some r) :
  Calls Tryz.prog 138 ([(pt bp0 0), (.slice a1_0 x1.length n1_0), (vi x2)] : List Value).toArray w0 (Bq wb Fb F0 Lf r (fun b => (.iface 158 (.agg (AF b)))) fun a F' v L' => v = (.tuple #[]) /\ L' = (sb bp0 (Ad x0 a0_0 n0_0) 100) :: Lf) := by
 refine Go 12 Tryz.func138 ?_
 refine Sq (Rg [0, 1, 2] ?_)
 refine Vs 3 ?_
 refine Nt ?_
 refine Cd h (fun hb21 h22 => ?_) (fun hb21 h23 => ?_)
 ·refine Rg [0, 1, 2] ?_
  refine Vs 2 ?_
  obtain ⟨r24, hr25, h26⟩ := bind_some h22
  refine CP AH (AK N bp0 x0 a0_0 n0_0 hb0_0 hs0_0 2 x2 hs0 _ hr25) ?_ ?_
  ·rintro _ _ _ _ _ rfl _ _ _; cases hr25
  ·rintro b29 F2 w30 rfl hs31 le32
   have h33 := A9 h26
   obtain rfl := Ab h33
   exact B3 hs31 le32
 ·refine Sc ?_
  obtain rfl := Ab h23
  exact ReP [] hs0 (P3 _) ⟨rfl, rfl⟩
end Go.Proofs.YtaihlcdkcampbaaGreatDoor
