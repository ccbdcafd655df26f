/- Lemmas of the claim LogsPrints, printed by a program of the claimant and by hand. No statement of the seat is proved here. -/
import Derived.Test.YthljkpeimofbbaaGreatDoorE4x2
set_option linter.unusedVariables false
set_option linter.unusedSimpArgs false
set_option linter.unusedSectionVars false
set_option maxHeartbeats 4000000
set_option maxRecDepth 100000
namespace Go.Proofs.YthljkpeimofbbaaGreatDoor
def DQ (N : Nat) (x0 : Wn) : (List Wn × Int × Int) -> Option (A4 (List Wn) (List Wn × Int × Int)) := fun s26 =>
 (bif (decide (s26.2.2 < (x0.length : Int))) then ((Kj x0 s26.2.2).bind fun c52 => ((bif (c52 == 47) then ((H8 x0 s26.2.1 s26.2.2).bind fun r69 => ((C2 s26.1 [r69]).bind fun r77 => some (r77, (W64 (s26.2.2 + 1))))) else some (s26.1, s26.2.1)).bind fun j58 => some (.next (j58.1, j58.2, (W64 (s26.2.2 + 1)))))) else some (.done (s26.1, s26.2.1, s26.2.2)))
def Fu (N : Nat) (x0 : Wn) : Option (List Wn) :=
 ((AJ (DQ N x0) N (([] : List Wn), 0, 0)).bind fun o => o.k (fun r => some r) (fun s35 => ((H8 x0 s35.2.1 (x0.length : Int)).bind fun r89 => ((C2 s35.1 [r89]).bind fun r97 => some r97))))
theorem MB : Af Tryz.prog 229 := fun _ _ => by kernel_rfl
theorem NU (N : Nat) (w0 : World) (F0 : Mem) (hF : Wp w0 F0) (x0 : Wn) (r : (List Wn)) (h : Fu N x0 = some r) :
  Calls Tryz.prog 229 ([(sv x0)] : List Value).toArray w0 (AA w0 F0 fun F' v => ∃ (aq0_0 : Wo) (nq0_0 : Nat), v = (.slice aq0_0 r.length nq0_0) /\ LC r.length nq0_0 /\ SlA AK F' aq0_0 r) := by
 have hs0 := V4 hF
 refine Go 31 Tryz.func229 <| Sq (Rg [0] ?_)
 refine Vs 1 <| Nss (Rg [0] ?_)
 refine Vs 1 <| Nss (Rg [0] ?_)
 refine Vs 1 <| Nss <| Sq (Rg [0] ?_)
 refine Vs 1 <| Nt ?_
 have hs21 := hs0.dummy (oc #[] 0)
 obtain ⟨o23, ho24, h25⟩ := bind_some h
 refine V9 (fun f w => ∃ (s35 : (List Wn × Int × Int)) (F2 : Mem) (as35_0 : Wo) (ns35_0 : Nat) (es35_0 : Option Nat × Obj), o23 = .done s35 /\ HS w0 F0 w F2 [es35_0] /\ V2 F0 F2 /\ FI f [] [(0, (sv x0)), (3, (.slice as35_0 s35.1.length ns35_0)), (4, (vi s35.2.1))] /\ Ar AK 9 F2 as35_0 ns35_0 s35.1 es35_0) ?_ ?_
 ·refine Bk ?_
  refine V1 (by kernel_rfl) (fun m f w => ∃ (s26 : (List Wn × Int × Int)) (F1 : Mem) (as26_0 : Wo) (ns26_0 : Nat) (es26_0 : Option Nat × Obj), AJ (DQ N x0) m s26 = some o23 /\ HS w0 F0 w F1 [es26_0] /\ V2 F0 F1 /\ FI f [] [(0, (sv x0)), (3, (.slice as26_0 s26.1.length ns26_0)), (4, (vi s26.2.1)), (5, (vi s26.2.2))] /\ Ar AK 9 F1 as26_0 ns26_0 s26.1 es26_0) N ⟨(([] : List Wn), 0, 0), F0, none, 0, (none, .cells #[] 0 (0, 0)), ho24, hs21, (V3 _), fI, (Wh AK 9 F0 _)⟩ ?_
  rintro m43 f w27 ⟨s26, F1, as26_0, ns26_0, es26_0, hit44, hs28, le29, ⟨_, rfl⟩, hrs26_0⟩
  obtain ⟨m45, fl46, rfl, hb47, hnx48⟩ := AC hit44
  refine Sq <| Sq (Rg (rG 4) ?_)
  refine Vs 4 <| Nt <| Cd hb47 (fun hb49 h50 => ?_) (fun hb49 h51 => ?_)
  ·refine Sc ?_
   refine Ab <| Sq <| Bk <| Sq (Rg (rG 4) ?_)
   refine Vs 2 ?_
   obtain ⟨c52, hr53, h54⟩ := bind_some h50
   refine V 14 5 (Eg (t := 9) (x := (.tmp 12)) (y := (.tmp 13)) (a := x0) (k := .i64) (i := s26.2.2) (v := c52) rfl rfl (by kernel_rfl) hr53) <| Vs 1 <| Nt ?_
   obtain ⟨j58, hj64, h65⟩ := bind_some h54
   refine V9 (fun f w => ∃ (F3 : Mem) (aj58_0 : Wo) (nj58_0 : Nat) (ej58_0 : Option Nat × Obj), HS w0 F0 w F3 [ej58_0] /\ V2 F1 F3 /\ FI f [] [(0, (sv x0)), (3, (.slice aj58_0 j58.1.length nj58_0)), (4, (vi j58.2)), (5, (vi s26.2.2))] /\ Ar AK 9 F3 aj58_0 nj58_0 j58.1 ej58_0) ?_ ?_
   ·refine Cd hj64 (fun hb66 h67 => ?_) (fun hb66 h68 => ?_)
    ·refine Sq (Rg (rG 8) ?_)
     refine Vs 4 ?_
     obtain ⟨r69, hr70, h71⟩ := bind_some h67
     refine V 20 9 (Ef (t := 9) (x := (.tmp 17)) (lo := (some (.tmp 18))) (hi := (some (.tmp 19))) (a := x0) (il := s26.2.1) (ih := s26.2.2) (v := r69) rfl (by kernel_rfl) rfl rfl hr70) <| Bs 9 [(sv r69)] hs28 (fun b72 w73 hs74 => ?_)
     have hr76 : Ar AK 9 F1 (some ⟨b72, 0, none⟩) 1 [r69] (some b72, .cells ([(sv r69)] : List Value).toArray 9 (0, 0)) := Wi ⟨rfl, rfl⟩ (by simp)
     obtain ⟨r77, hap78, h79⟩ := bind_some h71
     refine Ap1 QQ hs74 hrs26_0 (hs74.rd0 hr76) hap78 (fun a80 n81 e82 w83 hs84 hr85 => ?_)
     refine Vs 1 <| Nt <| Rg [0, 1, 2] <| Vs 3 <| VY ?_
     obtain rfl := Aa h79
     exact .inl ⟨rfl, F1, a80, n81, e82, hs84.dr0, (V3 _), fI, hr85⟩
    ·refine Sc ?_
     obtain rfl := Aa h68
     exact .inl ⟨rfl, F1, as26_0, ns26_0, es26_0, hs28, (V3 _), fI, hrs26_0⟩
   ·rintro f w55 ⟨F3, aj58_0, nj58_0, ej58_0, hs56, le57, ⟨_, rfl⟩, hrj58_0⟩
    refine Ap <| Ab <| Rg [0, 1, 2] <| Vs 3 <| VY ?_
    have hn86 := AD h65 hnx48
    exact ⟨m45, Nat.lt_succ_self _, (j58.1, j58.2, (W64 (s26.2.2 + 1))), F3, aj58_0, nj58_0, ej58_0, hn86, hs56, (le29.t le57), fI, hrj58_0⟩
  ·refine Ex ?_
   refine Al <| Al <| Ay rfl ?_
   have ho87 := AE h51 hnx48
   exact .inl ⟨rfl, (s26.1, s26.2.1, s26.2.2), F1, as26_0, ns26_0, es26_0, ho87, hs28, le29, fI, hrs26_0⟩
 ·rintro f w36 ⟨s35, F2, as35_0, ns35_0, es35_0, rfl, hs37, le38, ⟨_, rfl⟩, hrs35_0⟩
  have h88 := A6 h25
  refine Ab <| Sq (Rg (rG 7) ?_)
  refine Vs 3 ?_
  obtain ⟨r89, hr90, h91⟩ := bind_some h88
  refine V 28 9 (Ef (t := 9) (x := (.tmp 26)) (lo := (some (.tmp 27))) (hi := none) (a := x0) (il := s35.2.1) (ih := (x0.length : Int)) (v := r89) rfl (by kernel_rfl) rfl rfl hr90) <| Bs 9 [(sv r89)] hs37 (fun b92 w93 hs94 => ?_)
  have hr96 : Ar AK 9 F2 (some ⟨b92, 0, none⟩) 1 [r89] (some b92, .cells ([(sv r89)] : List Value).toArray 9 (0, 0)) := Wi ⟨rfl, rfl⟩ (by simp)
  obtain ⟨r97, hap98, h99⟩ := bind_some h91
  refine Ap1 QQ hs94 hrs35_0 (hs94.rd0 hr96) hap98 (fun a100 n101 e102 w103 hs104 hr105 => ?_)
  refine Vs 1 <| Nt <| Rt ?_
  have hb109 := Wg hr105
  obtain ⟨F4, hs106, le107, hs108⟩ := hs104.fr1 hr105
  obtain rfl := Aa h99
  exact Re [(.slice a100 r97.length n101)] hs106 ⟨a100, n101, rfl, hb109, hs108⟩
def Fv (N : Nat) (x0 : Wn) : (Int × Int) -> Option (A4 Int (Int × Int)) := fun s24 =>
 (bif (decide (s24.2 < (x0.length : Int))) then ((Kj x0 s24.2).bind fun c47 => ((D7 N c47).bind fun r50 => some (.next ((bif r50 then (W64 (s24.2 + 1)) else s24.1), (W64 (s24.2 + 1)))))) else some (.done (s24.1, s24.2)))
def G3 (N : Nat) (x0 : Wn) : Option Int :=
 ((AJ (Fv N x0) N (0, 0)).bind fun o => o.k (fun r => some r) (fun s32 => some s32.1))
theorem KD : Af Tryz.prog 267 := fun _ _ => by kernel_rfl
theorem Mk (N : Nat) (w0 : World) (F0 : Mem) (hF : Wp w0 F0) (x0 : Wn) (r : Int) (h : G3 N x0 = some r) :
  Calls Tryz.prog 267 ([(sv x0)] : List Value).toArray w0 (AA w0 F0 fun F' v => v = (vi r)) := by
 have hs0 := V4 hF
 refine Go 18 Tryz.func267 <| Sq (Rg [0] ?_)
 refine Vs 1 <| Nss (Rg [0] ?_)
 refine Vs 1 <| Nss <| Sq (Rg [0] ?_)
 refine Vs 1 <| Nt ?_
 obtain ⟨o21, ho22, h23⟩ := bind_some h
 refine V9 (fun f w => ∃ (s32 : (Int × Int)) (F2 : Mem), o21 = .done s32 /\ HS w0 F0 w F2 [] /\ V2 F0 F2 /\ FI f [] [(3, (vi s32.1))]) ?_ ?_
 ·refine Bk ?_
  refine V1 (by kernel_rfl) (fun m f w => ∃ (s24 : (Int × Int)) (F1 : Mem), AJ (Fv N x0) m s24 = some o21 /\ HS w0 F0 w F1 [] /\ V2 F0 F1 /\ FI f [] [(0, (sv x0)), (3, (vi s24.1)), (4, (vi s24.2))]) N ⟨(0, 0), F0, ho22, hs0, (V3 _), fI⟩ ?_
  rintro m38 f w25 ⟨s24, F1, hit39, hs26, le27, ⟨_, rfl⟩⟩
  obtain ⟨m40, fl41, rfl, hb42, hnx43⟩ := AC hit39
  refine Sq <| Sq (Rg (rG 4) ?_)
  refine Vs 4 <| Nt <| Cd hb42 (fun hb44 h45 => ?_) (fun hb44 h46 => ?_)
  ·refine Sc ?_
   refine Ab <| Sq <| Bk <| Sq (Rg (rG 4) ?_)
   refine Vs 2 ?_
   obtain ⟨c47, hr48, h49⟩ := bind_some h45
   refine V 13 5 (Eg (t := 9) (x := (.tmp 11)) (y := (.tmp 12)) (a := x0) (k := .i64) (i := s24.2) (v := c47) rfl rfl (by kernel_rfl) hr48) ?_
   obtain ⟨r50, hr51, h52⟩ := bind_some h49
   refine Cl' FX hs26 (GU N w25 F1 hs26.pers c47 _ hr51) ?_
   rintro _ F3 w54 hs55 le56 rfl
   refine Nt <| V9 (fun f w => ∃ (F4 : Mem), HS w0 F0 w F4 [] /\ V2 F3 F4 /\ FI f [] [(0, (sv x0)), (3, (vi (bif r50 then (W64 (s24.2 + 1)) else s24.1))), (4, (vi s24.2))]) ?_ ?_
   ·refine Cp r50 (fun hb65 => ?_) (fun hb65 => ?_)
    ·refine Rg [0, 1, 2] ?_
     refine Vs 3 <| VY ?_
     exact .inl ⟨rfl, F3, hs55, (V3 _), (fJ ⟨rfl, (congrArg (Value.int .i64) (I3 hb65 rfl)), rfl, trivial⟩)⟩
    ·refine Sc ?_
     exact .inl ⟨rfl, F3, hs55, (V3 _), (fJ ⟨rfl, (congrArg (Value.int .i64) (K0 hb65 rfl)), rfl, trivial⟩)⟩
   ·rintro f w58 ⟨F4, hs59, le60, ⟨_, rfl⟩⟩
    refine Ap <| Ab <| Rg [0, 1, 2] <| Vs 3 <| VY ?_
    have hn66 := AD h52 hnx43
    exact ⟨m40, Nat.lt_succ_self _, ((bif r50 then (W64 (s24.2 + 1)) else s24.1), (W64 (s24.2 + 1))), F4, hn66, hs59, ((le27.t le56).trans le60), fI⟩
  ·refine Ex ?_
   refine Al <| Al <| Ay rfl ?_
   have ho67 := AE h46 hnx43
   exact .inl ⟨rfl, (s24.1, s24.2), F1, ho67, hs26, le27, fI⟩
 ·rintro f w33 ⟨s32, F2, rfl, hs34, le35, ⟨_, rfl⟩⟩
  have h68 := A6 h23
  refine Ab <| Sq (Rg [0, 1] ?_)
  refine Vs 2 <| Nt <| Rt ?_
  obtain rfl := Aa h68
  exact Re [(vi s32.1)] hs34 rfl
def El (N : Nat) (x0 : Int) : Option Bool :=
 some ((decide (65 <= x0)) && (decide (x0 <= 90)))
theorem HW : Af Tryz.prog 286 := fun _ _ => by kernel_rfl
theorem IX (N : Nat) (w0 : World) (F0 : Mem) (hF : Wp w0 F0) (x0 : Int) (r : Bool) (h : El N x0 = some r) :
  Calls Tryz.prog 286 ([(.int .u8 x0)] : List Value).toArray w0 (AA w0 F0 fun F' v => v = (.bool r)) := by
 have hs0 := V4 hF
 refine Go 9 Tryz.func286 <| Sq (Rg [0] ?_)
 refine Vs 1 <| Nss (Rg (rG 7) ?_)
 refine V8 (fun f w => ∃ (F1 : Mem), HS w0 F0 w F1 [] /\ V2 F0 F1 /\ FI f [] [(2, (.bool ((decide (65 <= x0)) && (decide (x0 <= 90)))))]) ?_ ?_
 ·refine Vs 3 ?_
  refine V7 (decide (65 <= x0)) (fun hb26 => ?_) (fun hb26 => ?_)
  ·refine Vgs hb26 2 ?_
   refine Pk1 hb26 <| Vs 1 ?_
   exact VY ⟨rfl, F0, hs0, (V3 _), (fJ ⟨(congrArg Value.bool (Hl hb26 rfl)), trivial⟩)⟩
  ·refine Ss hb26 2 ?_
   refine Pk0 hb26 <| Vs 1 ?_
   exact VY ⟨rfl, F0, hs0, (V3 _), (fJ ⟨(congrArg Value.bool (H7 hb26 rfl)), trivial⟩)⟩
 ·rintro f w21 ⟨F1, hs22, le23, ⟨_, rfl⟩⟩
  refine Ab <| Rt ?_
  obtain rfl := Aa h
  exact Re [(.bool ((decide (65 <= x0)) && (decide (x0 <= 90))))] hs22 rfl
def Cu (N : Nat) (x0 : Wn) : Int -> Option (A4 Bool Int) := fun s24 =>
 (bif (decide (s24 < (x0.length : Int))) then (((Kj x0 s24).bind fun c55 => ((El N c55).bind fun r58 => (bif (!r58) then ((Kj x0 s24).bind fun c69 => ((D7 N c69).bind fun r72 => some (!r72))) else some false))).bind fun j48 => (bif j48 then some (.ret false) else some (.next (W64 (s24 + 1))))) else some (.done s24))
def D6 (N : Nat) (x0 : Wn) : Option Bool :=
 ((AJ (Cu N x0) N 0).bind fun o => o.k (fun r => some r) (fun s31 => some true))
theorem FV : Af Tryz.prog 268 := fun _ _ => by kernel_rfl
theorem GT (N : Nat) (w0 : World) (F0 : Mem) (hF : Wp w0 F0) (x0 : Wn) (r : Bool) (h : D6 N x0 = some r) :
  Calls Tryz.prog 268 ([(sv x0)] : List Value).toArray w0 (AA w0 F0 fun F' v => v = (.bool r)) := by
 have hs0 := V4 hF
 refine Go 22 Tryz.func268 <| Sq (Rg [0] ?_)
 refine Vs 1 <| Nss <| Sq (Rg [0] ?_)
 refine Vs 1 <| Nt ?_
 obtain ⟨o21, ho22, h23⟩ := bind_some h
 refine V9 (fun f w => ∃ (s31 : Int) (F2 : Mem), o21 = .done s31 /\ HS w0 F0 w F2 [] /\ V2 F0 F2 /\ FI f [] []) ?_ ?_
 ·refine Bk ?_
  refine V1 (by kernel_rfl) (fun m f w => ∃ (s24 : Int) (F1 : Mem), AJ (Cu N x0) m s24 = some o21 /\ HS w0 F0 w F1 [] /\ V2 F0 F1 /\ FI f [] [(0, (sv x0)), (3, (vi s24))]) N ⟨0, F0, ho22, hs0, (V3 _), fI⟩ ?_
  rintro m36 f w25 ⟨s24, F1, hit37, hs26, le27, ⟨_, rfl⟩⟩
  obtain ⟨m38, fl39, rfl, hb40, hnx41⟩ := AC hit37
  refine Sq <| Sq (Rg (rG 4) ?_)
  refine Vs 4 <| Nt <| Cd hb40 (fun hb42 h43 => ?_) (fun hb42 h44 => ?_)
  ·refine Sc ?_
   refine Ab <| Sq <| Bk <| Sq (Rg (rG 12) ?_)
   obtain ⟨j48, hj53, h54⟩ := bind_some h43
   refine V8 (fun f w => ∃ (F3 : Mem), HS w0 F0 w F3 [] /\ V2 F1 F3 /\ FI f [] [(0, (sv x0)), (3, (vi s24)), (21, (.bool j48))]) ?_ ?_
   ·refine Vs 2 ?_
    obtain ⟨c55, hr56, h57⟩ := bind_some hj53
    refine V 12 5 (Eg (t := 9) (x := (.tmp 10)) (y := (.tmp 11)) (a := x0) (k := .i64) (i := s24) (v := c55) rfl rfl (by kernel_rfl) hr56) ?_
    obtain ⟨r58, hr59, h60⟩ := bind_some h57
    refine Cl' HW hs26 (IX N w25 F1 hs26.pers c55 _ hr59) ?_
    rintro _ F4 w62 hs63 le64 rfl
    refine Vs 2 <| Sp h60 (fun hb66 h67 => ?_) (fun hb66 h68 => ?_)
    ·refine Vgs hb66 2 ?_
     obtain ⟨c69, hr70, h71⟩ := bind_some h67
     refine Vg 18 5 5 true 15 hb66 (Eg (t := 9) (x := (.tmp 16)) (y := (.tmp 17)) (a := x0) (k := .i64) (i := s24) (v := c69) rfl rfl (by kernel_rfl) hr70) ?_
     obtain ⟨r72, hr73, h74⟩ := bind_some h71
     refine Cg hb66 FX hs63 (GU N w62 F4 hs63.pers c69 _ hr73) ?_
     rintro _ F5 w76 hs77 le78 rfl
     refine Vgs hb66 1 <| Pk1 hb66 ?_
     obtain rfl := Aa h74
     exact VY ⟨rfl, F5, hs77, (le64.t le78), fI⟩
    ·refine Ss hb66 5 ?_
     refine Pk0 hb66 ?_
     obtain rfl := Aa h68
     exact VY ⟨rfl, F4, hs63, le64, fI⟩
   ·rintro f w45 ⟨F3, hs46, le47, ⟨_, rfl⟩⟩
    refine Ab <| Cd h54 (fun hb80 h81 => ?_) (fun hb80 h82 => ?_)
    ·refine Sq (Rg [0] ?_)
     refine Vs 1 <| Nt <| Rt <| Ax <| Ae <| Ae <| Ax ?_
     have hret := BZ h81 hnx41
     subst hret
     refine .inr <| Ae ?_
     obtain rfl := Aa h23
     exact Re [(.bool false)] hs46 rfl
    ·refine Sc ?_
     refine Ap <| Ab <| Rg [0, 1, 2] <| Vs 3 <| VY ?_
     have hn83 := AD h82 hnx41
     exact ⟨m38, Nat.lt_succ_self _, (W64 (s24 + 1)), F3, hn83, hs46, (le27.t le47), fI⟩
  ·refine Ex ?_
   refine Al <| Al <| Ay rfl ?_
   have ho84 := AE h44 hnx41
   exact .inl ⟨rfl, s24, F1, ho84, hs26, le27, fI⟩
 ·rintro f w32 ⟨s31, F2, rfl, hs33, le34, ⟨_, rfl⟩⟩
  have h85 := A6 h23
  refine Ab <| Sq (Rg [0] ?_)
  refine Vs 1 <| Nt <| Rt ?_
  obtain rfl := Aa h85
  exact Re [(.bool true)] hs33 rfl
def BU (N : Nat) (x0 : Wn) : Int -> Option (A4 Bool Int) := fun s24 =>
 (bif (decide (s24 < (x0.length : Int))) then ((Kj x0 s24).bind fun c45 => ((El N c45).bind fun r48 => (bif r48 then some (.ret true) else some (.next (W64 (s24 + 1)))))) else some (.done s24))
def Dc (N : Nat) (x0 : Wn) : Option Bool :=
 ((AJ (BU N x0) N 0).bind fun o => o.k (fun r => some r) (fun s31 => some false))
theorem GB : Af Tryz.prog 269 := fun _ _ => by kernel_rfl
theorem Hf (N : Nat) (w0 : World) (F0 : Mem) (hF : Wp w0 F0) (x0 : Wn) (r : Bool) (h : Dc N x0 = some r) :
  Calls Tryz.prog 269 ([(sv x0)] : List Value).toArray w0 (AA w0 F0 fun F' v => v = (.bool r)) := by
 have hs0 := V4 hF
 refine Go 14 Tryz.func269 <| Sq (Rg [0] ?_)
 refine Vs 1 <| Nss <| Sq (Rg [0] ?_)
 refine Vs 1 <| Nt ?_
 obtain ⟨o21, ho22, h23⟩ := bind_some h
 refine V9 (fun f w => ∃ (s31 : Int) (F2 : Mem), o21 = .done s31 /\ HS w0 F0 w F2 [] /\ V2 F0 F2 /\ FI f [] []) ?_ ?_
 ·refine Bk ?_
  refine V1 (by kernel_rfl) (fun m f w => ∃ (s24 : Int) (F1 : Mem), AJ (BU N x0) m s24 = some o21 /\ HS w0 F0 w F1 [] /\ V2 F0 F1 /\ FI f [] [(0, (sv x0)), (3, (vi s24))]) N ⟨0, F0, ho22, hs0, (V3 _), fI⟩ ?_
  rintro m36 f w25 ⟨s24, F1, hit37, hs26, le27, ⟨_, rfl⟩⟩
  obtain ⟨m38, fl39, rfl, hb40, hnx41⟩ := AC hit37
  refine Sq <| Sq (Rg (rG 4) ?_)
  refine Vs 4 <| Nt <| Cd hb40 (fun hb42 h43 => ?_) (fun hb42 h44 => ?_)
  ·refine Sc ?_
   refine Ab <| Sq <| Bk <| Sq (Rg (rG 4) ?_)
   refine Vs 2 ?_
   obtain ⟨c45, hr46, h47⟩ := bind_some h43
   refine V 12 5 (Eg (t := 9) (x := (.tmp 10)) (y := (.tmp 11)) (a := x0) (k := .i64) (i := s24) (v := c45) rfl rfl (by kernel_rfl) hr46) ?_
   obtain ⟨r48, hr49, h50⟩ := bind_some h47
   refine Cl' HW hs26 (IX N w25 F1 hs26.pers c45 _ hr49) ?_
   rintro _ F3 w52 hs53 le54 rfl
   refine Nt <| Cd h50 (fun hb56 h57 => ?_) (fun hb56 h58 => ?_)
   ·refine Sq (Rg [0] ?_)
    refine Vs 1 <| Nt <| Rt <| Ax <| Ae <| Ae <| Ax ?_
    have hret := BZ h57 hnx41
    subst hret
    refine .inr <| Ae ?_
    obtain rfl := Aa h23
    exact Re [(.bool true)] hs53 rfl
   ·refine Sc ?_
    refine Ap <| Ab <| Rg [0, 1, 2] <| Vs 3 <| VY ?_
    have hn59 := AD h58 hnx41
    exact ⟨m38, Nat.lt_succ_self _, (W64 (s24 + 1)), F3, hn59, hs53, (le27.t le54), fI⟩
  ·refine Ex ?_
   refine Al <| Al <| Ay rfl ?_
   have ho60 := AE h44 hnx41
   exact .inl ⟨rfl, s24, F1, ho60, hs26, le27, fI⟩
 ·rintro f w32 ⟨s31, F2, rfl, hs33, le34, ⟨_, rfl⟩⟩
  have h61 := A6 h23
  refine Ab <| Sq (Rg [0] ?_)
  refine Vs 1 <| Nt <| Rt ?_
  obtain rfl := Aa h61
  exact Re [(.bool false)] hs33 rfl
def DX (N : Nat) (x0 : Wn) : Option Bool :=
 ((G3 N x0).bind fun r21 => (((D6 N x0).bind fun r37 => (bif r37 then ((Ci N r21 1 4).bind fun r48 => (bif r48 then ((H8 x0 0 r21).bind fun r59 => ((Dc N r59).bind fun r62 => (bif r62 then ((Ci N (W64 ((x0.length : Int) - r21)) 1 4).bind fun r73 => some r73) else some false))) else some false)) else some false)).bind fun j32 => some j32))
theorem EX : Af Tryz.prog 230 := fun _ _ => by kernel_rfl
theorem Fz (N : Nat) (w0 : World) (F0 : Mem) (hF : Wp w0 F0) (x0 : Wn) (r : Bool) (h : DX N x0 = some r) :
  Calls Tryz.prog 230 ([(sv x0)] : List Value).toArray w0 (AA w0 F0 fun F' v => v = (.bool r)) := by
 have hs0 := V4 hF
 refine Go 25 Tryz.func230 <| Sq (Rg [0] ?_)
 refine Vs 1 <| Nss (Rg [0, 1, 2] ?_)
 refine Vs 1 ?_
 obtain ⟨r21, hr22, h23⟩ := bind_some h
 refine Cl' KD hs0 (Mk N w0 F0 hs0.pers x0 _ hr22) ?_
 rintro _ F1 w25 hs26 le27 rfl
 refine Vs 1 <| Nss (Rg (rG 20) ?_)
 obtain ⟨j32, hj35, h36⟩ := bind_some h23
 refine V8 (fun f w => ∃ (F2 : Mem), HS w0 F0 w F2 [] /\ V2 F1 F2 /\ FI f [] [(2, (.bool j32))]) ?_ ?_
 ·refine Vs 1 ?_
  obtain ⟨r37, hr38, h39⟩ := bind_some hj35
  refine Cl' FV hs26 (GT N w25 F1 hs26.pers x0 _ hr38) ?_
  rintro _ F3 w41 hs42 le43 rfl
  refine Vs 1 <| Sp h39 (fun hb45 h46 => ?_) (fun hb45 h47 => ?_)
  ·refine Vgs hb45 1 ?_
   obtain ⟨r48, hr49, h50⟩ := bind_some h46
   refine Cg hb45 Cb hs42 (CC N w41 F3 hs42.pers r21 1 4 _ hr49) ?_
   rintro _ F4 w52 hs53 le54 rfl
   refine Pk1 hb45 <| Vs 1 <| Sp h50 (fun hb56 h57 => ?_) (fun hb56 h58 => ?_)
   ·refine Vgs hb56 2 ?_
    obtain ⟨r59, hr60, h61⟩ := bind_some h57
    refine Vg 15 9 6 true 12 hb56 (Ef (t := 9) (x := (.tmp 13)) (lo := none) (hi := (some (.tmp 14))) (a := x0) (il := 0) (ih := r21) (v := r59) rfl (by kernel_rfl) rfl rfl hr60) ?_
    obtain ⟨r62, hr63, h64⟩ := bind_some h61
    refine Cg hb56 GB hs53 (Hf N w52 F4 hs53.pers r59 _ hr63) ?_
    rintro _ F5 w66 hs67 le68 rfl
    refine Pk1 hb56 <| Vs 1 <| Sp h64 (fun hb70 h71 => ?_) (fun hb70 h72 => ?_)
    ·refine Vgs hb70 4 ?_
     obtain ⟨r73, hr74, h75⟩ := bind_some h71
     refine Cg hb70 Cb hs67 (CC N w66 F5 hs67.pers ((W64 ((x0.length : Int) - r21))) 1 4 _ hr74) ?_
     rintro _ F6 w77 hs78 le79 rfl
     refine Pk1 hb70 <| Vs 1 ?_
     obtain rfl := Aa h75
     exact VY ⟨rfl, F6, hs78, (((le43.t le54).trans le68).trans le79), fI⟩
    ·refine Ss hb70 5 ?_
     refine Pk0 hb70 <| Vs 1 ?_
     obtain rfl := Aa h72
     exact VY ⟨rfl, F5, hs67, ((le43.t le54).trans le68), fI⟩
   ·refine Ss hb56 4 ?_
    refine Pk0 hb56 <| Vs 1 <| Ss (rfl : false = false) 5 <| Pk0 (rfl : false = false) <| Vs 1 ?_
    obtain rfl := Aa h58
    exact VY ⟨rfl, F4, hs53, (le43.t le54), fI⟩
  ·refine Ss hb45 2 ?_
   refine Pk0 hb45 <| Vs 1 <| Ss (rfl : false = false) 4 <| Pk0 (rfl : false = false) <| Vs 1 <| Ss (rfl : false = false) 5 <| Pk0 (rfl : false = false) <| Vs 1 ?_
   obtain rfl := Aa h47
   exact VY ⟨rfl, F3, hs42, le43, fI⟩
 ·rintro f w29 ⟨F2, hs30, le31, ⟨_, rfl⟩⟩
  refine Ab <| Rt ?_
  obtain rfl := Aa h36
  exact Re [(.bool j32)] hs30 rfl
def FN (N : Nat) (x0 : Wn) : Option Bool :=
 (((D6 N x0).bind fun r29 => (bif r29 then ((Ci N (x0.length : Int) 1 4).bind fun r40 => (bif r40 then ((Dc N x0).bind fun r51 => some r51) else some false)) else some false)).bind fun j24 => some j24)
theorem JG : Af Tryz.prog 231 := fun _ _ => by kernel_rfl
theorem KP (N : Nat) (w0 : World) (F0 : Mem) (hF : Wp w0 F0) (x0 : Wn) (r : Bool) (h : FN N x0 = some r) :
  Calls Tryz.prog 231 ([(sv x0)] : List Value).toArray w0 (AA w0 F0 fun F' v => v = (.bool r)) := by
 have hs0 := V4 hF
 refine Go 14 Tryz.func231 <| Sq (Rg [0] ?_)
 refine Vs 1 <| Nss (Rg (rG 12) ?_)
 obtain ⟨j24, hj27, h28⟩ := bind_some h
 refine V8 (fun f w => ∃ (F1 : Mem), HS w0 F0 w F1 [] /\ V2 F0 F1 /\ FI f [] [(2, (.bool j24))]) ?_ ?_
 ·refine Vs 1 ?_
  obtain ⟨r29, hr30, h31⟩ := bind_some hj27
  refine Cl' FV hs0 (GT N w0 F0 hs0.pers x0 _ hr30) ?_
  rintro _ F2 w33 hs34 le35 rfl
  refine Vs 1 <| Sp h31 (fun hb37 h38 => ?_) (fun hb37 h39 => ?_)
  ·refine Vgs hb37 2 ?_
   obtain ⟨r40, hr41, h42⟩ := bind_some h38
   refine Cg hb37 Cb hs34 (CC N w33 F2 hs34.pers ((x0.length : Int)) 1 4 _ hr41) ?_
   rintro _ F3 w44 hs45 le46 rfl
   refine Pk1 hb37 <| Vs 1 <| Sp h42 (fun hb48 h49 => ?_) (fun hb48 h50 => ?_)
   ·refine Vgs hb48 1 ?_
    obtain ⟨r51, hr52, h53⟩ := bind_some h49
    refine Cg hb48 GB hs45 (Hf N w44 F3 hs45.pers x0 _ hr52) ?_
    rintro _ F4 w55 hs56 le57 rfl
    refine Pk1 hb48 <| Vs 1 ?_
    obtain rfl := Aa h53
    exact VY ⟨rfl, F4, hs56, ((le35.t le46).trans le57), fI⟩
   ·refine Ss hb48 2 ?_
    refine Pk0 hb48 <| Vs 1 ?_
    obtain rfl := Aa h50
    exact VY ⟨rfl, F3, hs45, (le35.t le46), fI⟩
  ·refine Ss hb37 3 ?_
   refine Pk0 hb37 <| Vs 1 <| Ss (rfl : false = false) 2 <| Pk0 (rfl : false = false) <| Vs 1 ?_
   obtain rfl := Aa h39
   exact VY ⟨rfl, F2, hs34, le35, fI⟩
 ·rintro f w21 ⟨F1, hs22, le23, ⟨_, rfl⟩⟩
  refine Ab <| Rt ?_
  obtain rfl := Aa h28
  exact Re [(.bool j24)] hs22 rfl
def Ek (N : Nat) (x0 : Wn) : Option Bool :=
 ((bif ((x0.length : Int) == 1) then ((Kj x0 0).bind fun c33 => ((D7 N c33).bind fun r36 => some r36)) else some false).bind fun j24 => (bif j24 then some true else (((D6 N x0).bind fun r55 => (bif r55 then ((Ci N (x0.length : Int) 1 4).bind fun r66 => (bif r66 then ((G3 N x0).bind fun r77 => some (r77 == 0)) else some false)) else some false)).bind fun j50 => some j50)))
theorem HV : Af Tryz.prog 232 := fun _ _ => by kernel_rfl
theorem IW (N : Nat) (w0 : World) (F0 : Mem) (hF : Wp w0 F0) (x0 : Wn) (r : Bool) (h : Ek N x0 = some r) :
  Calls Tryz.prog 232 ([(sv x0)] : List Value).toArray w0 (AA w0 F0 fun F' v => v = (.bool r)) := by
 have hs0 := V4 hF
 refine Go 23 Tryz.func232 <| Sq (Rg [0] ?_)
 refine Vs 1 <| Nss <| Sq (Rg (rG 8) ?_)
 obtain ⟨j24, hj28, h29⟩ := bind_some h
 refine V8 (fun f w => ∃ (F1 : Mem), HS w0 F0 w F1 [] /\ V2 F0 F1 /\ FI f [] [(0, (sv x0)), (10, (.bool j24))]) ?_ ?_
 ·refine Vs 4 ?_
  refine Sp hj28 (fun hb30 h31 => ?_) (fun hb30 h32 => ?_)
  ·refine Vgs hb30 1 ?_
   obtain ⟨c33, hr34, h35⟩ := bind_some h31
   refine Vg 8 5 3 true 6 hb30 (Eg (t := 9) (x := (.tmp 7)) (y := (.const (vi 0))) (a := x0) (k := .i64) (i := 0) (v := c33) rfl rfl (by kernel_rfl) hr34) ?_
   obtain ⟨r36, hr37, h38⟩ := bind_some h35
   refine Cg hb30 FX hs0 (GU N w0 F0 hs0.pers c33 _ hr37) ?_
   rintro _ F2 w40 hs41 le42 rfl
   refine Pk1 hb30 ?_
   obtain rfl := Aa h38
   exact VY ⟨rfl, F2, hs41, le42, fI⟩
  ·refine Ss hb30 3 ?_
   refine Pk0 hb30 ?_
   obtain rfl := Aa h32
   exact VY ⟨rfl, F0, hs0, (V3 _), fI⟩
 ·rintro f w21 ⟨F1, hs22, le23, ⟨_, rfl⟩⟩
  refine Ab <| Cd h29 (fun hb44 h45 => ?_) (fun hb44 h46 => ?_)
  ·refine Sq (Rg [0] ?_)
   refine Vs 1 <| Nt <| Rt <| Ae ?_
   obtain rfl := Aa h45
   exact Re [(.bool true)] hs22 rfl
  ·refine Sc ?_
   refine Ab <| Sq (Rg (rG 13) ?_)
   obtain ⟨j50, hj53, h54⟩ := bind_some h46
   refine V8 (fun f w => ∃ (F3 : Mem), HS w0 F0 w F3 [] /\ V2 F1 F3 /\ FI f [] [(2, (.bool j50))]) ?_ ?_
   ·refine Vs 1 ?_
    obtain ⟨r55, hr56, h57⟩ := bind_some hj53
    refine Cl' FV hs22 (GT N w21 F1 hs22.pers x0 _ hr56) ?_
    rintro _ F4 w59 hs60 le61 rfl
    refine Vs 1 <| Sp h57 (fun hb63 h64 => ?_) (fun hb63 h65 => ?_)
    ·refine Vgs hb63 2 ?_
     obtain ⟨r66, hr67, h68⟩ := bind_some h64
     refine Cg hb63 Cb hs60 (CC N w59 F4 hs60.pers ((x0.length : Int)) 1 4 _ hr67) ?_
     rintro _ F5 w70 hs71 le72 rfl
     refine Pk1 hb63 <| Vs 1 <| Sp h68 (fun hb74 h75 => ?_) (fun hb74 h76 => ?_)
     ·refine Vgs hb74 1 ?_
      obtain ⟨r77, hr78, h79⟩ := bind_some h75
      refine Cg hb74 KD hs71 (Mk N w70 F5 hs71.pers x0 _ hr78) ?_
      rintro _ F6 w81 hs82 le83 rfl
      refine Vgs hb74 1 <| Pk1 hb74 <| Vs 1 ?_
      obtain rfl := Aa h79
      exact VY ⟨rfl, F6, hs82, ((le61.t le72).trans le83), fI⟩
     ·refine Ss hb74 3 ?_
      refine Pk0 hb74 <| Vs 1 ?_
      obtain rfl := Aa h76
      exact VY ⟨rfl, F5, hs71, (le61.t le72), fI⟩
    ·refine Ss hb63 3 ?_
     refine Pk0 hb63 <| Vs 1 <| Ss (rfl : false = false) 3 <| Pk0 (rfl : false = false) <| Vs 1 ?_
     obtain rfl := Aa h65
     exact VY ⟨rfl, F4, hs60, le61, fI⟩
   ·rintro f w47 ⟨F3, hs48, le49, ⟨_, rfl⟩⟩
    refine Ab <| Rt ?_
    obtain rfl := Aa h54
    exact Re [(.bool j50)] hs48 rfl
def Gr (N : Nat) (x0 : Wn) : Option (Wn × Wn × Wn × Bool) :=
 (bif (decide ((x0.length : Int) > 16)) then some (([] : Wn), ([] : Wn), ([] : Wn), false) else ((Fu N x0).bind fun r24 => ((bif ((r24.length : Int) == 1) then ((idx r24 0).bind fun x44 => ((DX N x44).bind fun r58 => some r58)) else some false).bind fun j35 => (bif j35 then (((idx r24 0).bind fun x82 => some x82).bind fun j74 => some (([] : Wn), j74, ([] : Wn), true)) else ((bif ((r24.length : Int) == 2) then ((idx r24 0).bind fun x110 => ((FN N x110).bind fun r124 => (bif r124 then ((idx r24 1).bind fun x135 => ((DX N x135).bind fun r141 => (bif r141 then ((idx r24 0).bind fun x152 => ((idx r24 1).bind fun x158 => some (decide ((x152.length : Int) < (x158.length : Int))))) else some false))) else some false))) else some false).bind fun j101 => (bif j101 then (((idx r24 0).bind fun x180 => ((idx r24 1).bind fun x194 => some (x180, x194))).bind fun j172 => some (j172.1, j172.2, ([] : Wn), true)) else ((bif ((r24.length : Int) == 2) then ((idx r24 0).bind fun x212 => ((DX N x212).bind fun r226 => (bif r226 then ((idx r24 1).bind fun x237 => ((Ek N x237).bind fun r243 => some r243)) else some false))) else some false).bind fun j203 => (bif j203 then (((idx r24 0).bind fun x267 => ((idx r24 1).bind fun x281 => some (x267, x281))).bind fun j259 => some (([] : Wn), j259.1, j259.2, true)) else ((bif ((r24.length : Int) == 3) then ((idx r24 0).bind fun x299 => ((FN N x299).bind fun r313 => (bif r313 then ((idx r24 1).bind fun x324 => ((DX N x324).bind fun r330 => (bif r330 then ((idx r24 2).bind fun x341 => ((Ek N x341).bind fun r347 => some r347)) else some false))) else some false))) else some false).bind fun j290 => (bif j290 then (((idx r24 0).bind fun x371 => ((idx r24 1).bind fun x385 => ((idx r24 2).bind fun x391 => some (x371, x385, x391)))).bind fun j363 => some (j363.1, j363.2.1, j363.2.2, true)) else some (([] : Wn), ([] : Wn), ([] : Wn), false)))))))))))
theorem NG : Af Tryz.prog 185 := fun _ _ => by kernel_rfl
theorem Ou (N : Nat) (w0 : World) (F0 : Mem) (hF : Wp w0 F0) (x0 : Wn) (r : (Wn × Wn × Wn × Bool)) (h : Gr N x0 = some r) :
  Calls Tryz.prog 185 ([(sv x0)] : List Value).toArray w0 (AA w0 F0 fun F' v => v = (.tuple #[(sv r.1), (sv r.2.1), (sv r.2.2.1), (.bool r.2.2.2)])) := by
 have hs0 := V4 hF
 refine Go 107 Tryz.func185 <| Sq (Rg (rG 4) ?_)
 refine Vs 4 <| Nss <| Sq (Rg [0, 1, 2] ?_)
 refine Vs 3 <| Nt <| Cd h (fun hb21 h22 => ?_) (fun hb21 h23 => ?_)
 ·refine Sq (Rg (rG 4) ?_)
  refine Vs 4 <| Nt <| Rt <| Ae ?_
  obtain rfl := Aa h22
  exact Re [(sv (([] : Wn))), (sv (([] : Wn))), (sv (([] : Wn))), (.bool false)] hs0 rfl
 ·refine Sc ?_
  refine Ab <| Sq (Rg [0, 1, 2] ?_)
  refine Vs 1 ?_
  obtain ⟨r24, hr25, h26⟩ := bind_some h23
  refine Cl' MB hs0 (NU N w0 F0 hs0.pers x0 _ hr25) ?_
  rintro _ F1 w28 hs29 le30 ⟨ar24_0_0, nr24_0_0, rfl, hbr24_0_0, hsr24_0_0⟩
  refine Vs 1 <| Nss <| Sq (Rg (rG 9) ?_)
  obtain ⟨j35, hj39, h40⟩ := bind_some h26
  refine V8 (fun f w => ∃ (F2 : Mem), HS w0 F0 w F2 [] /\ V2 F1 F2 /\ FI f [] [(6, (.slice ar24_0_0 r24.length nr24_0_0)), (20, (.bool j35))]) ?_ ?_
  ·refine Vs 4 ?_
   refine Sp hj39 (fun hb41 h42 => ?_) (fun hb41 h43 => ?_)
   ·refine Vgs hb41 1 ?_
    obtain ⟨x44, hx45, h47⟩ := bind_some h42
    obtain ⟨hi46, hx45'⟩ := Aj hx45
    obtain ⟨b48, o49, C50, E51, fz52, rfl, hF54, hE55⟩ := Wa hsr24_0_0 hx45'
    have hc57 := hE55 _ _ hx45'
    refine Ixg hb41 hi46 <| Lxg hb41 0 (hs29.pers _ _ hF54) hc57 ?_
    obtain ⟨r58, hr59, h60⟩ := bind_some h47
    refine Cg hb41 EX hs29 (Fz N w28 F1 hs29.pers x44 _ hr59) ?_
    rintro _ F3 w62 hs63 le64 rfl
    refine Pk1 hb41 ?_
    obtain rfl := Aa h60
    exact VY ⟨rfl, F3, hs63, le64, fI⟩
   ·refine Ss hb41 4 ?_
    refine Pk0 hb41 ?_
    obtain rfl := Aa h43
    exact VY ⟨rfl, F1, hs29, (V3 _), fI⟩
  ·rintro f w32 ⟨F2, hs33, le34, ⟨_, rfl⟩⟩
   refine Ab <| Cd h40 (fun hb66 h67 => ?_) (fun hb66 h68 => ?_)
   ·refine Sq ?_
    obtain ⟨j74, hj80, h81⟩ := bind_some h67
    refine RD 7 7 [] [] hs33 (fun f w => ∃ (F4 : Mem), HS w0 F0 w F4 [] /\ V2 F2 F4 /\ FI f [] [(2, (sv (([] : Wn)))), (3, (sv j74)), (4, (sv (([] : Wn)))), (5, (.bool true))]) (fun wd69 hw70 => ?_) ?_
    ·refine Dv [0] ?_
     obtain ⟨x82, hx83, h85⟩ := bind_some hj80
     obtain ⟨hi84, hx83'⟩ := Aj hx83
     obtain ⟨b86, o87, C88, E89, fz90, rfl, hF92, hE93⟩ := Wa (V5 hsr24_0_0 le34) hx83'
     have hc95 := hE93 _ _ hx83'
     refine Di 1 hi84 <| Dx 2 0 (fun _ hq => hq.1.1 _ _ hF92) hc95 <| Dv [3, 4, 5, 6] ?_
     obtain rfl := Aa h85
     exact Wf (by kernel_rfl) ⟨F2, hw70, (V3 _), fI⟩
    ·rintro f w71 ⟨F4, hs72, le73, ⟨_, rfl⟩⟩
     refine Ab <| Rt <| Ae ?_
     obtain rfl := Aa h81
     exact Re [(sv (([] : Wn))), (sv j74), (sv (([] : Wn))), (.bool true)] hs72 rfl
   ·refine Sc ?_
    refine Ab <| Sq <| Sq ?_
    obtain ⟨j101, hj105, h106⟩ := bind_some h68
    refine RD 26 26 [] [] hs33 (fun f w => ∃ (F5 : Mem), HS w0 F0 w F5 [] /\ V2 F2 F5 /\ FI f [] [(6, (.slice ar24_0_0 r24.length nr24_0_0)), (49, (.bool j101))]) (fun wd96 hw97 => ?_) ?_
    ·refine Dvl [0, 1, 2, 3] (tf 4 22) ?_
     refine Sd hj105 (fun hb107 h108 => ?_) (fun hb107 h109 => ?_)
     ·refine Dgl 4 28 55 _ (tf 5 21) 3 true 27 hb107 (fun _ hq => mv 6 (.slice ar24_0_0 r24.length nr24_0_0)) ?_
      obtain ⟨x110, hx111, h113⟩ := bind_some h108
      obtain ⟨hi112, hx111'⟩ := Aj hx111
      obtain ⟨b114, o115, C116, E117, fz118, rfl, hF120, hE121⟩ := Wa (V5 hsr24_0_0 le34) hx111'
      have hc123 := hE121 _ _ hx111'
      refine Dgl 5 29 0 (.pointer (some ⟨b114, (o115 + (0 : Int).toNat * 1), none⟩)) (tf 6 20) 3 true 27 hb107 (fun _ hq => BE (t := 55) (x := (.tmp 28)) (y := (.const (vi 0))) (b := b114) (o := o115) (E := 9) (s := 1) (by_ := 16) rfl rfl (by kernel_rfl) hi112) <| Dgl 6 30 9 _ (tf 7 19) 3 true 27 hb107 (fun _ hq => lx 9 29 0 1 false 1 (sv x110) (hq.1.1 _ _ hF120) hc123) <| D1 7 ?_
      obtain ⟨r124, hr125, h126⟩ := bind_some h113
      refine We (l' := [true, true, true, true, true, true, true, true, false, false, false, false, false, false, false, false, false, false, false, false, false, false, false, false, false, false]) (zd := true) (by kernel_rfl) (by kernel_rfl) (by kernel_rfl) (dst := (some 31)) (ty := 4) (g := (some (3, true))) (by kernel_rfl) (Hy (d := 27) (by kernel_rfl) rfl hb107) (f0 := (.func 231)) (aos := #[(.tmp 30)]) (ats := #[9]) (fid := 231) (first := #[]) (cap := #[]) (args := [(sv x110)]) rfl JG rfl hw97 (KP N wd96 F2 hw97.pers x110 _ hr125) ?_
      rintro _ F6 w128 hs129 le130 rfl
      refine Dtl 8 32 4 _ (tf 9 17) (fun _ hq => p1 27 (.tmp 31) (.const (.bool false)) (.bool r124) hb107) <| Dvl [9] (tf 10 16) <| Sd h126 (fun hb132 h133 => ?_) (fun hb132 h134 => ?_)
      ·refine Dgl 10 34 55 _ (tf 11 15) 9 true 33 hb132 (fun _ hq => mv 6 (.slice (some ⟨b114, o115, none⟩) r24.length nr24_0_0)) ?_
       obtain ⟨x135, hx136, h138⟩ := bind_some h133
       obtain ⟨hi137, hx136'⟩ := Aj hx136
       have hc140 := hE121 _ _ hx136'
       refine Dgl 11 35 0 (.pointer (some ⟨b114, (o115 + (1 : Int).toNat * 1), none⟩)) (tf 12 14) 9 true 33 hb132 (fun _ hq => BE (t := 55) (x := (.tmp 34)) (y := (.const (vi 1))) (b := b114) (o := o115) (E := 9) (s := 1) (by_ := 16) rfl rfl (by kernel_rfl) hi137) <| Dgl 12 36 9 _ (tf 13 13) 9 true 33 hb132 (fun _ hq => lx 9 35 0 1 false 1 (sv x135) (hq.1.1 _ _ hF120) hc140) <| D1 13 ?_
       obtain ⟨r141, hr142, h143⟩ := bind_some h138
       refine We (l' := [true, true, true, true, true, true, true, true, true, true, true, true, true, true, false, false, false, false, false, false, false, false, false, false, false, false]) (zd := true) (by kernel_rfl) (by kernel_rfl) (by kernel_rfl) (dst := (some 37)) (ty := 4) (g := (some (9, true))) (by kernel_rfl) (Hy (d := 33) (by kernel_rfl) rfl hb132) (f0 := (.func 230)) (aos := #[(.tmp 36)]) (ats := #[9]) (fid := 230) (first := #[]) (cap := #[]) (args := [(sv x135)]) rfl EX rfl hs129 (Fz N w128 F6 hs129.pers x135 _ hr142) ?_
       rintro _ F7 w145 hs146 le147 rfl
       refine Dtl 14 38 4 _ (tf 15 11) (fun _ hq => p1 33 (.tmp 37) (.const (.bool false)) (.bool r141) hb132) <| Dvl [15] (tf 16 10) <| Sd h143 (fun hb149 h150 => ?_) (fun hb149 h151 => ?_)
       ·refine Dgl 16 40 55 _ (tf 17 9) 15 true 39 hb149 (fun _ hq => mv 6 (.slice (some ⟨b114, o115, none⟩) r24.length nr24_0_0)) ?_
        obtain ⟨x152, hx153, h155⟩ := bind_some h150
        obtain ⟨hi154, hx153'⟩ := Aj hx153
        have hc157 := hE121 _ _ hx153'
        refine Dgl 17 41 0 (.pointer (some ⟨b114, (o115 + (0 : Int).toNat * 1), none⟩)) (tf 18 8) 15 true 39 hb149 (fun _ hq => BE (t := 55) (x := (.tmp 40)) (y := (.const (vi 0))) (b := b114) (o := o115) (E := 9) (s := 1) (by_ := 16) rfl rfl (by kernel_rfl) hi154) <| Dgl 18 42 9 _ (tf 19 7) 15 true 39 hb149 (fun _ hq => lx 9 41 0 1 false 1 (sv x152) (hq.1.1 _ _ hF120) hc157) <| Dgl 19 43 3 (vi (x152.length : Int)) (tf 20 6) 15 true 39 hb149 (fun _ hq => Ik (x := (.tmp 42)) (ats := #[9]) (t := 9) (a := x152) rfl rfl (by kernel_rfl)) <| Dgl 20 44 55 _ (tf 21 5) 15 true 39 hb149 (fun _ hq => mv 6 (.slice (some ⟨b114, o115, none⟩) r24.length nr24_0_0)) ?_
        obtain ⟨x158, hx159, h161⟩ := bind_some h155
        obtain ⟨hi160, hx159'⟩ := Aj hx159
        have hc163 := hE121 _ _ hx159'
        refine Dgl 21 45 0 (.pointer (some ⟨b114, (o115 + (1 : Int).toNat * 1), none⟩)) (tf 22 4) 15 true 39 hb149 (fun _ hq => BE (t := 55) (x := (.tmp 44)) (y := (.const (vi 1))) (b := b114) (o := o115) (E := 9) (s := 1) (by_ := 16) rfl rfl (by kernel_rfl) hi160) <| Dgl 22 46 9 _ (tf 23 3) 15 true 39 hb149 (fun _ hq => lx 9 45 0 1 false 1 (sv x158) (hq.1.1 _ _ hF120) hc163) <| Dgl 23 47 3 (vi (x158.length : Int)) (tf 24 2) 15 true 39 hb149 (fun _ hq => Ik (x := (.tmp 46)) (ats := #[9]) (t := 9) (a := x158) rfl rfl (by kernel_rfl)) <| Dgl 24 48 4 (.bool (decide ((x152.length : Int) < (x158.length : Int)))) (tf 25 1) 15 true 39 hb149 (fun _ hq => Hp (t := 3) (t' := 3) (x := (.tmp 43)) (y := (.tmp 47)) (k := .i64) (a := (x152.length : Int)) (b := (x158.length : Int)) rfl rfl) <| Dtl 25 49 4 _ (tf 26 0) (fun _ hq => p1 39 (.tmp 48) (.const (.bool false)) (.bool (decide ((x152.length : Int) < (x158.length : Int)))) hb149) ?_
        obtain rfl := Aa h161
        exact Wf (by kernel_rfl) ⟨F7, hs146, (le130.t le147), fI⟩
       ·refine Dkl [(16, 40), (17, 41), (18, 42), (19, 43), (20, 44), (21, 45)] 15 true 39 hb149 (tf 22 4) ?_
        refine Dkl [(22, 46), (23, 47), (24, 48)] 15 true 39 hb149 (tf 25 1) <| Dtl 25 49 4 _ (tf 26 0) (fun _ hq => p0 39 (.tmp 48) (.const (.bool false)) (.bool false) hb149) ?_
        obtain rfl := Aa h151
        exact Wf (by kernel_rfl) ⟨F7, hs146, (le130.t le147), fI⟩
      ·refine Dkl [(10, 34), (11, 35), (12, 36), (13, 37)] 9 true 33 hb132 (tf 14 12) ?_
       refine Dtl 14 38 4 _ (tf 15 11) (fun _ hq => p0 33 (.tmp 37) (.const (.bool false)) (.bool false) hb132) <| Dvl [15] (tf 16 10) <| Dkl [(16, 40), (17, 41), (18, 42), (19, 43), (20, 44), (21, 45)] 15 true 39 rfl (tf 22 4) <| Dkl [(22, 46), (23, 47), (24, 48)] 15 true 39 rfl (tf 25 1) <| Dtl 25 49 4 _ (tf 26 0) (fun _ hq => p0 39 (.tmp 48) (.const (.bool false)) (.bool false) rfl) ?_
       obtain rfl := Aa h134
       exact Wf (by kernel_rfl) ⟨F6, hs129, le130, fI⟩
     ·refine Dkl [(4, 28), (5, 29), (6, 30), (7, 31)] 3 true 27 hb107 (tf 8 18) ?_
      refine Dtl 8 32 4 _ (tf 9 17) (fun _ hq => p0 27 (.tmp 31) (.const (.bool false)) (.bool false) hb107) <| Dvl [9] (tf 10 16) <| Dkl [(10, 34), (11, 35), (12, 36), (13, 37)] 9 true 33 rfl (tf 14 12) <| Dtl 14 38 4 _ (tf 15 11) (fun _ hq => p0 33 (.tmp 37) (.const (.bool false)) (.bool false) rfl) <| Dvl [15] (tf 16 10) <| Dkl [(16, 40), (17, 41), (18, 42), (19, 43), (20, 44), (21, 45)] 15 true 39 rfl (tf 22 4) <| Dkl [(22, 46), (23, 47), (24, 48)] 15 true 39 rfl (tf 25 1) <| Dtl 25 49 4 _ (tf 26 0) (fun _ hq => p0 39 (.tmp 48) (.const (.bool false)) (.bool false) rfl) ?_
      obtain rfl := Aa h109
      exact Wf (by kernel_rfl) ⟨F2, hw97, (V3 _), fI⟩
    ·rintro f w98 ⟨F5, hs99, le100, ⟨_, rfl⟩⟩
     refine Ab <| Cd h106 (fun hb164 h165 => ?_) (fun hb164 h166 => ?_)
     ·refine Sq ?_
      obtain ⟨j172, hj178, h179⟩ := bind_some h165
      refine RD 10 10 [] [] hs99 (fun f w => ∃ (F8 : Mem), HS w0 F0 w F8 [] /\ V2 F5 F8 /\ FI f [] [(2, (sv j172.1)), (3, (sv j172.2)), (4, (sv (([] : Wn)))), (5, (.bool true))]) (fun wd167 hw168 => ?_) ?_
      ·refine Dv [0] ?_
       obtain ⟨x180, hx181, h183⟩ := bind_some hj178
       obtain ⟨hi182, hx181'⟩ := Aj hx181
       obtain ⟨b184, o185, C186, E187, fz188, rfl, hF190, hE191⟩ := Wa (V5 hsr24_0_0 (le34.t le100)) hx181'
       have hc193 := hE191 _ _ hx181'
       refine Di 1 hi182 <| Dx 2 0 (fun _ hq => hq.1.1 _ _ hF190) hc193 <| Dv [3] ?_
       obtain ⟨x194, hx195, h197⟩ := bind_some h183
       obtain ⟨hi196, hx195'⟩ := Aj hx195
       have hc199 := hE191 _ _ hx195'
       refine Di 4 hi196 <| Dx 5 0 (fun _ hq => hq.1.1 _ _ hF190) hc199 <| Dv [6, 7, 8, 9] ?_
       obtain rfl := Aa h197
       exact Wf (by kernel_rfl) ⟨F5, hw168, (V3 _), fI⟩
      ·rintro f w169 ⟨F8, hs170, le171, ⟨_, rfl⟩⟩
       refine Ab <| Rt <| Ae ?_
       obtain rfl := Aa h179
       exact Re [(sv j172.1), (sv j172.2), (sv (([] : Wn))), (.bool true)] hs170 rfl
     ·refine Sc ?_
      refine Ab <| Sq <| Sq (Rg (rG 15) ?_)
      obtain ⟨j203, hj207, h208⟩ := bind_some h166
      refine V8 (fun f w => ∃ (F9 : Mem), HS w0 F0 w F9 [] /\ V2 F5 F9 /\ FI f [] [(6, (.slice ar24_0_0 r24.length nr24_0_0)), (70, (.bool j203))]) ?_ ?_
      ·refine Vs 4 ?_
       refine Sp hj207 (fun hb209 h210 => ?_) (fun hb209 h211 => ?_)
       ·refine Vgs hb209 1 ?_
        obtain ⟨x212, hx213, h215⟩ := bind_some h210
        obtain ⟨hi214, hx213'⟩ := Aj hx213
        obtain ⟨b216, o217, C218, E219, fz220, rfl, hF222, hE223⟩ := Wa (V5 hsr24_0_0 (le34.t le100)) hx213'
        have hc225 := hE223 _ _ hx213'
        refine Ixg hb209 hi214 <| Lxg hb209 0 (hs99.pers _ _ hF222) hc225 ?_
        obtain ⟨r226, hr227, h228⟩ := bind_some h215
        refine Cg hb209 EX hs99 (Fz N w98 F5 hs99.pers x212 _ hr227) ?_
        rintro _ F10 w230 hs231 le232 rfl
        refine Pk1 hb209 <| Vs 1 <| Sp h228 (fun hb234 h235 => ?_) (fun hb234 h236 => ?_)
        ·refine Vgs hb234 1 ?_
         obtain ⟨x237, hx238, h240⟩ := bind_some h235
         obtain ⟨hi239, hx238'⟩ := Aj hx238
         have hc242 := hE223 _ _ hx238'
         refine Ixg hb234 hi239 <| Lxg hb234 0 (hs231.pers _ _ (le232 _ _ hF222)) hc242 ?_
         obtain ⟨r243, hr244, h245⟩ := bind_some h240
         refine Cg hb234 HV hs231 (IW N w230 F10 hs231.pers x237 _ hr244) ?_
         rintro _ F11 w247 hs248 le249 rfl
         refine Pk1 hb234 ?_
         obtain rfl := Aa h245
         exact VY ⟨rfl, F11, hs248, (le232.t le249), fI⟩
        ·refine Ss hb234 4 ?_
         refine Pk0 hb234 ?_
         obtain rfl := Aa h236
         exact VY ⟨rfl, F10, hs231, le232, fI⟩
       ·refine Ss hb209 4 ?_
        refine Pk0 hb209 <| Vs 1 <| Ss (rfl : false = false) 4 <| Pk0 (rfl : false = false) ?_
        obtain rfl := Aa h211
        exact VY ⟨rfl, F5, hs99, (V3 _), fI⟩
      ·rintro f w200 ⟨F9, hs201, le202, ⟨_, rfl⟩⟩
       refine Ab <| Cd h208 (fun hb251 h252 => ?_) (fun hb251 h253 => ?_)
       ·refine Sq ?_
        obtain ⟨j259, hj265, h266⟩ := bind_some h252
        refine RD 10 10 [] [] hs201 (fun f w => ∃ (F12 : Mem), HS w0 F0 w F12 [] /\ V2 F9 F12 /\ FI f [] [(2, (sv (([] : Wn)))), (3, (sv j259.1)), (4, (sv j259.2)), (5, (.bool true))]) (fun wd254 hw255 => ?_) ?_
        ·refine Dv [0] ?_
         obtain ⟨x267, hx268, h270⟩ := bind_some hj265
         obtain ⟨hi269, hx268'⟩ := Aj hx268
         obtain ⟨b271, o272, C273, E274, fz275, rfl, hF277, hE278⟩ := Wa (V5 hsr24_0_0 ((le34.t le100).trans le202)) hx268'
         have hc280 := hE278 _ _ hx268'
         refine Di 1 hi269 <| Dx 2 0 (fun _ hq => hq.1.1 _ _ hF277) hc280 <| Dv [3] ?_
         obtain ⟨x281, hx282, h284⟩ := bind_some h270
         obtain ⟨hi283, hx282'⟩ := Aj hx282
         have hc286 := hE278 _ _ hx282'
         refine Di 4 hi283 <| Dx 5 0 (fun _ hq => hq.1.1 _ _ hF277) hc286 <| Dv [6, 7, 8, 9] ?_
         obtain rfl := Aa h284
         exact Wf (by kernel_rfl) ⟨F9, hw255, (V3 _), fI⟩
        ·rintro f w256 ⟨F12, hs257, le258, ⟨_, rfl⟩⟩
         refine Ab <| Rt <| Ae ?_
         obtain rfl := Aa h266
         exact Re [(sv (([] : Wn))), (sv j259.1), (sv j259.2), (.bool true)] hs257 rfl
       ·refine Sc ?_
        refine Ab <| Sq <| Sq (Rg (rG 21) ?_)
        obtain ⟨j290, hj294, h295⟩ := bind_some h253
        refine V8 (fun f w => ∃ (F13 : Mem), HS w0 F0 w F13 [] /\ V2 F9 F13 /\ FI f [] [(6, (.slice ar24_0_0 r24.length nr24_0_0)), (97, (.bool j290))]) ?_ ?_
        ·refine Vs 4 ?_
         refine Sp hj294 (fun hb296 h297 => ?_) (fun hb296 h298 => ?_)
         ·refine Vgs hb296 1 ?_
          obtain ⟨x299, hx300, h302⟩ := bind_some h297
          obtain ⟨hi301, hx300'⟩ := Aj hx300
          obtain ⟨b303, o304, C305, E306, fz307, rfl, hF309, hE310⟩ := Wa (V5 hsr24_0_0 ((le34.t le100).trans le202)) hx300'
          have hc312 := hE310 _ _ hx300'
          refine Ixg hb296 hi301 <| Lxg hb296 0 (hs201.pers _ _ hF309) hc312 ?_
          obtain ⟨r313, hr314, h315⟩ := bind_some h302
          refine Cg hb296 JG hs201 (KP N w200 F9 hs201.pers x299 _ hr314) ?_
          rintro _ F14 w317 hs318 le319 rfl
          refine Pk1 hb296 <| Vs 1 <| Sp h315 (fun hb321 h322 => ?_) (fun hb321 h323 => ?_)
          ·refine Vgs hb321 1 ?_
           obtain ⟨x324, hx325, h327⟩ := bind_some h322
           obtain ⟨hi326, hx325'⟩ := Aj hx325
           have hc329 := hE310 _ _ hx325'
           refine Ixg hb321 hi326 <| Lxg hb321 0 (hs318.pers _ _ (le319 _ _ hF309)) hc329 ?_
           obtain ⟨r330, hr331, h332⟩ := bind_some h327
           refine Cg hb321 EX hs318 (Fz N w317 F14 hs318.pers x324 _ hr331) ?_
           rintro _ F15 w334 hs335 le336 rfl
           refine Pk1 hb321 <| Vs 1 <| Sp h332 (fun hb338 h339 => ?_) (fun hb338 h340 => ?_)
           ·refine Vgs hb338 1 ?_
            obtain ⟨x341, hx342, h344⟩ := bind_some h339
            obtain ⟨hi343, hx342'⟩ := Aj hx342
            have hc346 := hE310 _ _ hx342'
            refine Ixg hb338 hi343 <| Lxg hb338 0 (hs335.pers _ _ ((le319.t le336) _ _ hF309)) hc346 ?_
            obtain ⟨r347, hr348, h349⟩ := bind_some h344
            refine Cg hb338 HV hs335 (IW N w334 F15 hs335.pers x341 _ hr348) ?_
            rintro _ F16 w351 hs352 le353 rfl
            refine Pk1 hb338 ?_
            obtain rfl := Aa h349
            exact VY ⟨rfl, F16, hs352, ((le319.t le336).trans le353), fI⟩
           ·refine Ss hb338 4 ?_
            refine Pk0 hb338 ?_
            obtain rfl := Aa h340
            exact VY ⟨rfl, F15, hs335, (le319.t le336), fI⟩
          ·refine Ss hb321 4 ?_
           refine Pk0 hb321 <| Vs 1 <| Ss (rfl : false = false) 4 <| Pk0 (rfl : false = false) ?_
           obtain rfl := Aa h323
           exact VY ⟨rfl, F14, hs318, le319, fI⟩
         ·refine Ss hb296 4 ?_
          refine Pk0 hb296 <| Vs 1 <| Ss (rfl : false = false) 4 <| Pk0 (rfl : false = false) <| Vs 1 <| Ss (rfl : false = false) 4 <| Pk0 (rfl : false = false) ?_
          obtain rfl := Aa h298
          exact VY ⟨rfl, F9, hs201, (V3 _), fI⟩
        ·rintro f w287 ⟨F13, hs288, le289, ⟨_, rfl⟩⟩
         refine Ab <| Cd h295 (fun hb355 h356 => ?_) (fun hb355 h357 => ?_)
         ·refine Sq ?_
          obtain ⟨j363, hj369, h370⟩ := bind_some h356
          refine RD 13 13 [] [] hs288 (fun f w => ∃ (F17 : Mem), HS w0 F0 w F17 [] /\ V2 F13 F17 /\ FI f [] [(2, (sv j363.1)), (3, (sv j363.2.1)), (4, (sv j363.2.2)), (5, (.bool true))]) (fun wd358 hw359 => ?_) ?_
          ·refine Dv [0] ?_
           obtain ⟨x371, hx372, h374⟩ := bind_some hj369
           obtain ⟨hi373, hx372'⟩ := Aj hx372
           obtain ⟨b375, o376, C377, E378, fz379, rfl, hF381, hE382⟩ := Wa (V5 hsr24_0_0 (((le34.t le100).trans le202).trans le289)) hx372'
           have hc384 := hE382 _ _ hx372'
           refine Di 1 hi373 <| Dx 2 0 (fun _ hq => hq.1.1 _ _ hF381) hc384 <| Dv [3] ?_
           obtain ⟨x385, hx386, h388⟩ := bind_some h374
           obtain ⟨hi387, hx386'⟩ := Aj hx386
           have hc390 := hE382 _ _ hx386'
           refine Di 4 hi387 <| Dx 5 0 (fun _ hq => hq.1.1 _ _ hF381) hc390 <| Dv [6] ?_
           obtain ⟨x391, hx392, h394⟩ := bind_some h388
           obtain ⟨hi393, hx392'⟩ := Aj hx392
           have hc396 := hE382 _ _ hx392'
           refine Di 7 hi393 <| Dx 8 0 (fun _ hq => hq.1.1 _ _ hF381) hc396 <| Dv [9, 10, 11, 12] ?_
           obtain rfl := Aa h394
           exact Wf (by kernel_rfl) ⟨F13, hw359, (V3 _), fI⟩
          ·rintro f w360 ⟨F17, hs361, le362, ⟨_, rfl⟩⟩
           refine Ab <| Rt <| Ae ?_
           obtain rfl := Aa h370
           exact Re [(sv j363.1), (sv j363.2.1), (sv j363.2.2), (.bool true)] hs361 rfl
         ·refine Sc ?_
          refine Ab <| Sq (Rg (rG 4) ?_)
          refine Vs 4 <| Nt <| Rt ?_
          obtain rfl := Aa h357
          exact Re [(sv (([] : Wn))), (sv (([] : Wn))), (sv (([] : Wn))), (.bool false)] hs288 rfl
def DR (N : Nat) (x0 : Wn) : Option Bool :=
 ((Gr N x0).bind fun r21 => some r21.2.2.2)
theorem JZ : Af Tryz.prog 144 := fun _ _ => by kernel_rfl
theorem KQ (N : Nat) (w0 : World) (F0 : Mem) (hF : Wp w0 F0) (x0 : Wn) (r : Bool) (h : DR N x0 = some r) :
  Calls Tryz.prog 144 ([(sv x0)] : List Value).toArray w0 (AA w0 F0 fun F' v => v = (.bool r)) := by
 have hs0 := V4 hF
 refine Go 15 Tryz.func144 <| Sq (Rg [0] ?_)
 refine Vs 1 <| Nss (Rg (rG 11) ?_)
 refine Vs 1 ?_
 obtain ⟨r21, hr22, h23⟩ := bind_some h
 refine Cl' NG hs0 (Ou N w0 F0 hs0.pers x0 _ hr22) ?_
 rintro _ F1 w25 hs26 le27 rfl
 refine Vs 9 <| Nss (Rg [0, 1] ?_)
 refine Vs 2 <| Nt <| Rt ?_
 obtain rfl := Aa h23
 exact Re [(.bool r21.2.2.2)] hs26 rfl
def Bl (N : Nat) (x0 : (List Line)) (x1 : Int) (x2 : (Line -> Int -> Option Int)) : (Int × Int) -> Option (A4 (Int × Bool) (Int × Int)) := fun s24 =>
 (bif (decide (s24.1 < s24.2)) then ((idx x0 (W64 (Int.fdiv (IntKind.u64.wrap (W64 (s24.1 + s24.2))) (2 ^ min (1 : Int).toNat IntKind.u64.bits)))).bind fun x54 => ((x2 x54 x1).bind fun r68 => (bif (decide (r68 < 0)) then none else some (.next (s24.1, (W64 (Int.fdiv (IntKind.u64.wrap (W64 (s24.1 + s24.2))) (2 ^ min (1 : Int).toNat IntKind.u64.bits)))))))) else some (.done (s24.1, s24.2)))
def Bt (N : Nat) (x0 : (List Line)) (x1 : Int) (x2 : (Line -> Int -> Option Int)) : Option (Int × Bool) :=
 ((AJ (Bl N x0 x1 x2) N (0, (x0.length : Int))).bind fun o => o.k (fun r => some r) (fun s35 => (bif (decide (s35.1 < (x0.length : Int))) then ((idx x0 s35.1).bind fun x85 => ((x2 x85 x1).bind fun r99 => some (s35.1, (r99 == 0)))) else none)))
theorem B7 : Af Tryz.prog 252 := fun _ _ => by kernel_rfl
theorem Cm (N : Nat) (w0 : World) (F0 : Mem) (hF : Wp w0 F0) (x0 : (List Line)) (a0_0 : Wo) (n0_0 : Nat) (hb0_0 : LC x0.length n0_0) (hs0_0 : SlA AL F0 a0_0 x0) (x1 : Int) (gx2 : FuncId) (fx2 kx2 : List Value) (x2 : Line -> Int -> Option Int) (hox2 : Af Tryz.prog gx2) (hpx2 : RM F0 gx2 fx2 kx2 x2) (r : (Int × Bool)) (h : Bt N x0 x1 x2 = some r) :
  Calls Tryz.prog 252 ([(.slice a0_0 x0.length n0_0), (vi x1), (.func (.func gx2) fx2.toArray kx2.toArray)] : List Value).toArray w0 (AA w0 F0 fun F' v => v = (.tuple #[(vi r.1), (.bool r.2)])) := by
 have hs0 := V4 hF
 refine Go 49 Tryz.func252 <| Sq (Rg [0, 1] ?_)
 refine Vs 2 <| Nss (Rg [0, 1, 2] ?_)
 refine Vs 3 <| Nss (Rg [0, 1, 2] ?_)
 refine Vs 3 <| Nss ?_
 obtain ⟨o21, ho22, h23⟩ := bind_some h
 refine V9 (fun f w => ∃ (s35 : (Int × Int)) (F2 : Mem), o21 = .done s35 /\ HS w0 F0 w F2 [] /\ V2 F0 F2 /\ FI f [] [(0, (.slice a0_0 x0.length n0_0)), (1, (vi x1)), (2, (.func (.func gx2) fx2.toArray kx2.toArray)), (8, (vi (x0.length : Int))), (9, (vi s35.1))]) ?_ ?_
 ·refine Bk ?_
  refine V1 (by kernel_rfl) (fun m f w => ∃ (s24 : (Int × Int)) (F1 : Mem), AJ (Bl N x0 x1 x2) m s24 = some o21 /\ HS w0 F0 w F1 [] /\ V2 F0 F1 /\ FI f [] [(0, (.slice a0_0 x0.length n0_0)), (1, (vi x1)), (2, (.func (.func gx2) fx2.toArray kx2.toArray)), (8, (vi (x0.length : Int))), (9, (vi s24.1)), (10, (vi s24.2))]) N ⟨(0, (x0.length : Int)), F0, ho22, hs0, (V3 _), fI⟩ ?_
  rintro m45 f w25 ⟨s24, F1, hit46, hs26, le27, ⟨_, rfl⟩⟩
  obtain ⟨m47, fl48, rfl, hb49, hnx50⟩ := AC hit46
  refine Sq <| Sq (Rg [0, 1, 2] ?_)
  refine Vs 3 <| Nt <| Cd hb49 (fun hb51 h52 => ?_) (fun hb51 h53 => ?_)
  ·refine Sc ?_
   refine Ab <| Bk <| Sq (Rg (rG 7) ?_)
   refine Vs 4 <| V 22 222 (TG (t := 222) (t' := 222) (x := (.tmp 21)) (y := (.const (.int .u64 1))) (k := .u64) (q := .u64) (a := (IntKind.u64.wrap (W64 (s24.1 + s24.2)))) (b := 1) rfl rfl (by decide)) <| Vs 2 <| Nss (Rg (rG 8) ?_)
   refine Vs 3 ?_
   obtain ⟨x54, hx55, h57⟩ := bind_some h52
   obtain ⟨hi56, hx55'⟩ := Aj hx55
   obtain ⟨b58, o59, C60, E61, fz62, rfl, hF64, hE65⟩ := Wa (V5 hs0_0 le27) hx55'
   have hc67 := hE65 _ _ hx55'
   refine Ix hi56 <| Lx 0 (hs26.pers _ _ hF64) hc67 <| Vs 1 ?_
   obtain ⟨r68, hr69, h70⟩ := bind_some h57
   refine Cq hox2 hs26 (hpx2 w25 F1 x54 x1 _ le27 hs26.pers hr69) ?_
   rintro _ F3 w72 hs73 le74 rfl
   refine Vs 1 <| Nt <| Cd h70 (fun hb76 h77 => ?_) (fun hb76 h78 => ?_)
   ·cases h77
   ·refine Rg [0, 1] ?_
    refine Vs 2 <| VY <| Ap ?_
    have hn79 := AD h78 hnx50
    exact ⟨m47, Nat.lt_succ_self _, (s24.1, (W64 (Int.fdiv (IntKind.u64.wrap (W64 (s24.1 + s24.2))) (2 ^ min (1 : Int).toNat IntKind.u64.bits)))), F3, hn79, hs73, (le27.t le74), fI⟩
  ·refine Ex ?_
   refine Al <| Al <| Ay rfl ?_
   have ho80 := AE h53 hnx50
   exact .inl ⟨rfl, (s24.1, s24.2), F1, ho80, hs26, le27, fI⟩
 ·rintro f w36 ⟨s35, F2, rfl, hs37, le38, ⟨_, rfl⟩⟩
  have h81 := A6 h23
  refine Ab <| Sq (Rg (rG 16) ?_)
  refine Vs 5 <| Sp h81 (fun hb82 h83 => ?_) (fun hb82 h84 => ?_)
  ·refine Vgs hb82 3 ?_
   obtain ⟨x85, hx86, h88⟩ := bind_some h83
   obtain ⟨hi87, hx86'⟩ := Aj hx86
   obtain ⟨b89, o90, C91, E92, fz93, rfl, hF95, hE96⟩ := Wa (V5 hs0_0 le38) hx86'
   have hc98 := hE96 _ _ hx86'
   refine Ixg hb82 hi87 <| Lxg hb82 0 (hs37.pers _ _ hF95) hc98 <| Vgs hb82 1 ?_
   obtain ⟨r99, hr100, h101⟩ := bind_some h88
   refine RWP.call (dst := (some 46)) (ty := 3) (g := (some (4, true))) (by kernel_rfl) (Hy (d := 39) (by kernel_rfl) rfl hb82) (f0 := (.tmp 40)) (aos := #[(.tmp 44), (.tmp 45)]) (ats := #[34, 3]) (fid := gx2) (first := fx2.toArray) (cap := kx2.toArray) (args := (fx2 ++ (([(.agg (BL x85)), (vi x1)] : List Value) ++ kx2))) rfl hox2 (D9 (l := [(.agg (BL x85)), (vi x1)]) (fi := fx2) (k := kx2) rfl) hs37 (hpx2 w36 F2 x85 x1 _ le38 hs37.pers hr100) ?_
   rintro _ F4 w103 hs104 le105 rfl
   refine Vgs hb82 1 <| Pk1 hb82 <| Vs 2 <| Nt <| Rt ?_
   obtain rfl := Aa h101
   exact Re [(vi s35.1), (.bool (r99 == 0))] hs104 rfl
  ·cases h84
def GS (N : Nat) (x0 : Int) : Option Bool :=
 some (x0 != x0)
theorem Hb : Af Tryz.prog 281 := fun _ _ => by kernel_rfl
theorem H1 (N : Nat) (w0 : World) (F0 : Mem) (hF : Wp w0 F0) (x0 : Int) (r : Bool) (h : GS N x0 = some r) :
  Calls Tryz.prog 281 ([(vi x0)] : List Value).toArray w0 (AA w0 F0 fun F' v => v = (.bool r)) := by
 have hs0 := V4 hF
 refine Go 6 Tryz.func281 <| Sq (Rg [0] ?_)
 refine Vs 1 <| Nss (Rg (rG 4) ?_)
 refine Vs 4 <| Nt <| Rt ?_
 obtain rfl := Aa h
 exact Re [(.bool (x0 != x0))] hs0 rfl
def HZ (N : Nat) (x0 : Int) (x1 : Int) : Option Int :=
 ((GS N x0).bind fun r21 => ((GS N x1).bind fun r29 => (bif r21 then none else (bif r29 then none else (bif (decide (x0 < x1)) then none else (bif (decide (x0 > x1)) then none else some 0))))))
theorem J3 : Af Tryz.prog 254 := fun _ _ => by kernel_rfl
theorem KX (N : Nat) (w0 : World) (F0 : Mem) (hF : Wp w0 F0) (x0 : Int) (x1 : Int) (r : Int) (h : HZ N x0 x1 = some r) :
  Calls Tryz.prog 254 ([(vi x0), (vi x1)] : List Value).toArray w0 (AA w0 F0 fun F' v => v = (vi r)) := by
 have hs0 := V4 hF
 refine Go 20 Tryz.func254 <| Sq (Rg [0] ?_)
 refine Vs 1 <| Nss (Rg [0, 1, 2] ?_)
 refine Vs 1 ?_
 obtain ⟨r21, hr22, h23⟩ := bind_some h
 refine Cl' Hb hs0 (H1 N w0 F0 hs0.pers x0 _ hr22) ?_
 rintro _ F1 w25 hs26 le27 rfl
 refine Vs 1 <| Nss (Rg [0, 1, 2] ?_)
 refine Vs 1 ?_
 obtain ⟨r29, hr30, h31⟩ := bind_some h23
 refine Cl' Hb hs26 (H1 N w25 F1 hs26.pers x1 _ hr30) ?_
 rintro _ F2 w33 hs34 le35 rfl
 refine Vs 1 <| Nss <| Sq (Rg [0] ?_)
 refine Vs 1 <| Nt <| Cd h31 (fun hb37 h38 => ?_) (fun hb37 h39 => ?_)
 ·cases h38
 ·refine Sc ?_
  refine Ab <| Sq <| Sq (Rg [0] ?_)
  refine Vs 1 <| Nt <| Cd h39 (fun hb40 h41 => ?_) (fun hb40 h42 => ?_)
  ·cases h41
  ·refine Sc ?_
   refine Ab <| Sq <| Sq (Rg [0, 1, 2] ?_)
   refine Vs 3 <| Nt <| Cd h42 (fun hb43 h44 => ?_) (fun hb43 h45 => ?_)
   ·cases h44
   ·refine Sc ?_
    refine Ab <| Sq <| Sq (Rg [0, 1, 2] ?_)
    refine Vs 3 <| Nt <| Cd h45 (fun hb46 h47 => ?_) (fun hb46 h48 => ?_)
    ·cases h47
    ·refine Sc ?_
     refine Ab <| Sq (Rg [0] ?_)
     refine Vs 1 <| Nt <| Rt ?_
     obtain rfl := Aa h48
     exact Re [(vi 0)] hs34 rfl

end Go.Proofs.YthljkpeimofbbaaGreatDoor

namespace Go.Proofs.YthljkpeimofbbaaGreatDoor
def isL (b : UInt8) : Bool := decide (65 <= b.toNat) && decide (b.toNat <= 90)
def isD (b : UInt8) : Bool := decide (48 <= b.toNat) && decide (b.toNat <= 57)
def isE (b : UInt8) : Bool := isL b || isD b
theorem S2 {b : UInt8} (h : 128 <= b.toNat) : isL b = false := by unfold isL; simp; omega
theorem S3 {b : UInt8} (h : 128 <= b.toNat) : isD b = false := by unfold isD; simp; omega
theorem UR {b : UInt8} (h : 128 <= b.toNat) : isE b = false := by unfold isE; rw [S2 h, S3 h]; rfl
theorem Ps {b : UInt8} (h : isE b = true) : b.toNat < 128 := by unfold isE isL isD at h; simp at h; omega
theorem VP {b : UInt8} (h : isL b = true) : isD b = false := by unfold isL at h; unfold isD; simp at h ⊢; omega
theorem P5 (N : Nat) (b : UInt8) : BP N (b.toNat : Int) = some (isL b) := by
 unfold BP isL
 congr 2 <;> (rw [decide_eq_decide]; omega)
theorem Ru (N : Nat) (b : UInt8) : Bj N (b.toNat : Int) = some (isD b) := by
 unfold Bj isD
 congr 2 <;> (rw [decide_eq_decide]; omega)
theorem OU (N : Nat) (b : UInt8) : El N (b.toNat : Int) = some (isL b) := by
 unfold El isL
 congr 2 <;> (rw [decide_eq_decide]; omega)
theorem Ni (N : Nat) (b : UInt8) : D7 N (b.toNat : Int) = some (isD b) := by
 unfold D7 isD
 congr 2 <;> (rw [decide_eq_decide]; omega)
theorem Kq (N : Nat) {n : Nat} (h : 128 <= n) : BP N (n : Int) = some false := by
 unfold BP
 have : decide ((n : Int) <= 90) = false := by rw [decide_eq_false_iff_not]; omega
 rw [this, Bool.and_false]
theorem Mb (N : Nat) {n : Nat} (h : 128 <= n) : Bj N (n : Int) = some false := by
 unfold Bj
 have : decide ((n : Int) <= 57) = false := by rw [decide_eq_false_iff_not]; omega
 rw [this, Bool.and_false]
theorem SW (N : Nat) (b : UInt8) : Do N (b.toNat : Int) = some (isE b) := by
 unfold Do isE
 rw [P5, Ru]
 cases isL b <;> rfl
theorem Pq (N : Nat) {n : Nat} (h : 128 <= n) : Do N (n : Int) = some false := by
 unfold Do
 rw [Kq N h, Mb N h]
 rfl
theorem Nh (N : Nat) (a b c : Int) : Gc N a b c = some (decide (b <= a) && decide (a <= c)) := rfl
theorem FF (N : Nat) (a b c : Int) : Ci N a b c = some (decide (b <= a) && decide (a <= c)) := rfl
structure Gh (p : Int -> Option Bool) (P : UInt8 -> Bool) : Prop where
 lo : ∀ b : UInt8, b.toNat < 128 -> p (b.toNat : Int) = some (P b)
 hi : ∀ n : Nat, 128 <= n -> p (n : Int) = some false
 big : ∀ b : UInt8, 128 <= b.toNat -> P b = false
theorem SJ (N : Nat) : Gh (fun y0 => BP N y0) isL := ⟨fun b _ => P5 N b, fun _ h => Kq N h, fun _ h => S2 h⟩
theorem Rl (N : Nat) : Gh (fun y0 => Bj N y0) isD := ⟨fun b _ => Ru N b, fun _ h => Mb N h, fun _ h => S3 h⟩
theorem Vo (N : Nat) : Gh (fun y0 => Do N y0) isE := ⟨fun b _ => SW N b, fun _ h => Pq N h, fun _ h => UR h⟩
theorem Gh.some {p : Int -> Option Bool} {P : UInt8 -> Bool} (h : Gh p P) (n : Nat) : (p (n : Int)).isSome = true := by
 rcases Nat.lt_or_ge n 128 with h' | h'
 ·have := h.lo (UInt8.ofNat n) (by rw [UInt8.toNat_ofNat']; omega)
  have e : (UInt8.ofNat n).toNat = n := by rw [UInt8.toNat_ofNat']; omega
  rw [e] at this
  rw [this]; rfl
 ·rw [h.hi n h']; rfl
theorem Gh.all {p : Int -> Option Bool} {P : UInt8 -> Bool} (h : Gh p P) : Km p = true := Ip.2 fun n _ => h.some n
theorem G4 {p : Int -> Option Bool} {P : UInt8 -> Bool} (hp : Gh p P) {N : Nat} (s : Wn) (most : Int) (hN : s.length < N) :
  Fh N s most p = some (s.all P && (decide (1 <= (s.length : Int)) && decide ((s.length : Int) <= most))) := by
 have key := EW (body := Fg N s most p) s.length (fun i (st : Nat) => st = i /\ (s.take i).all P = true)
  (fun o => (s.all P = true /\ o = .done s.length) \/ (s.all P = false /\ o = .ret false)) (by
   rintro i st hi ⟨rfl, hall⟩
   by_cases h : st < s.length
   ·have hget : s[st]? = some s[st] := List.getElem?_eq_getElem h
    unfold Fg
    simp only [h, decide_true, cond_true]
    have htake : s.take (st + 1) = s.take st ++ [s[st]] := by rw [List.take_add_one, hget]; rfl
    have hfalse : P s[st] = false -> s.all P = false := fun hP => by
     rw [List.all_eq_false]; exact ⟨s[st], List.getElem_mem h, by rw [hP]; simp⟩
    rcases Nat.lt_or_ge s[st].toNat 128 with hb | hb
    ·rw [M2 hget hb, hp.lo _ hb]
     simp only [Option.bind_some]
     cases hP : P s[st] with
     | true => exact .inl ⟨st + 1, rfl, ⟨rfl, by rw [htake, List.all_append, hall]; simp [hP]⟩, trivial⟩
     | false => exact .inr ⟨.ret false, rfl, (fun _ e => by cases e), .inr ⟨hfalse hP, rfl⟩⟩
    ·have hs := Qz hget hb
     rw [hp.hi _ hs.1]
     simp only [Option.bind_some]
     exact .inr ⟨.ret false, rfl, (fun _ e => by cases e), .inr ⟨hfalse (hp.big _ hb), rfl⟩⟩
   ·have : st = s.length := by omega
    subst this
    unfold Fg
    simp only [Nat.lt_irrefl, decide_false, cond_false]
    exact .inr ⟨_, rfl, (fun _ e => by cases e), .inl ⟨by simpa using hall, rfl⟩⟩) s.length N 0 0 (by omega) ⟨rfl, rfl⟩ hN
 obtain ⟨o, ho, hR⟩ := key
 unfold Fh
 rw [ho]
 rcases hR with ⟨h1, rfl⟩ | ⟨h1, rfl⟩
 ·simp only [Option.bind_some, A4.k, Nh, h1, Bool.true_and]
 ·simp only [Option.bind_some, A4.k, h1, Bool.false_and]
theorem OO {p : Int -> Option Bool} {P : UInt8 -> Bool} (hp : Gh p P) {b : UInt8} (h : b.toNat < 128) : Fj p b.toNat = P b := by unfold Fj; rw [hp.lo b h]; rfl
theorem Kw {p : Int -> Option Bool} {P : UInt8 -> Bool} (hp : Gh p P) (s : Wn) (ha : ∀ b, b ∈ s -> b.toNat < 128) : ∀ (f i : Nat), s.length <= i + f -> i <= s.length ->
  (0 <= Go.Lib.idxFuncFrom (Fj p) true ⟨s.toArray⟩ f i ↔ (s.drop i).any P = true)
 | 0, i, h1, h2 => by
  have : i = s.length := by omega
  subst this
  simp [Go.Lib.idxFuncFrom]
 | f + 1, i, h1, h2 => by
  unfold Go.Lib.idxFuncFrom
  have hsz : (⟨s.toArray⟩ : ByteArray).size = s.length := by simp [ByteArray.size]
  rw [hsz]
  by_cases h : i < s.length
  ·rw [if_pos h]
   have hget : s[i]? = some s[i] := List.getElem?_eq_getElem h
   have hd : Utf8.decode ⟨s.toArray⟩ i = (s[i].toNat, 1) := M2 hget (ha _ (List.getElem_mem h))
   rw [hd]
   simp only
   rw [OO hp (ha _ (List.getElem_mem h)), List.drop_eq_getElem_cons h, List.any_cons]
   cases hP : P s[i] with
   | true => simp
   | false =>
    simp only [Bool.false_eq_true, if_false, Bool.false_or]
    exact Kw hp s ha f (i + 1) (by omega) (by omega)
  ·have : i = s.length := by omega
   subst this
   simp
theorem Se {p : Int -> Option Bool} {P : UInt8 -> Bool} (hp : Gh p P) {N : Nat} (s : Wn) (ha : ∀ b, b ∈ s -> b.toNat < 128) : ∃ r, Ch N s p = some r /\ decide (r >= 0) = s.any P := by
 refine ⟨_, by unfold Ch; rw [if_pos hp.all], ?_⟩
 have := Kw hp s ha s.length 0 (by omega) (by omega)
 have hsz : (⟨s.toArray⟩ : ByteArray).size = s.length := by simp [ByteArray.size]
 unfold Go.Lib.idxFunc
 rw [hsz]
 rw [List.drop_zero] at this
 cases hs : s.any P with
 | true => rw [hs] at this; exact decide_eq_true (this.2 rfl)
 | false =>
  rw [hs] at this
  exact decide_eq_false fun h => by have := this.1 h; cases this
def Jh : Wn -> Nat
 | [] => 0
 | b :: r => if isD b then r.length + 1 else Jh r
def Bo (s : Wn) : Nat := Jh s.reverse
theorem Qi : Bo [] = 0 := rfl
theorem OZ (l : Wn) (b : UInt8) : Bo (l ++ [b]) = if isD b then l.length + 1 else Bo l := by
 unfold Bo
 rw [List.reverse_append]
 simp [Jh]
theorem MR : ∀ l : Wn, Jh l <= l.length
 | [] => Nat.le_refl _
 | b :: r => by
  unfold Jh
  split
  ·exact Nat.le_refl _
  ·exact Nat.le_succ_of_le (MR r)
theorem Pz (s : Wn) : Bo s <= s.length := by unfold Bo; have := MR s.reverse; simpa using this
theorem OY : ∀ l : Wn, ∀ b, b ∈ l.take (l.length - Jh l) -> isD b = false
 | [], b, h => by simp at h
 | c :: r, b, h => by
  unfold Jh at h
  split at h
  ·simp at h
  ·rename_i hc
   have hc' : isD c = false := by simpa using hc
   have := MR r
   rw [show (c :: r).length - Jh r = (r.length - Jh r) + 1 by simp; omega, List.take_succ_cons] at h
   rcases List.mem_cons.1 h with rfl | h
   ·exact hc'
   ·exact OY r b h
theorem O0 (s : Wn) : ∀ b, b ∈ s.drop (Bo s) -> isD b = false := by
 intro b hb
 have h := OY s.reverse b
 have e : s.reverse.take (s.reverse.length - Jh s.reverse) = (s.drop (Bo s)).reverse := by
  rw [List.reverse_drop, List.length_reverse]; rfl
 rw [e] at h
 exact h (by simpa using hb)
theorem RE : ∀ l : Wn, 0 < Jh l -> ∃ b, l[l.length - Jh l]? = some b /\ isD b = true
 | [], h => by simp [Jh] at h
 | c :: r, h => by
  unfold Jh at h ⊢
  by_cases hc : isD c = true
  ·rw [if_pos hc]
   exact ⟨c, by simp, hc⟩
  ·rw [if_neg hc] at h ⊢
   obtain ⟨b, h1, h2⟩ := RE r h
   have := MR r
   refine ⟨b, ?_, h2⟩
   rw [show (c :: r).length - Jh r = (r.length - Jh r) + 1 by simp; omega, List.getElem?_cons_succ]
   exact h1
theorem Up (s : Wn) (h : 0 < Bo s) : ∃ b, s[Bo s - 1]? = some b /\ isD b = true := by
 obtain ⟨b, h1, h2⟩ := RE s.reverse h
 refine ⟨b, ?_, h2⟩
 have hle := Pz s
 rw [List.length_reverse, List.getElem?_reverse (by show s.length - Bo s < s.length; omega)] at h1
 rw [<- h1]
 congr 1
 show Bo s - 1 = s.length - 1 - (s.length - Bo s)
 omega
theorem JC (N : Nat) (s : Wn) (ha : ∀ b, b ∈ s -> b.toNat < 128) : ∀ (f i : Nat), i <= f -> i <= s.length ->
  Go.Lib.lastIdxFuncFrom (Fj fun y0 => Bj N y0) true ⟨s.toArray⟩ f i + 1 = (Bo (s.take i) : Int)
 | 0, i, h1, h2 => by
  have : i = 0 := by omega
  subst this
  simp [Go.Lib.lastIdxFuncFrom, Qi]
 | f + 1, 0, h1, h2 => by simp [Go.Lib.lastIdxFuncFrom, Qi]
 | f + 1, i + 1, h1, h2 => by
  unfold Go.Lib.lastIdxFuncFrom
  rw [if_pos (Nat.succ_pos i)]
  have h : i < s.length := by omega
  have htake : s.take (i + 1) = s.take i ++ [s[i]] := by rw [List.take_add_one, List.getElem?_eq_getElem h]; rfl
  have hb := ha _ (List.getElem_mem h)
  have hdl : Go.Lib.decodeLastL (s.take (i + 1)) = (s[i].toNat, 1) := by
   unfold Go.Lib.decodeLastL
   rw [if_neg (fun e => by have h9 := congrArg List.length e; rw [List.length_take, List.length_nil] at h9; omega)]
   have hlen : (s.take (i + 1)).length - 1 = i := by rw [List.length_take]; omega
   have hg : (s.take (i + 1)).getD i 0 = s[i] := by
    rw [List.getD_eq_getElem?_getD, List.getElem?_take, if_pos (by omega), List.getElem?_eq_getElem h]; rfl
   rw [hlen, hg, if_pos hb]
  simp only [List.toList_toArray] at *
  rw [hdl]
  simp only
  rw [OO (Rl N) hb, htake, OZ]
  cases hP : isD s[i] with
  | true =>
   simp only [if_true]
   rw [List.length_take, Nat.min_eq_left (by omega)]
   simp
  | false =>
   simp only [Bool.false_eq_true, if_false]
   rw [show i + 1 - 1 = i by omega]
   exact JC N s ha f i (by omega) (by omega)
theorem FJ (i : Nat) (h : i < 4611686018427387904) : W64 ((i : Int) + 1) = ((i + 1 : Nat) : Int) := by
 rw [EP (by omega) (by omega)]; omega
def pcs (c : UInt8) : Wn -> List Wn
 | [] => [[]]
 | b :: s => if b = c then [] :: pcs c s else match pcs c s with
  | p :: r => (b :: p) :: r
  | [] => [[b]]
theorem SM (c : UInt8) : ∀ s, pcs c s ≠ []
 | [] => by simp [pcs]
 | b :: s => by
  unfold pcs
  split
  ·simp
  ·split <;> simp
theorem Iq {c : UInt8} : ∀ {a : Wn}, c ∉ a -> pcs c a = [a]
 | [], _ => rfl
 | b :: s, h => by
  have h1 : ¬ b = c := fun e => h (by rw [e]; exact List.mem_cons_self)
  have h2 : c ∉ s := fun hm => h (List.mem_cons_of_mem _ hm)
  unfold pcs
  rw [if_neg h1, Iq h2]
theorem Ko {c : UInt8} : ∀ {a t : Wn}, c ∉ a -> pcs c (a ++ c :: t) = a :: pcs c t
 | [], t, _ => by simp [pcs]
 | b :: s, t, h => by
  have h1 : ¬ b = c := fun e => h (by rw [e]; exact List.mem_cons_self)
  have h2 : c ∉ s := fun hm => h (List.mem_cons_of_mem _ hm)
  rw [List.cons_append]
  conv => lhs; unfold pcs
  rw [if_neg h1, Ko h2]
theorem Ee {c : UInt8} : ∀ {s : Wn}, c ∈ s -> ∃ a t, s = a ++ c :: t /\ c ∉ a
 | b :: s, h => by
  by_cases hb : b = c
  ·exact ⟨[], s, by rw [hb]; rfl, by simp⟩
  ·rcases List.mem_cons.1 h with e | h
   ·exact absurd e.symm hb
   ·obtain ⟨a, t, h1, h2⟩ := Ee h
    exact ⟨b :: a, t, by rw [h1]; rfl, fun hm => by
     rcases List.mem_cons.1 hm with e | hm
     ·exact hb e.symm
     ·exact h2 hm⟩
theorem ID {c : UInt8} : ∀ {s : Wn}, c ∉ s -> Go.Lib.index s [c] = -1
 | [], _ => rfl
 | b :: s, h => by
  have h1 : ¬ c = b := fun e => h (by rw [e]; exact List.mem_cons_self)
  have h2 : c ∉ s := fun hm => h (List.mem_cons_of_mem _ hm)
  unfold Go.Lib.index
  rw [if_neg (by simp [List.isPrefixOf]; exact h1), ID h2]
  rfl
theorem IC {c : UInt8} : ∀ {a t : Wn}, c ∉ a -> Go.Lib.index (a ++ c :: t) [c] = (a.length : Int)
 | [], t, _ => by
  show Go.Lib.index (c :: t) [c] = 0
  unfold Go.Lib.index
  rw [if_pos (by simp [List.isPrefixOf])]
 | b :: s, t, h => by
  have h1 : ¬ c = b := fun e => h (by rw [e]; exact List.mem_cons_self)
  have h2 : c ∉ s := fun hm => h (List.mem_cons_of_mem _ hm)
  rw [List.cons_append]
  unfold Go.Lib.index
  rw [if_neg (by simp [List.isPrefixOf]; exact h1), IC h2, if_neg (by simp <;> omega)]
  simp
theorem M0 {c : UInt8} : ∀ (n f : Nat) (s : Wn), s.length <= n -> s.length < f -> Go.Lib.splitK [c] 0 (Go.Lib.countFrom [c] f s) s = pcs c s
 | _, 0, s, _, h => by omega
 | n, f + 1, s, h1, h2 => by
  by_cases hc : c ∈ s
  ·obtain ⟨a, t, rfl, ha⟩ := Ee hc
   have hi := IC (t := t) ha
   unfold Go.Lib.countFrom
   rw [hi, if_neg (by simp <;> omega), Nat.add_comm 1]
   unfold Go.Lib.splitK
   rw [hi, if_neg (by simp <;> omega)]
   have hdrop : (a ++ c :: t).drop (((a.length : Int)).toNat + [c].length) = t := by
    simp
   have htake : (a ++ c :: t).take (((a.length : Int)).toNat + 0) = a := by simp
   rw [hdrop, htake, Ko ha]
   have hl : t.length < n := by simp at h1; omega
   obtain ⟨n', rfl⟩ : ∃ n', n = n' + 1 := ⟨n - 1, by omega⟩
   rw [M0 n' f t (by omega) (by simp at h2; omega)]
  ·rw [Iq hc]
   unfold Go.Lib.countFrom
   rw [ID hc, if_pos (by simp)]
   rfl
theorem PT (c : UInt8) (s : Wn) : O7 s [c] = pcs c s := by
 unfold O7
 rw [Go.Lib.splitB_data]
 have : Go.Lib.countB ⟨s.toArray⟩ ⟨[c].toArray⟩ = Go.Lib.countFrom [c] (s.length + 1) s := by
  rfl
 rw [this]
 exact M0 s.length (s.length + 1) s (Nat.le_refl _) (Nat.lt_succ_self _)
theorem Rw {N : Nat} {s : Wn} (c : UInt8) (h : s.length < 4294967281) : strings_Split N s [c] = some (pcs c s) := by
 unfold strings_Split
 rw [if_pos ⟨h, by simp⟩, PT]
theorem Tg {c : UInt8} {s : Wn} (h : c ∉ s) : Go.Lib.cut s [c] = (s, [], false) := by
 unfold Go.Lib.cut
 rw [ID h, if_neg (by decide)]
theorem Tf {c : UInt8} {a t : Wn} (h : c ∉ a) : Go.Lib.cut (a ++ c :: t) [c] = (a, t, true) := by
 unfold Go.Lib.cut
 rw [IC h, if_pos (by omega)]
 simp only [Int.toNat_natCast, List.length_singleton]
 rw [List.drop_append]
 simp
theorem Ur (b c : UInt8) (z : Int) (h : z = (c.toNat : Int)) : ((b.toNat : Int) == z) = decide (b = c) := by
 subst h
 rw [Bool.eq_iff_iff]
 simp only [beq_iff_eq, decide_eq_true_eq]
 constructor
 ·intro h
  exact UInt8.toNat_inj.1 (by omega)
 ·rintro rfl
  rfl
theorem R6 {N : Nat} (s : Wn) (hs : s.length < 4294967290) (hN : s.length < N) : Fu N s = some (pcs 47 s) := by
 have key := EW (body := DQ N s) s.length (fun i st => ∃ (out : List Wn) (fr : Nat), st = (out, (fr : Int), (i : Int)) /\ fr <= i /\ out.length <= i /\ pcs 47 s = out ++ pcs 47 (s.drop fr) /\ (47 : UInt8) ∉ (s.drop fr).take (i - fr))
  (fun o => ∃ (out : List Wn) (fr : Nat), o = .done (out, (fr : Int), (s.length : Int)) /\ fr <= s.length /\ out.length <= s.length /\ pcs 47 s = out ++ [s.drop fr]) (by
   rintro i st hi ⟨out, fr, rfl, h1, h2, h3, h4⟩
   unfold DQ
   simp only
   by_cases h : i < s.length
   ·have hget : s[i]? = some s[i] := List.getElem?_eq_getElem h
    have e1 : decide ((i : Int) < (s.length : Int)) = true := decide_eq_true (by omega)
    rw [e1, cond_true, GZ h, Option.bind_some, Ur _ 47 47 rfl, FJ i (by omega)]
    have hdi : s.drop fr = (s.drop fr).take (i - fr) ++ s[i] :: s.drop (i + 1) := by
     have e2 : s.drop fr = (s.drop fr).take (i - fr) ++ (s.drop fr).drop (i - fr) := (List.take_append_drop _ _).symm
     rw [List.drop_drop, show fr + (i - fr) = i by omega, List.drop_eq_getElem_cons h] at e2
     exact e2
    by_cases hc : s[i] = 47
    ·rw [decide_eq_true hc, cond_true, GY h1 (by omega), Option.bind_some, K1 (by simp; omega), Option.bind_some, Option.bind_some]
     refine .inl ⟨_, rfl, ⟨out ++ [(s.drop fr).take (i - fr)], i + 1, rfl, by omega, by simp; omega, ?_, by simp⟩, h⟩
     rw [h3]
     conv => lhs; rw [hdi, hc, Ko h4]
     simp
    ·rw [decide_eq_false hc, cond_false, Option.bind_some]
     refine .inl ⟨_, rfl, ⟨out, fr, rfl, by omega, by omega, h3, ?_⟩, h⟩
     rw [show i + 1 - fr = (i - fr) + 1 by omega, List.take_add_one, List.getElem?_drop, show fr + (i - fr) = i by omega, hget]
     intro hm
     rcases List.mem_append.1 hm with hm | hm
     ·exact h4 hm
     ·simp at hm; exact hc hm.symm
   ·have : i = s.length := by omega
    subst this
    rw [decide_eq_false (by omega), cond_false]
    refine .inr ⟨_, rfl, (fun _ e => by cases e), out, fr, rfl, h1, h2, ?_⟩
    rw [h3, Iq]
    rw [List.take_of_length_le (by simp)] at h4
    exact h4) s.length N 0 ([], 0, 0) (by omega) ⟨[], 0, rfl, Nat.le_refl _, Nat.le_refl _, by simp, by simp⟩ hN
 obtain ⟨o, ho, out, fr, rfl, h1, h2, h3⟩ := key
 unfold Fu
 rw [ho]
 simp only [Option.bind_some, A4.k]
 rw [GY h1 (Nat.le_refl _), Option.bind_some, K1 (by simp; omega), h3, List.take_of_length_le (by simp)]
 rfl
theorem Jc {α ρ τ : Type} {body : Int -> Option (A4 ρ Int)} {l : List α} (ok : α -> Bool) (bad : ρ) (hb : ∀ i (h : i < l.length), body (i : Int) = some (bif ok l[i] then .next ((i + 1 : Nat) : Int) else .ret bad))
  (he : body (l.length : Int) = some (.done (l.length : Int))) {N : Nat} (hN : l.length < N) (fd : Int -> Option τ) (fr : ρ -> Option τ) : ((AJ body N 0).bind fun o => o.k fr fd) = bif l.all ok then fd l.length else fr bad := by
 obtain ⟨o, ho, hR⟩ := EW (body := body) l.length (fun i s => s = (i : Int) /\ (l.take i).all ok = true) (fun o => (l.all ok = true /\ o = .done (l.length : Int)) \/ (l.all ok = false /\ o = .ret bad)) (by
  rintro i s hi ⟨rfl, hk⟩
  by_cases h : i < l.length
  ·rw [hb i h]
   cases e : ok l[i] with
   | true => exact .inl ⟨_, rfl, ⟨rfl, by rw [List.take_add_one, List.getElem?_eq_getElem h, List.all_append, hk]; simp [e]⟩, h⟩
   | false => exact .inr ⟨_, rfl, (fun _ h => by cases h), .inr ⟨by rw [List.all_eq_false]; exact ⟨l[i], List.getElem_mem h, by rw [e]; simp⟩, rfl⟩⟩
  ·have : i = l.length := by omega
   subst this
   rw [he]
   exact .inr ⟨_, rfl, (fun _ h => by cases h), .inl ⟨by simpa using hk, rfl⟩⟩) l.length N 0 0 (by omega) ⟨rfl, rfl⟩ hN
 rw [ho]
 rcases hR with ⟨h1, rfl⟩ | ⟨h1, rfl⟩ <;> rw [h1] <;> rfl
section
variable {N : Nat} {s : Wn}
theorem DC {i n : Nat} (h : i < n) : decide ((i : Int) < (n : Int)) = true := decide_eq_true (by omega)
theorem Cs {n : Nat} : decide ((n : Int) < (n : Int)) = false := decide_eq_false (by omega)
theorem Pp (hs : s.length < 4611686018427387904) (hN : s.length < N) : D6 N s = some (s.all isE) := by
 have hb : ∀ i (h : i < s.length), Cu N s (i : Int) = some (bif isE s[i] then .next ((i + 1 : Nat) : Int) else .ret false) := fun i h => by
  unfold Cu
  rw [DC h, cond_true, GZ h, Option.bind_some, OU, Option.bind_some, FJ i (by omega), Option.bind_some, Ni]
  unfold isE
  cases isL s[i] <;> cases isD s[i] <;> rfl
 have he : Cu N s (s.length : Int) = some (.done (s.length : Int)) := by
  unfold Cu
  rw [Cs, cond_false]
 unfold D6
 rw [Jc (l := s) isE false hb he hN]
 cases s.all isE <;> rfl
theorem RI : ∀ s : Wn, s.all (fun b => !isL b) = !s.any isL
 | [] => rfl
 | b :: s => by rw [List.all_cons, List.any_cons, RI s]; cases isL b <;> rfl
theorem Nl (hs : s.length < 4611686018427387904) (hN : s.length < N) : Dc N s = some (s.any isL) := by
 have hb : ∀ i (h : i < s.length), BU N s (i : Int) = some (bif (!isL s[i]) then .next ((i + 1 : Nat) : Int) else .ret true) := fun i h => by
  unfold BU
  rw [DC h, cond_true, GZ h, Option.bind_some, OU, Option.bind_some, FJ i (by omega)]
  cases isL s[i] <;> rfl
 have he : BU N s (s.length : Int) = some (.done (s.length : Int)) := by
  unfold BU
  rw [Cs, cond_false]
 unfold Dc
 rw [Jc (l := s) (fun b => !isL b) true hb he hN]
 rw [RI]
 cases s.any isL <;> rfl
theorem UA (hs : s.length < 4611686018427387904) (hN : s.length < N) : G3 N s = some (Bo s : Int) := by
 obtain ⟨o, ho, rfl⟩ := EW (body := Fv N s) s.length (fun i st => st = ((Bo (s.take i) : Int), (i : Int))) (fun o => o = .done ((Bo s : Int), (s.length : Int))) (by
  rintro i st hi rfl
  unfold Fv
  simp only
  by_cases h : i < s.length
  ·rw [DC h, cond_true, GZ h, Option.bind_some, Ni, Option.bind_some, FJ i (by omega)]
   refine .inl ⟨_, rfl, ?_, h⟩
   rw [List.take_add_one, List.getElem?_eq_getElem h]
   show _ = (((Bo (s.take i ++ [s[i]]) : Nat) : Int), _)
   rw [OZ, List.length_take, Nat.min_eq_left (by omega)]
   cases isD s[i] <;> rfl
  ·have : i = s.length := by omega
   subst this
   rw [Cs, cond_false, List.take_length]
   exact .inr ⟨_, rfl, (fun _ e => by cases e), rfl⟩) s.length N 0 (0, 0) (by omega) rfl hN
 unfold G3
 rw [ho]
 rfl
def wiB (n lo hi : Nat) : Bool := decide (lo <= n) && decide (n <= hi)
def EG (s : Wn) : Bool := s.all isE && wiB s.length 1 4 && s.any isL
def BB (s : Wn) : Bool := s.all isE && wiB (Bo s) 1 4 && (s.take (Bo s)).any isL && wiB (s.length - Bo s) 1 4
def C3 (s : Wn) : Bool := (s.all isL && wiB s.length 1 4) || (s.all isD && wiB s.length 1 1)
theorem Hm (n lo hi : Nat) : (decide (((lo : Nat) : Int) <= (n : Int)) && decide ((n : Int) <= ((hi : Nat) : Int))) = wiB n lo hi := by
 unfold wiB
 congr 1 <;> (rw [decide_eq_decide]; omega)
theorem w14 (n : Nat) : (decide ((1 : Int) <= (n : Int)) && decide ((n : Int) <= (4 : Int))) = wiB n 1 4 := Hm n 1 4
theorem w11 (n : Nat) : (decide ((1 : Int) <= (n : Int)) && decide ((n : Int) <= (1 : Int))) = wiB n 1 1 := Hm n 1 1
theorem QR (hs : s.length < 4611686018427387904) (hN : s.length < N) : Fi N s = some (EG s) := by
 unfold Fi EG
 rw [G4 (Vo N) s 4 hN, Option.bind_some, w14]
 cases h : (s.all isE && wiB s.length 1 4) with
 | false => rfl
 | true =>
  rw [Bool.and_eq_true] at h
  obtain ⟨r, h1, h2⟩ := Se (N := N) (SJ N) s (fun b hb => Ps (List.all_eq_true.1 h.1 b hb))
  rw [cond_true, h1, Option.bind_some, h2]
  rfl
theorem Rq (hs : s.length < 4611686018427387904) (hN : s.length < N) : FN N s = some (EG s) := by
 unfold FN EG
 rw [Pp hs hN, Option.bind_some, Nl hs hN, FF, w14]
 cases s.all isE <;> cases wiB s.length 1 4 <;> rfl
theorem P4 (hs : s.length < 4611686018427387904) (hN : s.length < N) : D4 N s = some (C3 s) := by
 unfold D4 C3
 rw [G4 (SJ N) s 4 hN, G4 (Rl N) s 1 hN, w14, w11]
 cases s.all isL && wiB s.length 1 4 <;> rfl
theorem Si : ∀ {s : Wn}, Bo s = 0 ↔ s.any isD = false := by
 intro s
 constructor
 ·intro h
  have := O0 s
  rw [h, List.drop_zero] at this
  rw [List.any_eq_false]
  intro b hb
  rw [this b hb]; simp
 ·intro h
  rcases Nat.eq_zero_or_pos (Bo s) with h0 | h0
  ·exact h0
  ·obtain ⟨b, h1, h2⟩ := Up s h0
   rw [List.any_eq_false] at h
   exact absurd h2 (h b (List.mem_of_getElem? h1))
theorem N3 (s : Wn) : s.all isL = (s.all isE && !s.any isD) := by
 induction s with
 | nil => rfl
 | cons b s ih =>
  simp only [List.all_cons, List.any_cons, ih, isE]
  cases hL : isL b with
  | true => rw [VP hL]; simp
  | false => cases isD b <;> cases s.all isE <;> cases s.any isD <;> rfl
theorem OT (hs : s.length < 4611686018427387904) (hN : s.length < N) : Ek N s = some (C3 s) := by
 unfold Ek C3
 rw [Pp hs hN, FF, w14, UA hs hN, N3]
 have hz : ((Bo s : Int) == 0) = !s.any isD := by
  rw [Bool.eq_iff_iff]
  simp only [beq_iff_eq, Bool.not_eq_true', <- Si]
  omega
 match s with
 | [] => rfl
 | [b] =>
  have e1 : (([b] : Wn).length : Int) == 1 := rfl
  rw [e1, cond_true, show Kj [b] 0 = some (b.toNat : Int) from rfl, Option.bind_some, Ni, Option.bind_some, Option.bind_some]
  simp only [Option.bind_some, hz]
  simp only [List.all_cons, List.all_nil, List.any_cons, List.any_nil, isE, Bool.and_true, Bool.or_false]
  cases isL b <;> cases isD b <;> rfl
 | b :: c :: t =>
  have e1 : (((b :: c :: t).length : Int) == 1) = false := by rw [beq_eq_false_iff_ne]; simp; omega
  simp only [e1, cond_false, Option.bind_some, hz]
  have e2 : wiB (b :: c :: t).length 1 1 = false := by unfold wiB; simp
  rw [e2, Bool.and_false, Bool.or_false]
  cases (b :: c :: t).all isE <;> cases wiB (b :: c :: t).length 1 4 <;> cases (b :: c :: t).any isD <;> rfl
theorem MN (hs : s.length < 4611686018427387904) (hN : s.length < N) : DX N s = some (BB s) := by
 have hk := Pz s
 unfold DX BB
 rw [UA hs hN, Option.bind_some, Pp hs hN, Option.bind_some, FF, w14]
 have e1 : H8 s 0 (Bo s : Int) = some (s.take (Bo s)) := by
  have := GY (a := s) (lo := 0) (hi := Bo s) (Nat.zero_le _) hk
  simpa using this
 have e2 : W64 ((s.length : Int) - (Bo s : Int)) = ((s.length - Bo s : Nat) : Int) := by rw [EP (by omega) (by omega)]; omega
 rw [e1, e2, FF, w14]
 have e3 := Nl (N := N) (s := s.take (Bo s)) (by rw [List.length_take]; omega) (by rw [List.length_take]; omega)
 simp only [Option.bind_some, e3]
 cases s.all isE <;> cases wiB (Bo s) 1 4 <;> cases (s.take (Bo s)).any isL <;> rfl
theorem SY (p : Nat -> Bool) (tr : Bool) (s : Wn) : ∀ (f i : Nat), i <= s.length -> Go.Lib.lastIdxFuncFrom p tr ⟨s.toArray⟩ f i = -1 \/ (0 <= Go.Lib.lastIdxFuncFrom p tr ⟨s.toArray⟩ f i /\ Go.Lib.lastIdxFuncFrom p tr ⟨s.toArray⟩ f i < (i : Int))
 | 0, _, _ => .inl rfl
 | f + 1, i, hi => by
  unfold Go.Lib.lastIdxFuncFrom
  split
  ·rename_i h0
   have hw := Go.Lib.decodeLastL_width (s.take i) (by rw [List.length_take]; omega)
   simp only [List.toList_toArray] at *
   split
   ·exact .inr ⟨by omega, by omega⟩
   ·rcases SY p tr s f (i - (Go.Lib.decodeLastL (s.take i)).2) (by omega) with h | h
    ·exact .inl h
    ·exact .inr ⟨h.1, by omega⟩
  ·exact .inl rfl
theorem UO (hs : s.length < 4611686018427387904) (hN : s.length < N) : ∃ x y, K2 N s = some (x, y, BB s) /\ (BB s = true -> x = s.take (Bo s) /\ y = s.drop (Bo s)) := by
 have hr : ∃ k : Nat, BK N s (fun y0 => Bj N y0) = some ((k : Int) - 1) /\ k <= s.length /\ ((∀ b, b ∈ s -> b.toNat < 128) -> k = Bo s) := by
  have hsz : (⟨s.toArray⟩ : ByteArray).size = s.length := by simp [ByteArray.size]
  have e : BK N s (fun y0 => Bj N y0) = some (Go.Lib.lastIdxFunc (Fj fun y0 => Bj N y0) true ⟨s.toArray⟩) := by
   unfold BK B5
   rw [if_pos ⟨(Rl N).all, by omega⟩]
   rfl
  rw [e]
  unfold Go.Lib.lastIdxFunc
  rw [hsz]
  have hrange := SY (Fj fun y0 => Bj N y0) true s s.length s.length (Nat.le_refl _)
  refine ⟨(Go.Lib.lastIdxFuncFrom (Fj fun y0 => Bj N y0) true ⟨s.toArray⟩ s.length s.length + 1).toNat, ?_, ?_, fun ha => ?_⟩
  ·exact congrArg some (by rcases hrange with h | ⟨h, _⟩ <;> omega)
  ·rcases hrange with h | ⟨h1, h2⟩
   ·omega
   ·omega
  ·have := JC N s ha s.length s.length (Nat.le_refl _) (Nat.le_refl _)
   rw [List.take_length] at this
   omega
 obtain ⟨k, h1, h2, h3⟩ := hr
 have e1 : W64 ((k : Int) - 1 + 1) = (k : Int) := by rw [EP (by omega) (by omega)]; omega
 have e2 : H8 s 0 (k : Int) = some (s.take k) := by
  have := GY (a := s) (lo := 0) (hi := k) (Nat.zero_le _) h2
  simpa using this
 have e3 : H8 s (k : Int) (s.length : Int) = some (s.drop k) := by
  rw [GY h2 (Nat.le_refl _), List.take_of_length_le (by simp)]
 have e4 := QR (N := N) (s := s.take k) (by rw [List.length_take]; omega) (by rw [List.length_take]; omega)
 have e5 := G4 (SJ N) (s.drop k) 4 (N := N) (by rw [List.length_drop]; omega)
 refine ⟨s.take k, s.drop k, ?_, ?_⟩
 ·unfold K2
  rw [h1, Option.bind_some, e1, e2, Option.bind_some, e3, Option.bind_some, Option.bind_some, e4, Option.bind_some, e5, w14]
  have hbase : (decide ((k : Int) > 0) && (EG (s.take k) && ((s.drop k).all isL && wiB (s.drop k).length 1 4))) = BB s := by
   by_cases ha : s.all isE = true
   ·have hk : k = Bo s := h3 fun b hb => Ps (List.all_eq_true.1 ha b hb)
    subst hk
    have hle := Pz s
    have e6 : (s.take (Bo s)).all isE = true := List.all_eq_true.2 fun b hb => List.all_eq_true.1 ha b (List.mem_of_mem_take hb)
    have e7 : (s.drop (Bo s)).all isL = true := by
     rw [N3]
     rw [Bool.and_eq_true]
     refine ⟨List.all_eq_true.2 fun b hb => List.all_eq_true.1 ha b (List.mem_of_mem_drop hb), ?_⟩
     rw [Bool.not_eq_true', List.any_eq_false]
     intro b hb
     rw [O0 s b hb]; simp
    unfold EG BB
    rw [ha, e6, e7, List.length_take, Nat.min_eq_left hle, List.length_drop]
    have e8 : (decide ((Bo s : Int) > 0) && wiB (Bo s) 1 4) = wiB (Bo s) 1 4 := by
     unfold wiB
     cases hd : decide (1 <= Bo s) with
     | false => simp
     | true => rw [decide_eq_true (by have := of_decide_eq_true hd; omega)]; rfl
    rw [<- e8]
    cases decide ((Bo s : Int) > 0) <;> cases wiB (Bo s) 1 4 <;> cases (s.take (Bo s)).any isL <;> rfl
   ·have ha' : s.all isE = false := by simpa using ha
    unfold EG BB
    rw [ha']
    have e9 : (s.take k).all isE = false \/ (s.drop k).all isL = false := by
     rw [<- List.take_append_drop k s, List.all_append] at ha'
     cases h5 : (s.take k).all isE with
     | false => exact .inl rfl
     | true =>
      right
      rw [h5, Bool.true_and] at ha'
      rw [N3, ha']
      rfl
    rcases e9 with e9 | e9 <;> rw [e9] <;> simp
  rw [<- hbase]
  cases decide ((k : Int) > 0) <;> cases EG (s.take k) <;> rfl
 ·intro hb
  have ha : s.all isE = true := by
   unfold BB at hb
   simp only [Bool.and_eq_true] at hb
   exact hb.1.1.1
  rw [h3 fun b hb => Ps (List.all_eq_true.1 ha b hb)]
  exact ⟨rfl, rfl⟩
end
theorem QT {α ρ τ : Type} {body : Int -> Option (A4 ρ Int)} {l : List α} (f : α -> Option ρ) (hb : ∀ i (h : i < l.length), body (i : Int) = some ((f l[i]).elim (.next ((i + 1 : Nat) : Int)) .ret))
  (he : body (l.length : Int) = some (.done (l.length : Int))) {N : Nat} (hN : l.length < N) (fd : Int -> Option τ) (fr : ρ -> Option τ) : ((AJ body N 0).bind fun o => o.k fr fd) = (l.findSome? f).elim (fd l.length) fr := by
 obtain ⟨o, ho, hR⟩ := EW (body := body) l.length (fun i s => s = (i : Int) /\ l.findSome? f = (l.drop i).findSome? f) (fun o => (l.findSome? f = none /\ o = .done (l.length : Int)) \/ ∃ r, l.findSome? f = some r /\ o = .ret r) (by
  rintro i s hi ⟨rfl, hk⟩
  by_cases h : i < l.length
  ·rw [hb i h]
   rw [List.drop_eq_getElem_cons h, List.findSome?_cons] at hk
   cases e : f l[i] with
   | some r => rw [e] at hk; exact .inr ⟨_, rfl, (fun _ h => by cases h), .inr ⟨r, hk, rfl⟩⟩
   | none => rw [e] at hk; exact .inl ⟨_, rfl, ⟨rfl, hk⟩, h⟩
  ·have : i = l.length := by omega
   subst this
   rw [he]
   rw [List.drop_length] at hk
   exact .inr ⟨_, rfl, (fun _ h => by cases h), .inl ⟨hk, rfl⟩⟩) l.length N 0 0 (by omega) ⟨rfl, by rw [List.drop_zero]⟩ hN
 rw [ho]
 rcases hR with ⟨h1, rfl⟩ | ⟨r, h1, rfl⟩ <;> rw [h1] <;> rfl
theorem Pl (c : UInt8) : ∀ s p, p ∈ pcs c s -> p.length <= s.length
 | [], p, h => by simp [pcs] at h; subst h; simp
 | b :: s, p, h => by
  have ih := Pl c s
  unfold pcs at h
  by_cases hb : b = c
  ·rw [if_pos hb] at h
   rcases List.mem_cons.1 h with rfl | h
   ·simp
   ·exact Nat.le_succ_of_le (ih p h)
  ·rw [if_neg hb] at h
   cases hp : pcs c s with
   | nil => exact absurd hp (SM c s)
   | cons q r =>
    rw [hp] at h ih
    simp only at h
    rcases List.mem_cons.1 h with rfl | h
    ·exact Nat.succ_le_succ (ih q List.mem_cons_self)
    ·exact Nat.le_succ_of_le (ih p (List.mem_cons_of_mem _ h))
def zp : Bf := { Area := [], Prefix := [], Suffix := [], Stroke := [] }
abbrev Tri := Wn × Wn × Wn
def Ju (ws : List Wn) : Option Tri := match ws with
 | [w] => if BB w then some ([], w, []) else none
 | [a, b] => if EG a && BB b && decide (a.length < b.length) then some (a, b, []) else if BB a && C3 b then some ([], a, b) else none
 | [a, b, c] => if EG a && BB b && C3 c then some (a, b, c) else none
 | _ => none
def callB (s : Wn) : Option Tri := if s.length <= 16 then Ju (pcs 47 s) else none
def Ro (t : Tri) : Bf := { Area := t.1, Prefix := t.2.1.take (Bo t.2.1), Suffix := t.2.1.drop (Bo t.2.1), Stroke := t.2.2 }
def Qw (s : Wn) : Bf × Bool := match callB s with
 | some t => (Ro t, true)
 | none => (zp, false)
section
variable {N : Nat}
theorem Kr {w : Wn} (hs : w.length < 4611686018427387904) (hN : w.length < N) : ∃ x y, AH N w = some ({ Area := [], Prefix := x, Suffix := y, Stroke := [] }, BB w) /\ (BB w = true -> x = w.take (Bo w) /\ y = w.drop (Bo w)) := by
 obtain ⟨x, y, h1, h2⟩ := UO hs hN
 exact ⟨x, y, by unfold AH; rw [h1]; rfl, h2⟩
theorem U6 {w : Wn} {z0 : Wn -> Option (Bf × Bool)} {p : Bf} {ok : Bool} (h1 : z0 w = some (p, ok)) : Dn N [w] z0 = some (p, ok) := by
 unfold Dn
 have i0 : idx [w] 0 = some w := rfl
 simp only [i0, Option.bind_some, h1]
theorem U5 {a b : Wn} {z0 : Wn -> Option (Bf × Bool)} {x y u v : Wn} {A ok : Bool} (h1 : z0 b = some ({ Area := u, Prefix := x, Suffix := y, Stroke := v }, ok)) (h3 : Fi N a = some A) : Dm N [a, b] z0 = some ({ Area := a, Prefix := x, Suffix := y, Stroke := v }, ok && A && decide (a.length < b.length)) := by
 unfold Dm
 have e : decide ((a.length : Int) < (b.length : Int)) = decide (a.length < b.length) := by rw [decide_eq_decide]; omega
 have i0 : idx [a, b] 0 = some a := rfl
 have i1 : idx [a, b] 1 = some b := rfl
 rw [i0, i1]
 simp only [Option.bind_some, h1, h3]
 clear h1 h3
 rw [e]
 generalize decide (a.length < b.length) = D
 cases ok <;> cases A <;> rfl
theorem U4 {a b : Wn} {z0 : Wn -> Option (Bf × Bool)} {x y u v : Wn} {A ok : Bool} (h1 : z0 a = some ({ Area := u, Prefix := x, Suffix := y, Stroke := v }, ok)) (h3 : D4 N b = some A) : Dj N [a, b] z0 = some ({ Area := u, Prefix := x, Suffix := y, Stroke := b }, ok && A) := by
 unfold Dj
 have i0 : idx [a, b] 0 = some a := rfl
 have i1 : idx [a, b] 1 = some b := rfl
 rw [i0, i1]
 simp only [Option.bind_some, h1, h3]
 clear h1 h3
 cases ok <;> cases A <;> rfl
theorem U3 {a b c : Wn} {z0 : Wn -> Option (Bf × Bool)} {x y u v : Wn} {A B ok : Bool} (h1 : z0 b = some ({ Area := u, Prefix := x, Suffix := y, Stroke := v }, ok)) (h3 : Fi N a = some A) (h4 : D4 N c = some B) : Dh N [a, b, c] z0 = some ({ Area := a, Prefix := x, Suffix := y, Stroke := c }, ok && A && B) := by
 unfold Dh
 have i0 : idx [a, b, c] 0 = some a := rfl
 have i1 : idx [a, b, c] 1 = some b := rfl
 have i2 : idx [a, b, c] 2 = some c := rfl
 rw [i0, i1, i2]
 simp only [Option.bind_some, h1, h3, h4]
 clear h1 h3 h4
 cases ok <;> cases A <;> cases B <;> rfl
theorem Ug {w : Wn} (hs : w.length <= 16) (hN : 16 < N) : ∃ x y, Dn N [w] (fun y0 => AH N y0) = some ({ Area := [], Prefix := x, Suffix := y, Stroke := [] }, BB w) /\ (BB w = true -> x = w.take (Bo w) /\ y = w.drop (Bo w)) := by
 obtain ⟨x, y, h1, h2⟩ := Kr (w := w) (N := N) (by omega) (by omega)
 exact ⟨x, y, U6 (z0 := fun y0 => AH N y0) h1, h2⟩
theorem Uf {a b : Wn} (ha : a.length <= 16) (hb : b.length <= 16) (hN : 16 < N) : ∃ x y, Dm N [a, b] (fun y0 => AH N y0) = some ({ Area := a, Prefix := x, Suffix := y, Stroke := [] }, BB b && EG a && decide (a.length < b.length)) /\ (BB b = true -> x = b.take (Bo b) /\ y = b.drop (Bo b)) := by
 obtain ⟨x, y, h1, h2⟩ := Kr (w := b) (N := N) (by omega) (by omega)
 exact ⟨x, y, U5 (z0 := fun y0 => AH N y0) h1 (QR (N := N) (s := a) (by omega) (by omega)), h2⟩
theorem Ue {a b : Wn} (ha : a.length <= 16) (hb : b.length <= 16) (hN : 16 < N) : ∃ x y, Dj N [a, b] (fun y0 => AH N y0) = some ({ Area := [], Prefix := x, Suffix := y, Stroke := b }, BB a && C3 b) /\ (BB a = true -> x = a.take (Bo a) /\ y = a.drop (Bo a)) := by
 obtain ⟨x, y, h1, h2⟩ := Kr (w := a) (N := N) (by omega) (by omega)
 exact ⟨x, y, U4 (z0 := fun y0 => AH N y0) h1 (P4 (N := N) (s := b) (by omega) (by omega)), h2⟩
theorem Ud {a b c : Wn} (ha : a.length <= 16) (hb : b.length <= 16) (hc : c.length <= 16) (hN : 16 < N) : ∃ x y, Dh N [a, b, c] (fun y0 => AH N y0) = some ({ Area := a, Prefix := x, Suffix := y, Stroke := c }, BB b && EG a && C3 c) /\ (BB b = true -> x = b.take (Bo b) /\ y = b.drop (Bo b)) := by
 obtain ⟨x, y, h1, h2⟩ := Kr (w := b) (N := N) (by omega) (by omega)
 exact ⟨x, y, U3 (z0 := fun y0 => AH N y0) h1 (QR (N := N) (s := a) (by omega) (by omega)) (P4 (N := N) (s := c) (by omega) (by omega)), h2⟩
def Qu (ws : List Wn) (fm : BC) : Option (Bf × Bool) := if fm.words_ = (ws.length : Int) then match fm.split_ ws with
 | some (p, true) => some (p, true)
 | _ => none
 else none
theorem Qv {s : Wn} {ws : List Wn} (hle : ∀ w, w ∈ ws -> w.length <= 16) (hN : 4 < N) (f2 f3 f4 f5 : List Wn -> Option (Bf × Bool))
  (H2 : ∀ w : Wn, w.length <= 16 -> ∃ x y, f2 [w] = some ({ Area := [], Prefix := x, Suffix := y, Stroke := [] }, BB w) /\ (BB w = true -> x = w.take (Bo w) /\ y = w.drop (Bo w)))
  (H3 : ∀ a b : Wn, a.length <= 16 -> b.length <= 16 -> ∃ x y, f3 [a, b] = some ({ Area := a, Prefix := x, Suffix := y, Stroke := [] }, BB b && EG a && decide (a.length < b.length)) /\ (BB b = true -> x = b.take (Bo b) /\ y = b.drop (Bo b)))
  (H4 : ∀ a b : Wn, a.length <= 16 -> b.length <= 16 -> ∃ x y, f4 [a, b] = some ({ Area := [], Prefix := x, Suffix := y, Stroke := b }, BB a && C3 b) /\ (BB a = true -> x = a.take (Bo a) /\ y = a.drop (Bo a)))
  (H5 : ∀ a b c : Wn, a.length <= 16 -> b.length <= 16 -> c.length <= 16 -> ∃ x y, f5 [a, b, c] = some ({ Area := a, Prefix := x, Suffix := y, Stroke := c }, BB b && EG a && C3 c) /\ (BB b = true -> x = b.take (Bo b) /\ y = b.drop (Bo b))) :
  ((AJ (CP N s ws [({ words_ := 1, split_ := f2 } : BC), { words_ := 2, split_ := f3 }, { words_ := 2, split_ := f4 }, { words_ := 3, split_ := f5 }]) N 0).bind fun o => o.k (fun r => some r) (fun _ => some (zp, false))) = some (match Ju ws with | some t => (Ro t, true) | none => (zp, false)) := by
 generalize hF : ([_, _, _, _] : List BC) = F
 have htot : ∀ fm, fm ∈ F -> fm.words_ = (ws.length : Int) -> ∃ r, fm.split_ ws = some r := by
  subst hF
  intro fm hfm hw
  simp only [List.mem_cons, List.not_mem_nil, or_false] at hfm
  rcases hfm with rfl | rfl | rfl | rfl <;> simp only at hw ⊢
  ·match ws, hw with
   | [w], _ => obtain ⟨_, _, h, _⟩ := H2 w (hle w (by simp)); exact ⟨_, h⟩
  ·match ws, hw with
   | [a, b], _ => obtain ⟨_, _, h, _⟩ := H3 a b (hle a (by simp)) (hle b (by simp)); exact ⟨_, h⟩
  ·match ws, hw with
   | [a, b], _ => obtain ⟨_, _, h, _⟩ := H4 a b (hle a (by simp)) (hle b (by simp)); exact ⟨_, h⟩
  ·match ws, hw with
   | [a, b, c], _ => obtain ⟨_, _, h, _⟩ := H5 a b c (hle a (by simp)) (hle b (by simp)) (hle c (by simp)); exact ⟨_, h⟩
 have hlen : F.length = 4 := by subst hF; rfl
 have hb : ∀ i (h : i < F.length), CP N s ws F (i : Int) = some ((Qu ws F[i]).elim (.next ((i + 1 : Nat) : Int)) .ret) := by
  intro i h
  unfold CP
  have hi : idx F (i : Int) = some F[i] := by unfold idx; rw [if_pos (by omega)]; simp [h]
  rw [DC h, cond_true, hi, Option.bind_some, FJ i (by omega)]
  have htt := htot _ (List.getElem_mem h)
  generalize F[i] = fm at htt
  unfold Qu
  by_cases hw : fm.words_ = (ws.length : Int)
  ·obtain ⟨⟨p, ok⟩, hr⟩ := htt hw
   rw [if_pos hw, show (fm.words_ != (ws.length : Int)) = false by simp [hw], cond_false, hr]
   cases ok <;> rfl
  ·rw [if_neg hw, show (fm.words_ != (ws.length : Int)) = true by simp [hw], cond_true]
   rfl
 have he : CP N s ws F (F.length : Int) = some (.done (F.length : Int)) := by
  unfold CP
  rw [Cs, cond_false]
 rw [QT (l := F) (Qu ws) hb he (by omega)]
 subst hF
 match ws, hle with
 | [], _ => rfl
 | [w], hle =>
  obtain ⟨x, y, h1, h2⟩ := H2 w (hle w (by simp))
  unfold Ju
  have e : (([w] : List Wn).length : Int) = 1 := rfl
  simp only [List.findSome?_cons, List.findSome?_nil, Qu, e, h1]
  cases hB : BB w with
  | false => rfl
  | true => obtain ⟨rfl, rfl⟩ := h2 hB; rfl
 | [a, b], hle =>
  have ha := hle a (by simp)
  have hb := hle b (by simp)
  obtain ⟨x, y, h1, h2⟩ := H3 a b ha hb
  obtain ⟨x', y', h3, h4⟩ := H4 a b ha hb
  unfold Ju
  have e : (([a, b] : List Wn).length : Int) = 2 := rfl
  simp only [List.findSome?_cons, List.findSome?_nil, Qu, e, h1, h3]
  clear h1 h3 H2 H3 H4 H5 htot hlen hb he
  generalize decide (a.length < b.length) = D
  generalize EG a = A
  generalize C3 b = S
  cases hB : BB b with
  | false =>
   cases hA : BB a with
   | false => cases A <;> cases D <;> rfl
   | true =>
    obtain ⟨rfl, rfl⟩ := h4 hA
    cases A <;> cases D <;> cases S <;> rfl
  | true =>
   obtain ⟨rfl, rfl⟩ := h2 hB
   cases hA : BB a with
   | false => cases A <;> cases D <;> rfl
   | true =>
    obtain ⟨rfl, rfl⟩ := h4 hA
    cases A <;> cases D <;> cases S <;> rfl
 | [a, b, c], hle =>
  have ha := hle a (by simp)
  have hb := hle b (by simp)
  have hc := hle c (by simp)
  obtain ⟨x, y, h1, h2⟩ := H5 a b c ha hb hc
  unfold Ju
  have e : (([a, b, c] : List Wn).length : Int) = 3 := rfl
  simp only [List.findSome?_cons, List.findSome?_nil, Qu, e, h1]
  clear h1 H2 H3 H4 H5 htot hlen hb he
  generalize EG a = A
  generalize C3 c = S
  cases hB : BB b with
  | false => cases A <;> cases S <;> rfl
  | true =>
   obtain ⟨rfl, rfl⟩ := h2 hB
   cases A <;> cases S <;> rfl
 | a :: b :: c :: d :: t, _ =>
  unfold Ju
  have e : ∀ k : Int, k <= 3 -> ¬ k = ((a :: b :: c :: d :: t).length : Int) := by intro k hk; simp only [List.length_cons]; omega
  simp only [List.findSome?_cons, List.findSome?_nil, Qu, if_neg (e 1 (by decide)), if_neg (e 2 (by decide)), if_neg (e 3 (by decide))]
  rfl
theorem Ua (s : Wn) (hN : 4294967300 < N) : Jg N s = some (Qw s) := by
 unfold Jg Qw callB
 by_cases hl : s.length <= 16
 ·rw [decide_eq_false (by omega), cond_false, if_pos hl, Rw 47 (by omega), Option.bind_some]
  have hle := Pl 47 s
  generalize pcs 47 s = ws at hle
  unfold L0
  rw [Option.bind_some]
  exact Qv (fun w h => Nat.le_trans (hle w h) hl) (by omega) _ _ _ _ (fun w h => Ug h (by omega)) (fun a b h h' => Uf h h' (by omega)) (fun a b h h' => Ue h h' (by omega)) (fun a b c h h' h'' => Ud h h' h'' (by omega))
 ·rw [decide_eq_true (by omega), cond_true, if_neg hl]
  rfl
def UF (s : Wn) : Wn × Wn × Wn × Bool := match callB s with
 | some t => (t.1, t.2.1, t.2.2, true)
 | none => ([], [], [], false)
theorem SV (s : Wn) (hN : 4294967300 < N) : Gr N s = some (UF s) := by
 unfold Gr UF callB
 by_cases hl : s.length <= 16
 ·rw [decide_eq_false (by omega), cond_false, if_pos hl, R6 s (by omega) (by omega), Option.bind_some]
  have hle := Pl 47 s
  generalize pcs 47 s = ws at hle
  match ws, hle with
  | [], _ => rfl
  | [w], hle =>
   have hw := hle w (by simp)
   have h1 := MN (N := N) (s := w) (by omega) (by omega)
   simp only [show ((([w] : List Wn).length : Int) == 1) = true from rfl, show ((([w] : List Wn).length : Int) == 2) = false from rfl, show ((([w] : List Wn).length : Int) == 3) = false from rfl, cond_true, cond_false, show idx [w] 0 = some w from rfl, Option.bind_some, h1, Ju]
   cases BB w <;> rfl
  | [a, b], hle =>
   have ha := hle a (by simp)
   have hb := hle b (by simp)
   have h1 := MN (N := N) (s := a) (by omega) (by omega)
   have h2 := MN (N := N) (s := b) (by omega) (by omega)
   have h3 := Rq (N := N) (s := a) (by omega) (by omega)
   have h4 := OT (N := N) (s := b) (by omega) (by omega)
   have e : decide ((a.length : Int) < (b.length : Int)) = decide (a.length < b.length) := by rw [decide_eq_decide]; omega
   simp only [show ((([a, b] : List Wn).length : Int) == 1) = false from rfl, show ((([a, b] : List Wn).length : Int) == 2) = true from rfl, show ((([a, b] : List Wn).length : Int) == 3) = false from rfl, cond_true, cond_false, show idx [a, b] 0 = some a from rfl, show idx [a, b] 1 = some b from rfl, Option.bind_some, h1, h2, h3, h4, e, Ju]
   cases EG a <;> cases BB b <;> cases decide (a.length < b.length) <;> cases BB a <;> cases C3 b <;> rfl
  | [a, b, c], hle =>
   have ha := hle a (by simp)
   have hb := hle b (by simp)
   have hc := hle c (by simp)
   have h2 := MN (N := N) (s := b) (by omega) (by omega)
   have h3 := Rq (N := N) (s := a) (by omega) (by omega)
   have h4 := OT (N := N) (s := c) (by omega) (by omega)
   simp only [show ((([a, b, c] : List Wn).length : Int) == 1) = false from rfl, show ((([a, b, c] : List Wn).length : Int) == 2) = false from rfl, show ((([a, b, c] : List Wn).length : Int) == 3) = true from rfl, cond_true, cond_false, show idx [a, b, c] 0 = some a from rfl, show idx [a, b, c] 1 = some b from rfl, show idx [a, b, c] 2 = some c from rfl, Option.bind_some, h2, h3, h4, Ju]
   cases EG a <;> cases BB b <;> cases C3 c <;> rfl
  | a :: b :: c :: d :: t, _ =>
   have e : ∀ k : Int, k <= 3 -> (((a :: b :: c :: d :: t).length : Int) == k) = false := by intro k hk; rw [beq_eq_false_iff_ne]; simp; omega
   simp only [e 1 (by decide), e 2 (by decide), e 3 (by decide), cond_false, Option.bind_some, Ju]
 ·rw [decide_eq_true (by omega), cond_true, if_neg hl]
end
section
open Go.Lib (decDigits)
def R3 (a : Nat) (l : Wn) : Nat := l.foldl (fun a b => 10 * a + (b.toNat - 48)) a
def Mr (l : Wn) : Nat := R3 0 l
theorem OS (a : Nat) (b : UInt8) (l : Wn) : R3 a (b :: l) = R3 (10 * a + (b.toNat - 48)) l := by unfold R3; rw [List.foldl_cons]
theorem Uk {b : UInt8} (h : isD b = true) : 48 <= b.toNat /\ b.toNat <= 57 := by
 unfold isD at h
 simpa only [Bool.and_eq_true, decide_eq_true_eq] using h
theorem T6 (l : Wn) : ∀ (a k : Nat), l.all isD = true -> a < 10 ^ k -> R3 a l < 10 ^ (k + l.length) := by
 induction l with
 | nil => intro a k _ h; exact h
 | cons b l ih =>
  intro a k hd h
  rw [OS]
  simp only [List.all_cons, Bool.and_eq_true] at hd
  have hb := Uk hd.1
  have hp : 10 ^ (k + 1) = 10 ^ k * 10 := Nat.pow_succ ..
  have := ih (10 * a + (b.toNat - 48)) (k + 1) hd.2 (by omega)
  rw [List.length_cons, show k + (l.length + 1) = k + 1 + l.length by omega]
  exact this
theorem T4 {l : Wn} (h : l.all isD = true) : Mr l < 10 ^ l.length := by
 have := T6 l 0 0 h (by decide)
 simpa [Mr] using this
theorem dig {b : UInt8} (h : isD b = true) : Go.Lib.digitVal b = some (b.toNat - 48) := by
 unfold isD at h
 simp only [Bool.and_eq_true, decide_eq_true_eq] at h
 unfold Go.Lib.digitVal
 rw [if_pos h]
theorem Kz : ∀ (l : Wn) (a : Nat), l.all isD = true -> Go.Lib.decFrom a l = some (R3 a l)
 | [], a, _ => rfl
 | b :: l, a, h => by
  simp only [List.all_cons, Bool.and_eq_true] at h
  unfold Go.Lib.decFrom
  rw [dig h.1, OS, Nat.mul_comm 10 a]
  exact Kz l _ h.2
theorem Tn {l : Wn} (h : l.all isD = true) (hn : 1 <= l.length) : Go.Lib.atoi l = some (Mr l : Int) := by
 match l, h, hn with
 | b :: r, h, _ =>
  have hb := h
  simp only [List.all_cons, Bool.and_eq_true] at hb
  have h1 : (b == 45) = false := by rw [beq_eq_false_iff_ne]; rintro rfl; exact absurd hb.1 (by decide)
  have h2 : (b == 43) = false := by rw [beq_eq_false_iff_ne]; rintro rfl; exact absurd hb.1 (by decide)
  unfold Go.Lib.atoi
  simp only [h1, h2, Bool.false_eq_true, if_false]
  unfold Go.Lib.decNat
  simp only [List.isEmpty_cons, Bool.false_eq_true, if_false]
  rw [Kz _ _ h]
  rfl
def Le (s : Wn) : Bool := s.all isD && wiB s.length 1 9
def T5 (s : Wn) : Int := if Le s = true then (Mr s : Int) else -1
theorem T2 {k : Nat} (h : k <= 9) : 10 ^ k <= 1000000000 := Nat.le_trans (Nat.pow_le_pow_right (by decide) h) (by decide)
theorem MM {s : Wn} (h : Le s = true) : Mr s < 1000000000 /\ 1 <= s.length /\ s.length <= 9 /\ s.all isD = true := by
 unfold Le wiB at h
 simp only [Bool.and_eq_true, decide_eq_true_eq] at h
 exact ⟨Nat.lt_of_lt_of_le (T4 h.1) (T2 h.2.2), h.2.1, h.2.2, h.1⟩
section
variable {N : Nat} {s : Wn}
theorem Nk (hN : s.length < N) : B4 N s = some (T5 s) := by
 unfold B4 T5
 rw [G4 (Rl N) s 9 hN, Option.bind_some, show (decide ((1 : Int) <= (s.length : Int)) && decide ((s.length : Int) <= (9 : Int))) = wiB s.length 1 9 from Hm _ 1 9]
 have e : (s.all isD && wiB s.length 1 9) = Le s := rfl
 rw [e]
 cases h : Le s with
 | false => rfl
 | true =>
  have hl := MM h
  rw [Bool.not_true, cond_false, if_pos rfl]
  unfold Ed
  rw [if_pos (by omega), Go.Lib.atoiAll_short s (by omega), Tn hl.2.2.2 hl.2.1]
  rfl
end
def IG (d : Nat) : UInt8 := UInt8.ofNat (48 + d)
theorem Qh {d : Nat} (h : d < 10) : (IG d).toNat = 48 + d := by unfold IG; rw [UInt8.toNat_ofNat']; omega
theorem RC {d : Nat} (h : d < 10) : isD (IG d) = true := by unfold isD; rw [Qh h]; simp; omega
theorem G9 {u : Nat} (h : u < 10) : decDigits u = [IG u] := by rw [decDigits, dif_pos h]; rfl
theorem Px {u : Nat} (h : ¬ u < 10) : decDigits u = decDigits (u / 10) ++ [IG (u % 10)] := by
 conv => lhs; rw [decDigits, dif_neg h]
 rfl
theorem Te (u : Nat) : 1 <= (decDigits u).length := by
 by_cases h : u < 10
 ·rw [G9 h]; simp
 ·rw [Px h]; simp
theorem U9 (u : Nat) : (decDigits u).all isD = true := by
 induction u using Nat.strongRecOn with
 | _ u ih =>
  by_cases h : u < 10
  ·rw [G9 h]; simp [RC h]
  ·rw [Px h, List.all_append, ih (u / 10) (by omega)]
   simp [RC (Nat.mod_lt u (by decide : 0 < 10))]
theorem JX : ∀ (k u : Nat), u < 10 ^ (k + 1) -> (decDigits u).length <= k + 1
 | 0, u, h => by rw [G9 (by simpa using h)]; simp
 | k + 1, u, h => by
  by_cases hu : u < 10
  ·rw [G9 hu]; simp
  ·rw [Px hu, List.length_append]
   have := JX k (u / 10) (by rw [Nat.pow_succ] at h; omega)
   simp; omega
def dP (k u : Nat) : Wn := List.replicate (k - (decDigits u).length) 48 ++ decDigits u
theorem Va (u : Nat) : dP 1 u = decDigits u := by unfold dP; rw [show 1 - (decDigits u).length = 0 by have := Te u; omega]; rfl
theorem Q2 (k u : Nat) : (dP k u).all isD = true := by
 unfold dP
 rw [List.all_append, U9, Bool.and_true, List.all_eq_true]
 intro b hb
 rw [List.eq_of_mem_replicate hb]; decide
theorem Py (k u : Nat) : k <= (dP k u).length /\ 1 <= (dP k u).length := by
 unfold dP
 have := Te u
 rw [List.length_append, List.length_replicate]
 omega
theorem KA {k j u : Nat} (h : u < 10 ^ (j + 1)) : (dP k u).length <= max k (j + 1) := by
 unfold dP
 have := JX j u h
 rw [List.length_append, List.length_replicate]
 omega
theorem Ri : ∀ n, Go.Lib.repeatL [48] n = List.replicate n 48
 | 0 => rfl
 | n + 1 => by unfold Go.Lib.repeatL; rw [Ri n]; rfl
section
variable {N : Nat}
theorem QS (u : Nat) (h : u <= 1000000000) : strconv_Itoa N (u : Int) = some (decDigits u) := by
 unfold strconv_Itoa
 rw [if_pos (by omega), Go.Lib.itoa_nonneg]
theorem Nj (u k : Nat) (h : u <= 1000000000) (hk : k <= 100) : BO N (u : Int) (k : Int) = some (dP k u) := by
 unfold BO
 rw [QS u h, Option.bind_some]
 have hl : (decDigits u).length <= 10 := JX 9 u (by omega)
 rw [EP (by omega) (by omega)]
 have e : max (0 : Int) ((k : Int) - ((decDigits u).length : Int)) = ((k - (decDigits u).length : Nat) : Int) := by omega
 rw [e]
 unfold strings_Repeat
 rw [if_pos (by simp; omega), Option.bind_some, Int.toNat_natCast, Ri]
 rw [AG (by simp; omega)]
 rfl
def Mp (k u : Nat) : Wn := if h : u = 0 then List.replicate k 48 else Mp (k - 1) (u / 10) ++ [IG (u % 10)]
termination_by u
decreasing_by omega
theorem TR (k u : Nat) (h : 1 <= k \/ 1 <= u) : Mp k u = dP k u := by
 induction u using Nat.strongRecOn generalizing k with
 | _ u ih =>
  by_cases h0 : u = 0
  ·subst h0
   rw [Mp, dif_pos rfl]
   unfold dP
   rw [G9 (by decide)]
   have e : k = (k - 1) + 1 := by omega
   conv => lhs; rw [e, List.replicate_succ']
   rfl
  ·rw [Mp, dif_neg h0]
   by_cases h1 : u < 10
   ·rw [show u / 10 = 0 by omega, show u % 10 = u by omega, Mp, dif_pos rfl]
    unfold dP
    rw [G9 h1]; rfl
   ·rw [ih (u / 10) (by omega) (k - 1) (by omega)]
    unfold dP
    rw [Px h1, List.length_append, <- List.append_assoc]
    congr 3
    simp; omega
theorem Qg (d : Nat) (h : d < 10) : H8 ([48, 49, 50, 51, 52, 53, 54, 55, 56, 57] : Wn) (d : Int) (((d + 1 : Nat)) : Int) = some [IG d] := by
 rw [GY (by omega) (by simp; omega)]
 have : ∀ d : Fin 10, (([48, 49, 50, 51, 52, 53, 54, 55, 56, 57] : Wn).drop d.val).take (d.val + 1 - d.val) = [IG d.val] := by decide
 rw [this ⟨d, h⟩]
theorem RV {k u : Nat} (h : 1 <= k \/ 1 <= u) : Mp k u = Mp (k - 1) (u / 10) ++ [IG (u % 10)] := by
 by_cases h0 : u = 0
 ·subst h0
  have e : k = (k - 1) + 1 := by omega
  rw [Mp, dif_pos rfl, Mp, dif_pos rfl]
  conv => lhs; rw [e, List.replicate_succ']
  rfl
 ·rw [Mp, dif_neg h0]
theorem Nm (x : Int) (k : Nat) (hk : k <= 100) : ∀ (m u : Nat) (acc : Wn), u <= 1000000000 -> acc.length + (k - acc.length) + u < 100000000000 -> u + (k - acc.length) < m ->
  AJ (BN N x (k : Int)) m ((u : Int), acc) = some (.done (0, Mp (k - acc.length) u ++ acc)) := by
 intro m
 induction m with
 | zero => intro u acc _ _ h; omega
 | succ m ih =>
  intro u acc hu hb hm
  unfold AJ
  by_cases h0 : u = 0 /\ k <= acc.length
  ·obtain ⟨rfl, h0⟩ := h0
   have e : BN N x (k : Int) (((0 : Nat) : Int), acc) = some (.done (0, acc)) := by
    unfold BN
    rw [show (decide ((((0 : Nat) : Int), acc).1 > 0) || decide (((((0 : Nat) : Int), acc).2.length : Int) < (k : Int))) = false by rw [decide_eq_false (by simp), decide_eq_false (by simp; omega)]; rfl, cond_false]
    rfl
   rw [e, Mp, dif_pos rfl, show k - acc.length = 0 by omega]; rfl
  ·have e : BN N x (k : Int) ((u : Int), acc) = some (.next (((u / 10 : Nat) : Int), IG (u % 10) :: acc)) := by
    unfold BN
    have hc : (decide (((u : Int), acc).1 > 0) || decide ((((u : Int), acc).2.length : Int) < (k : Int))) = true := by
     simp only [Bool.or_eq_true, decide_eq_true_eq]; omega
    rw [hc, cond_true]
    simp only
    have e1 : Int.tmod (u : Int) 10 = ((u % 10 : Nat) : Int) := by rw [Int.tmod_eq_emod_of_nonneg (by omega)]; omega
    have e2 : Int.tdiv (u : Int) 10 = ((u / 10 : Nat) : Int) := by rw [Int.tdiv_eq_ediv_of_nonneg (by omega)]; omega
    rw [e1, e2, FJ (u % 10) (by omega), Qg _ (Nat.mod_lt u (by decide)), Option.bind_some, AG (by simp; omega), Option.bind_some, EP (by omega) (by omega)]
    rfl
   rw [e]
   show AJ _ m _ = _
   rw [ih (u / 10) (IG (u % 10) :: acc) (by omega) (by simp only [List.length_cons]; omega) (by simp only [List.length_cons]; omega)]
   rw [RV (k := k - acc.length) (u := u) (by omega), List.length_cons, List.append_assoc, show k - (acc.length + 1) = k - acc.length - 1 by omega]
   rfl
theorem I9 (u k : Nat) (h : u <= 1000000000) (hk : k <= 100) (h1 : 1 <= k) (hN : 4294967300 < N) : A0 N (u : Int) (k : Int) = some (dP k u) := by
 unfold A0
 rw [Nm (u : Int) k hk N u [] h (by simp; omega) (by simp; omega)]
 rw [List.length_nil, Nat.sub_zero, List.append_nil, TR k u (.inl h1)]
 rfl
end
end
section
open Go.Lib (decDigits)
def Kf (u : Nat) : Wn := decDigits (u / 1440 + 1) ++ 32 :: (dP 2 (u / 60 % 24) ++ dP 2 (u % 60))
def EJ (x : Int) : Wn × Int := if 0 <= x /\ x <= 20000 then (Kf x.toNat, 0) else ([], 1)
theorem PS (u k : Nat) (h : u < 4611686018427387904) : W64 (Int.tdiv (u : Int) (k : Int)) = ((u / k : Nat) : Int) := by
 have : Int.tdiv (u : Int) (k : Int) = ((u / k : Nat) : Int) := by rw [Int.tdiv_eq_ediv_of_nonneg (by omega)]; rfl
 have h2 : u / k <= u := Nat.div_le_self _ _
 rw [this]
 generalize u / k = v at h2
 rw [EP (by omega) (by omega)]
theorem PR (u k : Nat) : Int.tmod (u : Int) (k : Int) = ((u % k : Nat) : Int) := by
 rw [Int.tmod_eq_emod_of_nonneg (by omega)]; rfl
theorem Pw {u : Nat} (h : u < 100000) : (decDigits u).length <= 5 := JX 4 u (by omega)
theorem Je {u : Nat} (h : u < 100) : (dP 2 u).length = 2 := by
 have h1 := Py 2 u
 have h2 := KA (k := 2) (j := 1) (u := u) (by omega)
 omega
section
variable {N : Nat}
theorem L4 (x : Int) : Co N x = some (EJ x) := by
 unfold Co EJ
 rw [Nh, Option.bind_some]
 by_cases h : 0 <= x /\ x <= 20000
 ·rw [if_pos h, decide_eq_true h.1, decide_eq_true h.2]
  obtain ⟨u, rfl⟩ : ∃ u : Nat, x = u := ⟨x.toNat, by omega⟩
  have hu : u <= 20000 := by omega
  simp only [Bool.and_self, Bool.not_true, cond_false]
  have e1 := PS u 1440 (by omega)
  have e2 := PS u 60 (by omega)
  simp only [Int.cast_ofNat_Int] at e1 e2
  have e3 := PR (u / 60) 24
  have e4 := PR u 60
  simp only [Int.cast_ofNat_Int] at e3 e4
  rw [e1, e2, e3, e4, FJ (u / 1440) (by omega), QS _ (by omega), Option.bind_some]
  have hl1 := Pw (u := u / 1440 + 1) (by omega)
  have hl2 := Je (u := u / 60 % 24) (by omega)
  have hl3 := Je (u := u % 60) (by omega)
  have p1 := Nj (N := N) (u / 60 % 24) 2 (by omega) (by omega)
  have p2 := Nj (N := N) (u % 60) 2 (by omega) (by omega)
  simp only [Int.cast_ofNat_Int] at p1 p2
  rw [AG (by simp; omega), Option.bind_some, p1, Option.bind_some, AG (by simp; omega), Option.bind_some, p2, Option.bind_some, AG (by simp; omega), Option.bind_some]
  unfold Kf
  simp
 ·rw [if_neg h]
  have : (decide (0 <= x) && decide (x <= 20000)) = false := by
   rw [Bool.and_eq_false_iff, decide_eq_false_iff_not, decide_eq_false_iff_not]; omega
  rw [this]; rfl
theorem Pa (x : Int) (hN : 4294967300 < N) : CQ N x = some (EJ x) := by
 unfold CQ EJ
 rw [FF, Option.bind_some]
 by_cases h : 0 <= x /\ x <= 20000
 ·rw [if_pos h, decide_eq_true h.1, decide_eq_true h.2]
  obtain ⟨u, rfl⟩ : ∃ u : Nat, x = u := ⟨x.toNat, by omega⟩
  have hu : u <= 20000 := by omega
  simp only [Bool.and_self, Bool.not_true, cond_false]
  have e1 := PS u 1440 (by omega)
  have e0 := PR u 1440
  simp only [Int.cast_ofNat_Int] at e1 e0
  have e2 := PS (u % 1440) 60 (by omega)
  have e3 := PR (u % 1440) 60
  simp only [Int.cast_ofNat_Int] at e2 e3
  rw [e1, e0, e2, e3, FJ (u / 1440) (by omega)]
  have d1 := I9 (N := N) (u / 1440 + 1) 1 (by omega) (by omega) (by omega) hN
  have d2 := I9 (N := N) (u % 1440 / 60) 2 (by omega) (by omega) (by omega) hN
  have d3 := I9 (N := N) (u % 1440 % 60) 2 (by omega) (by omega) (by omega) hN
  simp only [Int.cast_ofNat_Int] at d1 d2 d3
  have q2 : u % 1440 / 60 = u / 60 % 24 := by omega
  have q3 : u % 1440 % 60 = u % 60 := by omega
  rw [q2] at d2 ⊢
  rw [q3] at d3 ⊢
  have hl1 := Pw (u := u / 1440 + 1) (by omega)
  have hl2 := Je (u := u / 60 % 24) (by omega)
  have hl3 := Je (u := u % 60) (by omega)
  have d1' : A0 N ((u / 1440 + 1 : Nat) : Int) 1 = some (decDigits (u / 1440 + 1)) := by rw [<- Va]; exact d1
  rw [d1', Option.bind_some, AG (by simp; omega), Option.bind_some, d2, Option.bind_some, AG (by simp; omega), Option.bind_some, d3, Option.bind_some, AG (by simp; omega), Option.bind_some]
  unfold Kf
  simp
 ·rw [if_neg h]
  have : (decide (0 <= x) && decide (x <= 20000)) = false := by
   rw [Bool.and_eq_false_iff, decide_eq_false_iff_not, decide_eq_false_iff_not]; omega
  rw [this]; rfl
def N5 (p q : Nat) : Nat := (p - 1) * 1440 + q / 100 * 60 + q % 100
theorem TC {p q : Nat} (h1 : 1 <= p) (hp : p < 1000000000) (hq : q < 1000000000) : W64 ((W64 ((W64 ((W64 ((p : Int) - 1)) * 1440)) + (W64 ((W64 (Int.tdiv (q : Int) 100)) * 60)))) + (Int.tmod (q : Int) 100)) = (N5 p q : Int) := by
 have e1 := PS q 100 (by omega)
 have e2 := PR q 100
 simp only [Int.cast_ofNat_Int] at e1 e2
 rw [e1, e2, EP (n := (p : Int) - 1) (by omega) (by omega), EP (n := ((p : Int) - 1) * 1440) (by omega) (by omega), EP (n := ((q / 100 : Nat) : Int) * 60) (by omega) (by omega)]
 rw [EP (n := ((p : Int) - 1) * 1440 + ((q / 100 : Nat) : Int) * 60) (by omega) (by omega), EP (by omega) (by omega)]
 unfold N5
 omega
def Nd (s a b : Wn) : Int × Int := if Le a && Le b && decide (1 <= Mr a) && decide (EJ (N5 (Mr a) (Mr b)) = (s, 0)) then ((N5 (Mr a) (Mr b) : Int), 0) else (0, 13)
def QP (s : Wn) : Int × Int := match pcs 32 s with
 | [a, b] => Nd s a b
 | _ => (0, 13)
theorem R4 {s : Wn} (h : (32 : UInt8) ∈ s) : Le s = false := by
 cases hh : Le s with
 | false => rfl
 | true =>
  have := List.all_eq_true.1 (MM hh).2.2.2 _ h
  revert this; decide
theorem SR : Le [] = false := rfl
theorem SO (s t : Wn) (e : Int) : ((e != 0) || (t != s)) = !decide ((t, e) = (s, 0)) := by
 by_cases h1 : e = 0
 ·by_cases h2 : t = s
  ·subst h1; subst h2; simp
  ·rw [decide_eq_false (fun h => h2 (by injection h))]; simp [h2]
 ·rw [decide_eq_false (fun h => h1 (by injection h))]; simp [h1]
theorem OQ (s a b : Wn) (ha : a.length < N) (hb : b.length < N) :
  ((B4 N a).bind fun r9 => ((B4 N b).bind fun r17 => (bif ((decide (r9 < 1)) || ((decide (r9 > 20000)) || (decide (r17 < 0)))) then some ((0 : Int), (13 : Int)) else ((Co N (W64 ((W64 ((W64 ((W64 (r9 - 1)) * 1440)) + (W64 ((W64 (Int.tdiv r17 100)) * 60)))) + (Int.tmod r17 100)))).bind fun r38 => (bif ((r38.2 != 0) || (r38.1 != s)) then some (0, 13) else some ((W64 ((W64 ((W64 ((W64 (r9 - 1)) * 1440)) + (W64 ((W64 (Int.tdiv r17 100)) * 60)))) + (Int.tmod r17 100))), 0)))))) = some (Nd s a b) := by
 rw [Nk ha, Nk hb, Option.bind_some, Option.bind_some]
 unfold T5 Nd
 cases hA : Le a with
 | false =>
  simp only [Bool.false_eq_true, if_false, Bool.false_and]
  rfl
 | true =>
  cases hB : Le b with
  | false =>
   simp only [Bool.false_eq_true, if_false, if_true, Bool.and_false, Bool.false_and]
   rw [show decide ((-1 : Int) < 0) = true from rfl, Bool.or_true, Bool.or_true]; rfl
  | true =>
   simp only [if_true, Bool.and_self, Bool.true_and]
   have hp := MM hA
   have hq := MM hB
   generalize Mr a = p at hp ⊢
   generalize Mr b = q at hq ⊢
   by_cases h1 : 1 <= p
   ·rw [decide_eq_false (show ¬ (p : Int) < 1 by omega), decide_eq_true h1, decide_eq_false (show ¬ (q : Int) < 0 by omega), Bool.false_or, Bool.or_false, Bool.true_and, TC h1 hp.1 hq.1]
    by_cases h2 : p <= 20000
    ·rw [decide_eq_false (show ¬ (p : Int) > 20000 by omega), cond_false, L4, Option.bind_some, SO]
     have : ((EJ (N5 p q : Int)).1, (EJ (N5 p q : Int)).2) = EJ (N5 p q : Int) := rfl
     rw [this]
     by_cases h3 : EJ (N5 p q : Int) = (s, 0)
     ·rw [decide_eq_true h3, if_pos rfl]; rfl
     ·rw [decide_eq_false h3]; rfl
    ·rw [decide_eq_true (show (p : Int) > 20000 by omega), cond_true]
     have h3 : ¬ EJ (N5 p q : Int) = (s, 0) := by
      unfold EJ N5
      rw [if_neg (by omega)]
      intro h; injection h with h1 h2; exact absurd h2 (by decide)
     rw [decide_eq_false h3]; rfl
   ·rw [decide_eq_true (show (p : Int) < 1 by omega), decide_eq_false h1]; rfl
theorem Nc {s a b : Wn} (h : Le b = false) : Nd s a b = (0, 13) := by unfold Nd; rw [h]; simp
theorem PU (s : Wn) (hs : s.length < 4294967281) (hN : 4294967300 < N) : Ge N s = some (QP s) := by
 unfold Ge
 have hc : strings_Cut N s [32] = some (Go.Lib.cut s [32]) := by unfold strings_Cut; rw [if_pos hs]
 rw [hc, Option.bind_some]
 unfold QP
 by_cases h : (32 : UInt8) ∈ s
 ·obtain ⟨a, t, rfl, ha⟩ := Ee h
  simp only [List.length_append, List.length_cons] at hs
  rw [Tf ha, Ko ha]
  simp only
  rw [OQ _ a t (by omega) (by omega)]
  by_cases ht : (32 : UInt8) ∈ t
  ·obtain ⟨a', t', rfl, ha'⟩ := Ee ht
   rw [Ko ha', Nc (R4 ht)]
   cases hp : pcs 32 t' with
   | nil => exact absurd hp (SM 32 t')
   | cons x l => rfl
  ·rw [Iq ht]
 ·rw [Tg h, Iq h]
  simp only
  rw [OQ _ s [] (by omega) (by simp; omega), Nc SR]
end
theorem VN {l : Wn} (h : l.all isD = true) : (32 : UInt8) ∉ l := fun hm => by
 have := List.all_eq_true.1 h _ hm
 revert this; decide
end
theorem P9 {ρ : Type} {body : Int -> Option (A4 ρ Int)} {n : Nat} (ok : Nat -> Bool) (bad : Nat -> ρ)
  (hb : ∀ i, i < n -> body (i : Int) = some (bif ok i then .next ((i + 1 : Nat) : Int) else .ret (bad i))) (he : body (n : Int) = some (.done (n : Int))) {N : Nat} (hN : n < N) :
  ((∀ i, i < n -> ok i = true) /\ AJ body N 0 = some (.done (n : Int))) \/ (∃ i, i < n /\ ok i = false /\ (∀ k, k < i -> ok k = true) /\ AJ body N 0 = some (.ret (bad i))) := by
 obtain ⟨o, ho, hR⟩ := EW (body := body) n (fun i s => s = (i : Int) /\ ∀ k, k < i -> ok k = true) (fun o => ((∀ i, i < n -> ok i = true) /\ o = .done (n : Int)) \/ (∃ i, i < n /\ ok i = false /\ (∀ k, k < i -> ok k = true) /\ o = .ret (bad i))) (by
  rintro i s hi ⟨rfl, hk⟩
  by_cases h : i < n
  ·rw [hb i h]
   cases e : ok i with
   | true =>
    refine .inl ⟨_, rfl, ⟨rfl, fun k hk' => ?_⟩, h⟩
    by_cases hki : k = i
    ·subst hki; exact e
    ·exact hk k (by omega)
   | false => exact .inr ⟨_, rfl, (fun _ h => by cases h), .inr ⟨i, h, e, hk, rfl⟩⟩
  ·have : i = n := by omega
   subst this
   rw [he]
   exact .inr ⟨_, rfl, (fun _ h => by cases h), .inl ⟨hk, rfl⟩⟩) n N 0 0 (by omega) ⟨rfl, fun k hk => by omega⟩ hN
 rcases hR with ⟨h1, rfl⟩ | ⟨i, h1, h2, h3, rfl⟩
 ·exact .inl ⟨h1, ho⟩
 ·exact .inr ⟨i, h1, h2, h3, ho⟩
theorem TB (i : Nat) (h : i < 4611686018427387904) (h0 : 0 < i) : W64 ((i : Int) - 1) = ((i - 1 : Nat) : Int) := by
 rw [EP (by omega) (by omega)]; omega
section
open Go.Lib (decDigits)
theorem Rp (s : Wn) : (s != []) = !decide (s = []) := by
 cases s <;> rfl
def jn (l : List Wn) : Wn := Go.Lib.join l [32]
theorem Pr : jn [] = [] := rfl
theorem Ep (x : Wn) : jn [x] = x := Go.Lib.join_one x [32]
theorem Ry {l : List Wn} (h : l ≠ []) (w : Wn) : jn (l ++ [w]) = jn l ++ 32 :: w := by
 match l, h with
 | x :: r, _ =>
  unfold jn
  rw [List.cons_append, Go.Lib.join_cons, Go.Lib.join_cons]
  unfold Go.Lib.joinTail
  simp
section
variable {N : Nat}
theorem Vq (a b : Wn) (hN : 4294967300 < N) : E1 N [a, b] = some (if a = [] then b else a) := by
 obtain ⟨M, rfl⟩ : ∃ M, N = M + 3 := ⟨N - 3, by omega⟩
 unfold E1
 by_cases ha : a = []
 ·rw [if_pos ha]
  by_cases hb : b = []
  ·subst ha; subst hb; rfl
  ·have e1 : Cz (M + 3) [a, b] 0 = some (.next 1) := by subst ha; rfl
   have e2 : Cz (M + 3) [a, b] 1 = some (.ret b) := by
    show (bif (b != ([] : Wn)) then some (.ret b) else some (.next (W64 (1 + 1)))) = some (A4.ret b)
    rw [Rp, decide_eq_false hb]; rfl
   rw [AJ, e1]
   simp only
   rw [AJ, e2]
   rfl
 ·rw [if_neg ha]
  have e1 : Cz (M + 3) [a, b] 0 = some (.ret a) := by
   show (bif (a != ([] : Wn)) then some (.ret a) else some (.next (W64 (0 + 1)))) = some (A4.ret a)
   rw [Rp, decide_eq_false ha]; rfl
  rw [AJ, e1]
  rfl
theorem T9 {l : List Wn} (h : l.length <= 1000) (hl : ∀ w, w ∈ l -> w.length <= 1000) (hN : 4294967300 < N) : Gq N l = some (jn l) := by
 unfold Gq
 have hb : ∀ i, i <= l.length -> (jn (l.take i)).length <= i * 1001 := by
  intro i
  induction i with
  | zero => intro _; simp [Pr]
  | succ i ih =>
   intro hi
   have := ih (by omega)
   have hw := hl l[i] (List.getElem_mem (by omega))
   have e : l.take (i + 1) = l.take i ++ [l[i]] := by rw [List.take_add_one, List.getElem?_eq_getElem (by omega)]; rfl
   rw [e]
   by_cases h0 : l.take i = []
   ·rw [h0, List.nil_append, Ep]; omega
   ·rw [Ry h0, List.length_append, List.length_cons]; omega
 obtain ⟨o, ho, rfl⟩ := EW (body := Db N l) l.length (fun i st => st = (jn (l.take i), (i : Int))) (fun o => o = .done (jn l, (l.length : Int))) (by
  rintro i st hi rfl
  by_cases h1 : i < l.length
  ·refine .inl ⟨_, ?_, rfl, h1⟩
   have hbi := hb i hi
   have hw := hl l[i] (List.getElem_mem h1)
   have e : l.take (i + 1) = l.take i ++ [l[i]] := by rw [List.take_add_one, List.getElem?_eq_getElem h1]; rfl
   unfold Db
   simp only [DC h1, cond_true, CM h1, Option.bind_some]
   rw [FJ i (by omega), e]
   by_cases h0 : i = 0
   ·subst h0
    rw [decide_eq_false (by decide), cond_false, Option.bind_some]
    simp only [List.take_zero, List.nil_append, Pr, Ep]
    rw [AG (by simp; omega), List.nil_append]; rfl
   ·rw [decide_eq_true (by omega), cond_true, Ry (by rw [Ne, <- List.length_eq_zero_iff, List.length_take]; omega)]
    rw [AG (by simp; omega), Option.bind_some, Option.bind_some, AG (by simp; omega)]
    simp
  ·have : i = l.length := by omega
   subst this
   refine .inr ⟨_, ?_, (fun _ h => by cases h), rfl⟩
   unfold Db
   simp only [Cs, cond_false, List.take_length]) l.length N 0 ([], 0) (by omega) rfl (by omega)
 rw [ho]; rfl
theorem Ms {l : List AP} {p : AP -> Option Bool} (F : AP -> Bool) (hp : ∀ x, x ∈ l -> p x = some (F x)) (hl : l.length < 4000000000) (hN : 4294967300 < N) : AX N l p = some (l.any F) := by
 unfold AX Bu
 rcases P9 (body := AO N l p) (n := l.length) (fun i => !((l[i]?.map F).getD false)) (fun i => (i : Int)) (by
   intro i hi
   unfold AO
   rw [DC hi, cond_true, CM hi, Option.bind_some, hp _ (List.getElem_mem hi), Option.bind_some, FJ i (by omega), List.getElem?_eq_getElem hi]
   simp only [Option.map_some, Option.getD_some]
   cases F l[i] <;> rfl) (by
   unfold AO
   rw [Cs, cond_false]) (N := N) (by omega) with ⟨g1, g2⟩ | ⟨i, hi, g1, _, g2⟩
 ·rw [g2]
  have : l.any F = false := by
   rw [List.any_eq_false]
   intro x hx
   obtain ⟨i, hi, rfl⟩ := List.getElem_of_mem hx
   have := g1 i hi
   rw [List.getElem?_eq_getElem hi] at this
   simpa using this
  rw [this]; rfl
 ·rw [g2]
  have : l.any F = true := by
   rw [List.any_eq_true]
   rw [List.getElem?_eq_getElem hi] at g1
   exact ⟨l[i], List.getElem_mem hi, by simpa using g1⟩
  rw [this]
  show some (decide ((i : Int) >= 0)) = some true
  rw [decide_eq_true (by omega)]
def Mz (h : Bool) (n m : Int) : Bool := bif h then (decide (1 <= n) && decide (n <= m)) else n == 0
def CJ (L : Ac) (E : Ad) : Bool := Mz L.Report E.Report 599 && (Mz L.Serial E.Serial 99999 && Mz L.Zone E.Zone 99)
theorem UN (P : AP) : B0 N P = some (!Mz P.has_ P.n_ P.most_) := by
 unfold B0 Mz
 rw [Nh, Option.bind_some]
 obtain ⟨h, n, m, d⟩ := P
 simp only
 cases h with
 | true => cases (decide (1 <= n) && decide (n <= m)) <;> rfl
 | false =>
  by_cases hn : n = 0
  ·subst hn
   rw [show (decide ((1 : Int) <= 0) && decide (0 <= m)) = false by rw [decide_eq_false (by omega)]; rfl]
   rfl
  ·have e1 : (n != 0) = true := by simpa using hn
   have e2 : (n == 0) = false := by simpa using hn
   rw [e1, e2]
   cases (decide (1 <= n) && decide (n <= m)) <;> rfl
theorem M3 (L : Ac) (E : Ad) (hN : 4294967300 < N) : BV N L E = some (CJ L E) := by
 unfold BV
 unfold CE
 rw [Option.bind_some, Ms (fun P => !Mz P.has_ P.n_ P.most_) (fun x _ => UN x) (by simp) hN, Option.bind_some]
 unfold CJ
 simp
theorem K4 (L : Ac) (E : Ad) : BF N L E = some (CJ L E) := by
 unfold BF CJ
 have h : ∀ (b : Bool) (n m : Int), FE N b n m = some (Mz b n m) := by
  intro b n m
  unfold FE Mz
  rw [FF]
  cases b <;> rfl
 rw [h, h, h]
 cases Mz L.Report E.Report 599 <;> cases Mz L.Serial E.Serial 99999 <;> cases Mz L.Zone E.Zone 99 <;> rfl
def fs (L : Ac) (E : Ad) : List Wn := (if L.Report = true then [dP 1 E.Report.toNat] else []) ++ ((if L.Serial = true then [dP 3 E.Serial.toNat] else []) ++ (if L.Zone = true then [dP 2 E.Zone.toNat] else []))
def HO (L : Ac) (E : Ad) : Wn := if fs L E = [] then [45] else jn (fs L E)
def Hu (L : Ac) (E : Ad) : Wn × Int := if CJ L E = true then (HO L E, 0) else ([], 1)
structure OkE (L : Ac) (E : Ad) : Prop where
 r : if L.Report = true then 1 <= E.Report /\ E.Report <= 599 else E.Report = 0
 s : if L.Serial = true then 1 <= E.Serial /\ E.Serial <= 99999 else E.Serial = 0
 z : if L.Zone = true then 1 <= E.Zone /\ E.Zone <= 99 else E.Zone = 0
theorem okE {L : Ac} {E : Ad} (h : CJ L E = true) : OkE L E := by
 unfold CJ Mz at h
 simp only [Bool.and_eq_true] at h
 obtain ⟨h1, h2, h3⟩ := h
 constructor
 ·cases hL : L.Report <;> rw [hL] at h1 <;> simpa using h1
 ·cases hL : L.Serial <;> rw [hL] at h2 <;> simpa using h2
 ·cases hL : L.Zone <;> rw [hL] at h3 <;> simpa using h3
theorem OkE.le {L : Ac} {E : Ad} (h : OkE L E) : (0 <= E.Report /\ E.Report <= 599) /\ (0 <= E.Serial /\ E.Serial <= 99999) /\ 0 <= E.Zone /\ E.Zone <= 99 := by
 obtain ⟨h1, h2, h3⟩ := h
 refine ⟨?_, ?_, ?_⟩
 ·split at h1 <;> omega
 ·split at h2 <;> omega
 ·split at h3 <;> omega
theorem MP {L : Ac} {E : Ad} (h : OkE L E) : ∀ w, w ∈ fs L E -> w.length <= 5 /\ w.all isD = true /\ 1 <= w.length := by
 obtain ⟨h1, h2, h3⟩ := h.le
 intro w hw
 unfold fs at hw
 simp only [List.mem_append] at hw
 have l1 := KA (k := 1) (j := 2) (u := E.Report.toNat) (by omega)
 have l2 := KA (k := 3) (j := 4) (u := E.Serial.toNat) (by omega)
 have l3 := KA (k := 2) (j := 1) (u := E.Zone.toNat) (by omega)
 rcases hw with hw | hw | hw
 ·split at hw
  ·simp at hw; subst hw; exact ⟨by omega, Q2 _ _, (Py _ _).2⟩
  ·cases hw
 ·split at hw
  ·simp at hw; subst hw; exact ⟨by omega, Q2 _ _, (Py _ _).2⟩
  ·cases hw
 ·split at hw
  ·simp at hw; subst hw; exact ⟨by omega, Q2 _ _, (Py _ _).2⟩
  ·cases hw
theorem Nx (L : Ac) (E : Ad) : (fs L E).length <= 3 := by
 unfold fs
 split <;> split <;> split <;> simp
theorem SZ : ∀ l : List Wn, (∀ w, w ∈ l -> w.length <= 5) -> (jn l).length <= l.length * 6
 | [], _ => by simp [Pr]
 | [x], h => by rw [Ep]; have := h x (by simp); simp; omega
 | x :: y :: r, h => by
  have ih := SZ (y :: r) (fun w hw => h w (List.mem_cons_of_mem _ hw))
  have hx := h x (by simp)
  have : jn (x :: y :: r) = x ++ 32 :: jn (y :: r) := by
   unfold jn
   rw [Go.Lib.join_cons, Go.Lib.join_cons]
   unfold Go.Lib.joinTail
   simp
  rw [this, List.length_append, List.length_cons, List.length_cons (a := x)]
  omega
theorem VD {L : Ac} {E : Ad} (h : OkE L E) : (jn (fs L E)).length <= 18 := by
 have := SZ (fs L E) (fun w hw => (MP h w hw).1)
 have := Nx L E
 omega
theorem Vv {l : List Wn} (h : ∀ w, w ∈ l -> 1 <= w.length) : jn l = [] ↔ l = [] := by
 constructor
 ·intro hj
  match l, h, hj with
  | [], _, _ => rfl
  | x :: r, h, hj =>
   exfalso
   unfold jn at hj
   rw [Go.Lib.join_cons] at hj
   have := h x (by simp)
   rw [List.append_eq_nil_iff] at hj
   rw [hj.1] at this
   exact absurd this (by decide)
 ·rintro rfl; rfl
theorem UK {n : Int} {k : Nat} (h0 : 0 <= n) (h1 : n <= 1000000000) (hk : k <= 100) : BO N n (k : Int) = some (dP k n.toNat) := by
 obtain ⟨u, rfl⟩ : ∃ u : Nat, n = u := ⟨n.toNat, by omega⟩
 exact Nj u k (by omega) hk
theorem U8 {n : Int} {k : Nat} (h0 : 0 <= n) (h1 : n <= 1000000000) (hk : k <= 100) (h2 : 1 <= k) (hN : 4294967300 < N) : A0 N n (k : Int) = some (dP k n.toNat) := by
 obtain ⟨u, rfl⟩ : ∃ u : Nat, n = u := ⟨n.toNat, by omega⟩
 exact I9 u k (by omega) hk h2 hN
def FS (L : Ac) (E : Ad) (i : Nat) : List Wn := if i = 0 then (if L.Report = true then [dP 1 E.Report.toNat] else []) else if i = 1 then (if L.Serial = true then [dP 3 E.Serial.toNat] else []) else (if L.Zone = true then [dP 2 E.Zone.toNat] else [])
theorem S8 (L : Ac) (E : Ad) : cat 3 (FS L E) = fs L E := by
 rw [Fe, Fe, Fe]
 unfold fs
 rw [<- List.append_assoc]
 rfl
theorem Ny (L : Ac) (E : Ad) (i : Nat) : (FS L E i).length <= 1 := by
 unfold FS
 split
 ·split <;> simp
 ·split <;> split <;> simp
theorem M4 (L : Ac) (E : Ad) (hN : 4294967300 < N) : Bb N L E = some (Hu L E) := by
 unfold Bb Hu
 rw [M3 L E hN, Option.bind_some]
 cases hv : CJ L E with
 | false => rfl
 | true =>
  have ok := okE hv
  obtain ⟨h1, h2, h3⟩ := ok.le
  rw [Bool.not_true, cond_false, if_pos rfl]
  unfold CE
  rw [Option.bind_some]
  generalize hP : ([_, _, _] : List AP) = P
  have hstep : ∀ (i : Nat) (s : List Wn), i < 3 -> s.length + 1 <= 0 + 3 * 1 -> BT N L E true P (s, (i : Int)) = some (.next (s ++ FS L E i, ((i + 1 : Nat) : Int))) := by
   intro i s hi hs
   have p1 : BO N E.Report 1 = some (dP 1 E.Report.toNat) := UK (k := 1) h1.1 (by omega) (by omega)
   have p2 : BO N E.Serial 3 = some (dP 3 E.Serial.toNat) := UK (k := 3) h2.1 (by omega) (by omega)
   have p3 : BO N E.Zone 2 = some (dP 2 E.Zone.toNat) := UK (k := 2) h3.1 (by omega) (by omega)
   have ha : ∀ w : Wn, C2 s [w] = some (s ++ [w]) := fun w => K1 (by simp; omega)
   unfold BT
   subst hP
   simp only
   rw [FJ i (by omega)]
   match i, hi with
   | 0, _ =>
    show ((bif L.Report then ((BO N E.Report 1).bind fun r88 => ((C2 s [r88]).bind fun r101 => some r101)) else some s).bind fun j78 => some (A4.next (j78, _))) = _
    rw [p1, Option.bind_some, ha]
    unfold FS
    cases L.Report <;> simp
   | 1, _ =>
    show ((bif L.Serial then ((BO N E.Serial 3).bind fun r88 => ((C2 s [r88]).bind fun r101 => some r101)) else some s).bind fun j78 => some (A4.next (j78, _))) = _
    rw [p2, Option.bind_some, ha]
    unfold FS
    cases L.Serial <;> simp
   | 2, _ =>
    show ((bif L.Zone then ((BO N E.Zone 2).bind fun r88 => ((C2 s [r88]).bind fun r101 => some r101)) else some s).bind fun j78 => some (A4.next (j78, _))) = _
    rw [p3, Option.bind_some, ha]
    unfold FS
    cases L.Zone <;> simp
  have hend : ∀ s : List Wn, BT N L E true P (s, ((3 : Nat) : Int)) = some (.done (s, ((3 : Nat) : Int))) := by
   intro s
   subst hP
   rfl
  rw [R9 (n := 3) 1 (FS L E) (fun i _ => Ny L E i) (s0 := []) hstep hend (by omega), S8]
  simp only [List.nil_append, Option.bind_some, A4.k]
  have hj := VD ok
  have hl := Nx L E
  have e1 : strings_Join N (fs L E) [32] = some (jn (fs L E)) := by
   unfold strings_Join
   exact if_pos ⟨by omega, by unfold jn at hj; omega⟩
  rw [e1, Option.bind_some, Vq _ _ hN, Option.bind_some]
  unfold HO
  have := Vv (fun w hw => (MP ok w hw).2.2)
  by_cases hf : fs L E = []
  ·rw [if_pos hf, if_pos (this.2 hf)]
  ·rw [if_neg hf, if_neg (fun h => hf (this.1 h))]
theorem OI (L : Ac) (E : Ad) (hN : 4294967300 < N) : Bm N L E = some (Hu L E) := by
 unfold Bm Hu
 rw [K4 L E, Option.bind_some]
 cases hv : CJ L E with
 | false => rfl
 | true =>
  have ok := okE hv
  obtain ⟨h1, h2, h3⟩ := ok.le
  rw [Bool.not_true, cond_false, if_pos rfl]
  have p1 : A0 N E.Report 1 = some (dP 1 E.Report.toNat) := U8 (k := 1) h1.1 (by omega) (by omega) (by omega) hN
  have p2 : A0 N E.Serial 3 = some (dP 3 E.Serial.toNat) := U8 (k := 3) h2.1 (by omega) (by omega) (by omega) hN
  have p3 : A0 N E.Zone 2 = some (dP 2 E.Zone.toNat) := U8 (k := 2) h3.1 (by omega) (by omega) (by omega) hN
  rw [p1, p2, p3]
  simp only [Option.bind_some]
  have e1 : (bif L.Report then ((C2 ([] : List Wn) [dP 1 E.Report.toNat]).bind fun r45 => some r45) else some ([] : List Wn)) = some (FS L E 0) := by
   unfold FS; cases L.Report <;> rfl
  have l0 := Ny L E 0
  have l1 := Ny L E 1
  have e2 : (bif L.Serial then ((C2 (FS L E 0) [dP 3 E.Serial.toNat]).bind fun r81 => some r81) else some (FS L E 0)) = some (FS L E 0 ++ FS L E 1) := by
   rw [K1 (by simp; omega)]
   have : FS L E 1 = if L.Serial = true then [dP 3 E.Serial.toNat] else [] := rfl
   rw [this]
   cases L.Serial <;> simp
  have e3 : (bif L.Zone then ((C2 (FS L E 0 ++ FS L E 1) [dP 2 E.Zone.toNat]).bind fun r115 => some r115) else some (FS L E 0 ++ FS L E 1)) = some (fs L E) := by
   rw [K1 (by simp; omega)]
   have h2 : FS L E 2 = if L.Zone = true then [dP 2 E.Zone.toNat] else [] := rfl
   have : fs L E = FS L E 0 ++ FS L E 1 ++ FS L E 2 := by rw [<- S8, Fe, Fe, Fe]; rfl
   rw [this, h2]
   cases L.Zone <;> simp
  rw [e1, Option.bind_some, e2, Option.bind_some, e3, Option.bind_some]
  have hl := Nx L E
  rw [T9 (by omega) (fun w hw => by have := (MP ok w hw).1; omega) hN]
  unfold HO
  by_cases hf : fs L E = []
  ·rw [if_pos hf, hf]; rfl
  ·rw [if_neg hf]
   have : (((fs L E).length : Int) == 0) = false := by
    rw [beq_eq_false_iff_ne]
    have := List.length_pos_iff.2 hf
    omega
   rw [this]; rfl
def Ii (h : Bool) (ws : List Wn) : List Wn × Int := match h, ws with
 | true, w :: r => (r, T5 w)
 | _, _ => (ws, 0)
def Lb (L : Ac) (ws : List Wn) : Ad := { Report := (Ii L.Report ws).2, Serial := (Ii L.Serial (Ii L.Report ws).1).2, Zone := (Ii L.Zone (Ii L.Serial (Ii L.Report ws).1).1).2 }
def QO (L : Ac) (s : Wn) : Ad × Int := if Hu L (Lb L (pcs 32 s)) = (s, 0) then (Lb L (pcs 32 s), 0) else ({ Report := 0, Serial := 0, Zone := 0 }, 1)
theorem OG (h : Bool) (ws : List Wn) : ∀ w, w ∈ (Ii h ws).1 -> w ∈ ws := by
 intro w hw
 match h, ws, hw with
 | true, x :: r, hw => exact List.mem_cons_of_mem _ hw
 | true, [], hw => exact hw
 | false, _, hw => exact hw
theorem MY (h : Bool) (ws : List Wn) (hl : ∀ w, w ∈ ws -> w.length < N) : (bif (h && decide ((ws.length : Int) > 0)) then ((idx ws 0).bind fun x80 => ((B4 N x80).bind fun r94 => ((sub ws 1 (ws.length : Int)).bind fun r104 => some (r104, r94)))) else some (ws, (0 : Int))) = some (Ii h ws) := by
 match h, ws, hl with
 | false, _, _ => rfl
 | true, [], _ => rfl
 | true, w :: r, hl =>
  have e0 : idx (w :: r) 0 = some w := rfl
  have e1 : sub (w :: r) 1 ((w :: r).length : Int) = some r := by
   unfold sub
   rw [if_pos ⟨by omega, by simp only [List.length_cons]; omega, by omega⟩]
   simp
  rw [decide_eq_true (by simp only [List.length_cons]; omega), e0, e1, Option.bind_some, Nk (hl w (by simp))]
  rfl
theorem SC (L : Ac) (s : Wn) (hs : s.length < 4294967281) (hN : 4294967300 < N) : D5 N L s = some (QO L s) := by
 unfold D5 QO
 rw [Rw 32 hs, Option.bind_some]
 have hle := Pl 32 s
 generalize pcs 32 s = ws at hle
 have hn : ∀ w, w ∈ ws -> w.length < N := fun w hw => by have := hle w hw; omega
 have c0 : ∀ (E : Ad) (b : Bool), ((CE N L E).bind fun r38 => ((idx r38 0).bind fun x46 => (bif x46.has_ then some b else some false))) = some (L.Report && b) := by
  intro E b
  show (bif L.Report then some b else some false) = _
  cases L.Report <;> rfl
 have c1 : ∀ (E : Ad) (b : Bool), ((CE N L E).bind fun r38 => ((idx r38 1).bind fun x46 => (bif x46.has_ then some b else some false))) = some (L.Serial && b) := by
  intro E b
  show (bif L.Serial then some b else some false) = _
  cases L.Serial <;> rfl
 have c2 : ∀ (E : Ad) (b : Bool), ((CE N L E).bind fun r38 => ((idx r38 2).bind fun x46 => (bif x46.has_ then some b else some false))) = some (L.Zone && b) := by
  intro E b
  show (bif L.Zone then some b else some false) = _
  cases L.Zone <;> rfl
 rw [c0, Option.bind_some, MY L.Report ws hn, Option.bind_some, c1, Option.bind_some]
 have hn1 : ∀ w, w ∈ (Ii L.Report ws).1 -> w.length < N := fun w hw => hn w (OG _ _ w hw)
 rw [MY L.Serial _ hn1, Option.bind_some, c2, Option.bind_some]
 have hn2 : ∀ w, w ∈ (Ii L.Serial (Ii L.Report ws).1).1 -> w.length < N := fun w hw => hn1 w (OG _ _ w hw)
 rw [MY L.Zone _ hn2, Option.bind_some]
 show ((Bb N L (Lb L ws)).bind _) = _
 rw [M4 L _ hN, Option.bind_some, SO]
 show (bif (!decide (Hu L (Lb L ws) = (s, 0))) then _ else some (Lb L ws, (0 : Int))) = _
 by_cases h : Hu L (Lb L ws) = (s, 0)
 ·rw [decide_eq_true h, if_pos h]; rfl
 ·rw [decide_eq_false h, if_neg h]; rfl
end
end
def EH (s : Wn) : Bool := (callB s).isSome
section
variable {N : Nat}
theorem TF (s : Wn) (hN : 4294967300 < N) : Gd N s = some (EH s) := by
 unfold Gd EH
 rw [Ua s hN, Option.bind_some]
 unfold Qw
 cases callB s <;> rfl
theorem SB (s : Wn) (hN : 4294967300 < N) : DR N s = some (EH s) := by
 unfold DR EH
 rw [SV s hN, Option.bind_some]
 unfold UF
 cases callB s <;> rfl
end
def DO (_N : Nat) (s : Wn) : Option Bool := some (EH s)
theorem EN : Af Tryz.prog 79 := KJ
theorem Fl (N : Nat) (w0 : World) (F0 : Mem) (hF : Wp w0 F0) (hG : Br F0) (x0 : Wn) (r : Bool) (h : DO N x0 = some r) :
  Calls Tryz.prog 79 ([(.string ⟨(x0).toArray⟩)] : List Value).toArray w0 (AA w0 F0 fun F' v => v = (.bool r)) := by
 exact LX 9223372036854775808 w0 F0 hF hG x0 r ((TF x0 (by decide)).trans h)
def GV (_N : Nat) (s : Wn) : Option (Int × Int) := if s.length < 4294967281 then some (QP s) else none
theorem LR : Af Tryz.prog 96 := KK
theorem MJ (N : Nat) (w0 : World) (F0 : Mem) (hF : Wp w0 F0) (hG : Br F0) (x0 : Wn) (r : (Int × Int)) (h : GV N x0 = some r) :
  Calls Tryz.prog 96 ([(.string ⟨(x0).toArray⟩)] : List Value).toArray w0 (AA w0 F0 fun F' v => v = (.tuple #[(.int .i64 r.1), (.int .i64 r.2)])) := by
 unfold GV at h
 split at h
 ·rename_i hs
  exact LY 9223372036854775808 w0 F0 hF hG x0 r ((PU x0 hs (by decide)).trans h)
 ·cases h
def C5 (_N : Nat) (L : Ac) (s : Wn) : Option (Ad × Int) := if s.length < 4294967281 then some (QO L s) else none
theorem Bw : Af Tryz.prog 97 := Ib
theorem BG (N : Nat) (w0 : World) (F0 : Mem) (hF : Wp w0 F0) (hG : Br F0) (x0 : Ac) (x1 : Wn) (r : (Ad × Int)) (h : C5 N x0 x1 = some r) :
  Calls Tryz.prog 97 ([(.agg #[(.bool x0.Report), (.bool x0.Serial), (.bool x0.Zone)]), (.string ⟨(x1).toArray⟩)] : List Value).toArray w0 (AA w0 F0 fun F' v => v = (.tuple #[(.agg #[(.int .i64 r.1.Report), (.int .i64 r.1.Serial), (.int .i64 r.1.Zone)]), (.int .i64 r.2)])) := by
 unfold C5 at h
 split at h
 ·rename_i hs
  exact I1 9223372036854775808 w0 F0 hF hG x0 x1 r ((SC x0 x1 hs (by decide)).trans h)
 ·cases h
section
open Go.Lib (decDigits)
theorem Er {r : List Wn} (h : r ≠ []) (x : Wn) : jn (x :: r) = x ++ 32 :: jn r := by
 match r, h with
 | y :: r, _ =>
  unfold jn
  rw [Go.Lib.join_cons, Go.Lib.join_cons]
  unfold Go.Lib.joinTail
  simp
theorem S0 : ∀ {a b : List Wn}, a ≠ [] -> b ≠ [] -> jn (a ++ b) = jn a ++ 32 :: jn b
 | [], _, h, _ => absurd rfl h
 | [x], b, _, hb => by rw [List.singleton_append, Er hb, Ep]
 | x :: y :: a, b, _, hb => by
  rw [List.cons_append, Er (by simp), Er (by simp), S0 (by simp) hb]; simp
theorem Rz : ∀ {L : List (List Wn)}, (∀ l, l ∈ L -> l ≠ []) -> jn (L.map jn) = jn L.flatten
 | [], _ => rfl
 | [l], _ => by simp [Ep]
 | l :: m :: L, h => by
  have ih := Rz (L := m :: L) (fun x hx => h x (List.mem_cons_of_mem _ hx))
  have hm : (m :: L).flatten ≠ [] := by
   have := h m (by simp)
   simp [this]
  rw [List.map_cons, Er (by simp), ih, List.flatten_cons (l := l), S0 (h l (by simp)) hm]
def Ol (b : UInt8) : Bool := isL b || isD b || b == 47
def FR (s : Wn) : Bool := wiB s.length 1 16 && s.all Ol
def Gj (o : Ac) (x : Line) : Bool := decide (1 <= x.Num /\ x.Num <= 65535) && (decide (1 <= x.Khz /\ x.Khz <= 10000000) && (decide (1 <= x.Mode /\ x.Mode <= 3) && (decide (0 <= x.Minute /\ x.Minute <= 20000) && (FR x.Call && (CJ o x.Sent && CJ o x.Got)))))
structure OkL (o : Ac) (x : Line) : Prop where
 n : 1 <= x.Num /\ x.Num <= 65535
 k : 1 <= x.Khz /\ x.Khz <= 10000000
 m : 1 <= x.Mode /\ x.Mode <= 3
 t : 0 <= x.Minute /\ x.Minute <= 20000
 c : FR x.Call = true
 s : CJ o x.Sent = true
 g : CJ o x.Got = true
theorem GX {o : Ac} {x : Line} : Gj o x = true ↔ OkL o x := by
 unfold Gj
 simp only [Bool.and_eq_true, decide_eq_true_eq]
 exact ⟨fun ⟨a, b, c, d, e, f, g⟩ => ⟨a, b, c, d, e, f, g⟩, fun h => ⟨h.n, h.k, h.m, h.t, h.c, h.s, h.g⟩⟩
def P6 (m : Int) : Wn := if m = 1 then [77] else if m = 2 then [86] else [68]
def fsw (o : Ac) (E : Ad) : List Wn := if fs o E = [] then [[45]] else fs o E
def tW (u : Nat) : List Wn := [decDigits (u / 1440 + 1), dP 2 (u / 60 % 24) ++ dP 2 (u % 60)]
def QSO : Wn := [81, 83, 79]
def RB (x : Line) : List Wn := [QSO, decDigits x.Num.toNat, decDigits x.Khz.toNat, P6 x.Mode] ++ tW x.Minute.toNat ++ [x.Call, [62]]
def Np (o : Ac) (x : Line) : List Wn := RB x ++ (fsw o x.Sent ++ [60] :: fsw o x.Got)
def JB (o : Ac) (x : Line) : Wn := jn (Np o x)
theorem Sy (u : Nat) : Kf u = jn (tW u) := by unfold Kf tW; rw [Er (by simp), Ep]
theorem St (o : Ac) (E : Ad) : HO o E = jn (fsw o E) := by
 unfold HO fsw
 split
 ·rw [Ep]
 ·rfl
theorem UZ (o : Ac) (E : Ad) : fsw o E ≠ [] := by
 unfold fsw
 split
 ·simp
 ·assumption
theorem OV (o : Ac) (x : Line) : jn [QSO, decDigits x.Num.toNat, decDigits x.Khz.toNat, P6 x.Mode, Kf x.Minute.toNat, x.Call, [62], HO o x.Sent, [60], HO o x.Got] = JB o x := by
 have h := Rz (L := [[QSO], [decDigits x.Num.toNat], [decDigits x.Khz.toNat], [P6 x.Mode], tW x.Minute.toNat, [x.Call], [[62]], fsw o x.Sent, [[60]], fsw o x.Got]) (by
  intro l hl
  simp only [List.mem_cons, List.not_mem_nil, or_false] at hl
  rcases hl with rfl | rfl | rfl | rfl | rfl | rfl | rfl | rfl | rfl | rfl
  all_goals first | exact UZ _ _ | simp [tW])
 simp only [List.map_cons, List.map_nil, Ep, <- Sy, <- St] at h
 rw [h]
 unfold JB Np RB
 simp
theorem Qf {o : Ac} {E : Ad} (h : CJ o E = true) : ∀ w, w ∈ fsw o E -> (32 : UInt8) ∉ w /\ w ≠ [60] /\ w ≠ [62] /\ w.length <= 5 := by
 intro w hw
 unfold fsw at hw
 split at hw
 ·simp at hw; subst hw; decide
 ·obtain ⟨h1, h2, h3⟩ := MP (okE h) w hw
  refine ⟨VN h2, ?_, ?_, h1⟩
  ·rintro rfl; revert h2; decide
  ·rintro rfl; revert h2; decide
theorem QW {s : Wn} (h : FR s = true) : (32 : UInt8) ∉ s /\ s ≠ [60] /\ s ≠ [62] /\ 1 <= s.length /\ s.length <= 16 := by
 unfold FR wiB at h
 simp only [Bool.and_eq_true, decide_eq_true_eq] at h
 obtain ⟨⟨h1, h2⟩, h3⟩ := h
 rw [List.all_eq_true] at h3
 refine ⟨fun hm => ?_, ?_, ?_, h1, h2⟩
 ·have := h3 _ hm; revert this; decide
 ·rintro rfl; have := h3 60 (by simp); revert this; decide
 ·rintro rfl; have := h3 62 (by simp); revert this; decide
theorem Sf (x : Line) : (RB x).length = 8 := rfl
theorem UC : ∀ (l : List Wn) (k : Nat), (∀ w, w ∈ l -> w.length <= k) -> (jn l).length <= l.length * (k + 1)
 | [], k, _ => by simp [Pr]
 | [x], k, h => by have := h x (by simp); rw [Ep]; simp; omega
 | x :: y :: r, k, h => by
  have := h x (by simp)
  have := UC (y :: r) k fun w hw => h w (List.mem_cons_of_mem _ hw)
  rw [Er (by simp), List.length_append, List.length_cons, List.length_cons, Nat.succ_mul]
  omega
theorem Iz {o : Ac} {x : Line} (h : OkL o x) : (JB o x).length <= 300 := by
 have hc := QW h.c
 obtain ⟨n1, n2⟩ := h.n
 obtain ⟨k1, k2⟩ := h.k
 have hw : ∀ w, w ∈ Np o x -> w.length <= 16 := by
  intro w hw
  have d1 := JX 4 x.Num.toNat (by omega)
  have d2 := JX 7 x.Khz.toNat (by omega)
  have d3 := Pw (u := x.Minute.toNat / 1440 + 1) (by have := h.t; omega)
  have d4 := Je (u := x.Minute.toNat / 60 % 24) (by omega)
  have d5 := Je (u := x.Minute.toNat % 60) (by omega)
  unfold Np RB tW at hw
  simp only [List.mem_append, List.mem_cons, List.not_mem_nil, or_false] at hw
  rcases hw with (((rfl | rfl | rfl | rfl) | (rfl | rfl)) | (rfl | rfl)) | hw | rfl | hw
  ·decide
  ·omega
  ·omega
  ·unfold P6; split
   ·decide
   ·split <;> decide
  ·omega
  ·rw [List.length_append]; omega
  ·omega
  ·decide
  ·have := (Qf h.s w hw).2.2.2; omega
  ·decide
  ·have := (Qf h.g w hw).2.2.2; omega
 have hl : (Np o x).length <= 16 := by
  have h1 := Nx o x.Sent
  have h2 := Nx o x.Got
  have f : ∀ E, (fs o E).length <= 3 -> (fsw o E).length <= 3 := fun E hE => by
   unfold fsw; split
   ·simp
   ·exact hE
  have := f _ h1
  have := f _ h2
  unfold Np
  rw [List.length_append, Sf, List.length_append, List.length_cons]; omega
 have := UC _ 16 hw
 have : (Np o x).length * 17 <= 16 * 17 := Nat.mul_le_mul_right _ hl
 unfold JB; omega
end

section
open Go.Lib (decDigits)
def Uu : Wn := [67, 65, 76, 76]
def Vl : Wn := [67, 65, 84, 69, 71, 79, 82, 89]
def Vh : Wn := [80, 79, 87, 69, 82]
def Vk : Wn := [67, 76, 65, 73, 77, 69, 68]
def Vi : Wn := [74, 85, 77, 80, 83]
def Vj : Wn := [69, 78, 68]
def Sb : List Int -> Bool
 | [] => true
 | [_] => true
 | a :: b :: r => decide (a < b) && Sb (b :: r)
def Kv (l : List Int) : Bool := l.all (fun n => decide (1 <= n /\ n <= 20000)) && (Sb l && decide (l.length <= 16))
def hdW (l : Log) (k : Nat) : List Wn := match k with
 | 0 => [Uu, l.Call]
 | 1 => [Vl, decDigits l.Category.toNat]
 | 2 => [Vh, decDigits l.Power.toNat]
 | 3 => [Vk, decDigits l.Claimed.toNat]
 | _ => Vi :: l.Jumps.map fun n => decDigits n.toNat
def hdT (l : Log) (k : Nat) : Wn := jn (hdW l k)
def hdV (l : Log) (k : Nat) : Bool := match k with
 | 0 => EH l.Call
 | 1 => decide (1 <= l.Category /\ l.Category <= 9)
 | 2 => decide (1 <= l.Power /\ l.Power <= 9999)
 | 3 => decide (0 <= l.Claimed /\ l.Claimed <= 1000000)
 | _ => Kv l.Jumps
theorem RA {l : List Int} (h : Kv l = true) : ∀ n, n ∈ l -> 1 <= n /\ n <= 20000 := by
 unfold Kv at h
 simp only [Bool.and_eq_true, List.all_eq_true, decide_eq_true_eq] at h
 exact h.1
end
section
open Go.Lib (decDigits)
def Pn (o : Ac) (l : List Line) (i : Nat) : Bool := match l[i]? with
 | some x => Gj o x && (decide (i = 0) || match l[i - 1]? with
  | some y => decide (y.Num < x.Num) && decide (y.Minute <= x.Minute)
  | none => true)
 | none => true
def Hz (o : Ac) (l : List Line) : Option Nat := (List.range l.length).find? fun i => !Pn o l i
def Nv (l : Log) : Bool := hdV l 0 && (hdV l 1 && (hdV l 2 && (hdV l 3 && hdV l 4)))
def chk (o : Ac) (l : Log) : Int × Int :=
 if l.Jumps.length > 16 \/ l.Lines.length > 400 then (2, 0)
 else if Nv l = false then (21, 0)
 else match Hz o l.Lines with
  | some i => (21, (i : Int) + 1)
  | none => (0, 0)
def Vr (o : Ac) (l : Log) : List Wn := [hdT l 0, hdT l 1, hdT l 2, hdT l 3, hdT l 4] ++ l.Lines.map (JB o) ++ [Vj]
def UP (o : Ac) (l : Log) : Wn := (Vr o l).flatMap fun y => y ++ [10]
end
def AV (N : Nat) (x0 : Int) (x1 : Int) (x2 : Int) : Option Bool :=
 some ((decide (x1 <= x0)) && (decide (x0 <= x2)))
theorem AN : Af Tryz.prog 73 := fun _ _ => by kernel_rfl
theorem AQ (N : Nat) (w0 : World) (F0 : Mem) (hF : Wp w0 F0) (x0 : Int) (x1 : Int) (x2 : Int) (r : Bool) (h : AV N x0 x1 x2 = some r) :
  Calls Tryz.prog 73 ([(vi x0), (vi x1), (vi x2)] : List Value).toArray w0 (AA w0 F0 fun F' v => v = (.bool r)) := by
 have hs0 := V4 hF
 refine Go 15 Tryz.func73 <| Sq (Rg [0] ?_)
 refine Vs 1 <| Nss (Rg (rG 9) ?_)
 refine V8 (fun f w => ∃ (F1 : Mem), HS w0 F0 w F1 [] /\ V2 F0 F1 /\ FI f [] [(6, (.bool ((decide (x1 <= x0)) && (decide (x0 <= x2)))))]) ?_ ?_
 ·refine Vs 4 ?_
  refine V7 (decide (x1 <= x0)) (fun hb26 => ?_) (fun hb26 => ?_)
  ·refine Vgs hb26 3 ?_
   refine Pk1 hb26 <| Vs 1 ?_
   exact VY ⟨rfl, F0, hs0, (V3 _), (fJ ⟨(congrArg Value.bool (Hl hb26 rfl)), trivial⟩)⟩
  ·refine Ss hb26 3 ?_
   refine Pk0 hb26 <| Vs 1 ?_
   exact VY ⟨rfl, F0, hs0, (V3 _), (fJ ⟨(congrArg Value.bool (H7 hb26 rfl)), trivial⟩)⟩
 ·rintro f w21 ⟨F1, hs22, le23, ⟨_, rfl⟩⟩
  refine Ab <| Rt ?_
  obtain rfl := Aa h
  exact Re [(.bool ((decide (x1 <= x0)) && (decide (x0 <= x2))))] hs22 rfl
def DK (N : Nat) (x0 : Wn) (r21 : Bool) : (Bool × Int) -> Option (A4 Bool (Bool × Int)) := fun s32 =>
 (bif (decide (s32.2 < (x0.length : Int))) then ((Kj x0 s32.2).bind fun c56 => ((bif s32.1 then ((AV N (W64 c56) 65 90).bind fun r73 => (bif r73 then some true else ((AV N (W64 c56) 48 57).bind fun r84 => (bif r84 then some true else some (c56 == 47))))) else some false).bind fun j62 => some (.next (j62, (W64 (s32.2 + 1)))))) else some (.done (s32.1, s32.2)))
def Hw (N : Nat) (x0 : Wn) : Option Bool :=
 ((AV N (x0.length : Int) 1 16).bind fun r21 => ((AJ (DK N x0 r21) N (r21, 0)).bind fun o => o.k (fun r => some r) (fun s41 => some s41.1)))
theorem Oj : Af Tryz.prog 74 := fun _ _ => by kernel_rfl
theorem PJ (N : Nat) (w0 : World) (F0 : Mem) (hF : Wp w0 F0) (x0 : Wn) (r : Bool) (h : Hw N x0 = some r) :
  Calls Tryz.prog 74 ([(sv x0)] : List Value).toArray w0 (AA w0 F0 fun F' v => v = (.bool r)) := by
 have hs0 := V4 hF
 refine Go 34 Tryz.func74 <| Sq (Rg [0] ?_)
 refine Vs 1 <| Nss (Rg (rG 4) ?_)
 refine Vs 2 ?_
 obtain ⟨r21, hr22, h23⟩ := bind_some h
 refine Cl' AN hs0 (AQ N w0 F0 hs0.pers ((x0.length : Int)) 1 16 _ hr22) ?_
 rintro _ F1 w25 hs26 le27 rfl
 refine Vs 1 <| Nss <| Sq (Rg [0, 1, 2] ?_)
 refine Vs 3 <| Nt ?_
 obtain ⟨o29, ho30, h31⟩ := bind_some h23
 refine V9 (fun f w => ∃ (s41 : (Bool × Int)) (F3 : Mem), o29 = .done s41 /\ HS w0 F0 w F3 [] /\ V2 F1 F3 /\ FI f [] [(3, (.bool s41.1))]) ?_ ?_
 ·refine Bk ?_
  refine V1 (by kernel_rfl) (fun m f w => ∃ (s32 : (Bool × Int)) (F2 : Mem), AJ (DK N x0 r21) m s32 = some o29 /\ HS w0 F0 w F2 [] /\ V2 F1 F2 /\ FI f [] [(0, (sv x0)), (3, (.bool s32.1)), (10, (vi (x0.length : Int))), (11, (vi s32.2))]) N ⟨(r21, 0), F1, ho30, hs26, (V3 _), fI⟩ ?_
  rintro m47 f w33 ⟨s32, F2, hit48, hs34, le35, ⟨_, rfl⟩⟩
  obtain ⟨m49, fl50, rfl, hb51, hnx52⟩ := AC hit48
  refine Sq (Rg [0] ?_)
  refine Vs 1 <| Nss <| Cd hb51 (fun hb53 h54 => ?_) (fun hb53 h55 => ?_)
  ·refine Sc ?_
   refine Ab <| Sq <| Bk <| Sq (Rg [0, 1] ?_)
   refine Vs 2 <| Nss (Rg (rG 4) ?_)
   refine Vs 2 ?_
   obtain ⟨c56, hr57, h58⟩ := bind_some h54
   refine V 16 5 (Eg (t := 9) (x := (.tmp 14)) (y := (.tmp 15)) (a := x0) (k := .i64) (i := s32.2) (v := c56) rfl rfl (by kernel_rfl) hr57) <| Vs 1 <| Nt <| Rg (rG 16) ?_
   obtain ⟨j62, hj68, h69⟩ := bind_some h58
   refine V8 (fun f w => ∃ (F4 : Mem), HS w0 F0 w F4 [] /\ V2 F2 F4 /\ FI f [] [(0, (sv x0)), (3, (.bool j62)), (10, (vi (x0.length : Int))), (11, (vi s32.2))]) ?_ ?_
   ·refine Vs 2 ?_
    refine Sp hj68 (fun hb70 h71 => ?_) (fun hb70 h72 => ?_)
    ·refine Vgs hb70 2 ?_
     obtain ⟨r73, hr74, h75⟩ := bind_some h71
     refine Cg hb70 AN hs34 (AQ N w33 F2 hs34.pers ((W64 c56)) 65 90 _ hr74) ?_
     rintro _ F5 w77 hs78 le79 rfl
     refine Vgs hb70 1 <| Sp h75 (fun hb81 h82 => ?_) (fun hb81 h83 => ?_)
     ·refine Ss hb81 3 ?_
      refine Pg1 hb70 hb81 <| Vgs hb70 1 <| Ss (rfl : true = true) 2 <| Pg1 hb70 (rfl : true = true) <| Pk1 hb70 <| Vs 1 ?_
      obtain rfl := Aa h82
      exact VY ⟨rfl, F5, hs78, le79, fI⟩
     ·refine Vgs hb81 2 ?_
      obtain ⟨r84, hr85, h86⟩ := bind_some h83
      refine Cg hb81 AN hs78 (AQ N w77 F5 hs78.pers ((W64 c56)) 48 57 _ hr85) ?_
      rintro _ F6 w88 hs89 le90 rfl
      refine Pg0 hb70 hb81 <| Vgs hb70 1 <| Sp h86 (fun hb92 h93 => ?_) (fun hb92 h94 => ?_)
      ·refine Ss hb92 2 ?_
       refine Pg1 hb70 hb92 <| Pk1 hb70 <| Vs 1 ?_
       obtain rfl := Aa h93
       exact VY ⟨rfl, F6, hs89, (le79.t le90), fI⟩
      ·refine Vgs hb92 2 ?_
       refine Pg0 hb70 hb92 <| Pk1 hb70 <| Vs 1 ?_
       obtain rfl := Aa h94
       exact VY ⟨rfl, F6, hs89, (le79.t le90), fI⟩
    ·refine Ss hb70 4 ?_
     refine Su' 3 <| Ss hb70 2 <| Su' 2 <| Ss hb70 1 <| Pk0 hb70 <| Vs 1 ?_
     obtain rfl := Aa h72
     exact VY ⟨rfl, F2, hs34, (V3 _), fI⟩
   ·rintro f w59 ⟨F4, hs60, le61, ⟨_, rfl⟩⟩
    refine Ap <| Ab <| Rg [0, 1] <| Vs 2 <| VY ?_
    have hn95 := AD h69 hnx52
    exact ⟨m49, Nat.lt_succ_self _, (j62, (W64 (s32.2 + 1))), F4, hn95, hs60, (le35.t le61), fI⟩
  ·refine Ex ?_
   refine Al <| Al <| Ay rfl ?_
   have ho96 := AE h55 hnx52
   exact .inl ⟨rfl, (s32.1, s32.2), F2, ho96, hs34, le35, fI⟩
 ·rintro f w42 ⟨s41, F3, rfl, hs43, le44, ⟨_, rfl⟩⟩
  have h97 := A6 h31
  refine Ab <| Sq (Rg [0, 1] ?_)
  refine Vs 2 <| Nt <| Rt ?_
  obtain rfl := Aa h97
  exact Re [(.bool s41.1)] hs43 rfl
def Cw (N : Nat) (x0 : Ac) (x1 : Line) : Option Bool :=
 (((AV N x1.Num 1 65535).bind fun r35 => (bif r35 then ((AV N x1.Khz 1 10000000).bind fun r46 => (bif r46 then ((AV N x1.Mode 1 3).bind fun r57 => (bif r57 then ((AV N x1.Minute 0 20000).bind fun r68 => (bif r68 then ((Hw N x1.Call).bind fun r79 => (bif r79 then ((BV N ({ Report := x0.Report, Serial := x0.Serial, Zone := x0.Zone } : Ac) ({ Report := x1.Sent.Report, Serial := x1.Sent.Serial, Zone := x1.Sent.Zone } : Ad)).bind fun r90 => (bif r90 then ((BV N ({ Report := x0.Report, Serial := x0.Serial, Zone := x0.Zone } : Ac) ({ Report := x1.Got.Report, Serial := x1.Got.Serial, Zone := x1.Got.Zone } : Ad)).bind fun r101 => some r101) else some false)) else some false)) else some false)) else some false)) else some false)) else some false)).bind fun j30 => some j30)
theorem GD : Af Tryz.prog 21 := fun _ _ => by kernel_rfl
theorem Hh (N : Nat) (w0 : World) (F0 : Mem) (hF : Wp w0 F0) (x0 : Ac) (x1 : Line) (r : Bool) (h : Cw N x0 x1 = some r) :
  Calls Tryz.prog 21 ([(.agg (Ag x0)), (.agg (BL x1))] : List Value).toArray w0 (AA w0 F0 fun F' v => v = (.bool r)) := by
 have hs0 := V4 hF
 refine Go 40 Tryz.func21 <| Sq (Rg [0, 1, 2] ?_)
 refine Bx' 23 (Ag x0) hs0 (fun b21 w22 hs23 => ?_)
 refine Bx' 34 (BL x1) hs23 (fun b24 w25 hs26 => ?_)
 refine Vs 1 <| Nss (Rg (rG 36) ?_)
 obtain ⟨j30, hj33, h34⟩ := bind_some h
 refine V8 (fun f w => ∃ (F1 : Mem), HS w0 F0 w F1 [] /\ V2 F0 F1 /\ FI f [] [(4, (.bool j30))]) ?_ ?_
 ·refine Vs 1 ?_
  refine Ld hs26.at0 ?_
  obtain ⟨r35, hr36, h37⟩ := bind_some hj33
  refine Cl' AN hs26 (AQ N w25 F0 hs26.pers x1.Num 1 65535 _ hr36) ?_
  rintro _ F2 w39 hs40 le41 rfl
  refine Vs 1 <| Sp h37 (fun hb43 h44 => ?_) (fun hb43 h45 => ?_)
  ·refine Vgs hb43 1 ?_
   refine Lg hb43 hs40.at0 ?_
   obtain ⟨r46, hr47, h48⟩ := bind_some h44
   refine Cg hb43 AN hs40 (AQ N w39 F2 hs40.pers x1.Khz 1 10000000 _ hr47) ?_
   rintro _ F3 w50 hs51 le52 rfl
   refine Pk1 hb43 <| Vs 1 <| Sp h48 (fun hb54 h55 => ?_) (fun hb54 h56 => ?_)
   ·refine Vgs hb54 1 ?_
    refine Lg hb54 hs51.at0 ?_
    obtain ⟨r57, hr58, h59⟩ := bind_some h55
    refine Cg hb54 AN hs51 (AQ N w50 F3 hs51.pers x1.Mode 1 3 _ hr58) ?_
    rintro _ F4 w61 hs62 le63 rfl
    refine Pk1 hb54 <| Vs 1 <| Sp h59 (fun hb65 h66 => ?_) (fun hb65 h67 => ?_)
    ·refine Vgs hb65 1 ?_
     refine Lg hb65 hs62.at0 ?_
     obtain ⟨r68, hr69, h70⟩ := bind_some h66
     refine Cg hb65 AN hs62 (AQ N w61 F4 hs62.pers x1.Minute 0 20000 _ hr69) ?_
     rintro _ F5 w72 hs73 le74 rfl
     refine Pk1 hb65 <| Vs 1 <| Sp h70 (fun hb76 h77 => ?_) (fun hb76 h78 => ?_)
     ·refine Vgs hb76 1 ?_
      refine Lg hb76 hs73.at0 ?_
      obtain ⟨r79, hr80, h81⟩ := bind_some h77
      refine Cg hb76 Oj hs73 (PJ N w72 F5 hs73.pers x1.Call _ hr80) ?_
      rintro _ F6 w83 hs84 le85 rfl
      refine Pk1 hb76 <| Vs 1 <| Sp h81 (fun hb87 h88 => ?_) (fun hb87 h89 => ?_)
      ·refine Lg hb87 hs84.at1 ?_
       refine Vgs hb87 1 <| Lg hb87 hs84.at0 ?_
       obtain ⟨r90, hr91, h92⟩ := bind_some h88
       refine Cg hb87 Dd hs84 (DF N w83 F6 hs84.pers (({ Report := x0.Report, Serial := x0.Serial, Zone := x0.Zone } : Ac)) (({ Report := x1.Sent.Report, Serial := x1.Sent.Serial, Zone := x1.Sent.Zone } : Ad)) _ hr91) ?_
       rintro _ F7 w94 hs95 le96 rfl
       refine Pk1 hb87 <| Vs 1 <| Sp h92 (fun hb98 h99 => ?_) (fun hb98 h100 => ?_)
       ·refine Lg hb98 hs95.at1 ?_
        refine Vgs hb98 1 <| Lg hb98 hs95.at0 ?_
        obtain ⟨r101, hr102, h103⟩ := bind_some h99
        refine Cg hb98 Dd hs95 (DF N w94 F7 hs95.pers (({ Report := x0.Report, Serial := x0.Serial, Zone := x0.Zone } : Ac)) (({ Report := x1.Got.Report, Serial := x1.Got.Serial, Zone := x1.Got.Zone } : Ad)) _ hr102) ?_
        rintro _ F8 w105 hs106 le107 rfl
        refine Pk1 hb98 <| Vs 1 ?_
        obtain rfl := Aa h103
        exact VY ⟨rfl, F8, hs106.dr0.dr0, ((((((le41.t le52).trans le63).trans le74).trans le85).trans le96).trans le107), fI⟩
       ·refine Ss hb98 4 ?_
        refine Pk0 hb98 <| Vs 1 ?_
        obtain rfl := Aa h100
        exact VY ⟨rfl, F7, hs95.dr0.dr0, (((((le41.t le52).trans le63).trans le74).trans le85).trans le96), fI⟩
      ·refine Ss hb87 4 ?_
       refine Pk0 hb87 <| Vs 1 <| Ss (rfl : false = false) 4 <| Pk0 (rfl : false = false) <| Vs 1 ?_
       obtain rfl := Aa h89
       exact VY ⟨rfl, F6, hs84.dr0.dr0, ((((le41.t le52).trans le63).trans le74).trans le85), fI⟩
     ·refine Ss hb76 3 ?_
      refine Pk0 hb76 <| Vs 1 <| Ss (rfl : false = false) 4 <| Pk0 (rfl : false = false) <| Vs 1 <| Ss (rfl : false = false) 4 <| Pk0 (rfl : false = false) <| Vs 1 ?_
      obtain rfl := Aa h78
      exact VY ⟨rfl, F5, hs73.dr0.dr0, (((le41.t le52).trans le63).trans le74), fI⟩
    ·refine Ss hb65 3 ?_
     refine Pk0 hb65 <| Vs 1 <| Ss (rfl : false = false) 3 <| Pk0 (rfl : false = false) <| Vs 1 <| Ss (rfl : false = false) 4 <| Pk0 (rfl : false = false) <| Vs 1 <| Ss (rfl : false = false) 4 <| Pk0 (rfl : false = false) <| Vs 1 ?_
     obtain rfl := Aa h67
     exact VY ⟨rfl, F4, hs62.dr0.dr0, ((le41.t le52).trans le63), fI⟩
   ·refine Ss hb54 3 ?_
    refine Pk0 hb54 <| Vs 1 <| Ss (rfl : false = false) 3 <| Pk0 (rfl : false = false) <| Vs 1 <| Ss (rfl : false = false) 3 <| Pk0 (rfl : false = false) <| Vs 1 <| Ss (rfl : false = false) 4 <| Pk0 (rfl : false = false) <| Vs 1 <| Ss (rfl : false = false) 4 <| Pk0 (rfl : false = false) <| Vs 1 ?_
    obtain rfl := Aa h56
    exact VY ⟨rfl, F3, hs51.dr0.dr0, (le41.t le52), fI⟩
  ·refine Ss hb43 3 ?_
   refine Pk0 hb43 <| Vs 1 <| Ss (rfl : false = false) 3 <| Pk0 (rfl : false = false) <| Vs 1 <| Ss (rfl : false = false) 3 <| Pk0 (rfl : false = false) <| Vs 1 <| Ss (rfl : false = false) 3 <| Pk0 (rfl : false = false) <| Vs 1 <| Ss (rfl : false = false) 4 <| Pk0 (rfl : false = false) <| Vs 1 <| Ss (rfl : false = false) 4 <| Pk0 (rfl : false = false) <| Vs 1 ?_
   obtain rfl := Aa h45
   exact VY ⟨rfl, F2, hs40.dr0.dr0, le41, fI⟩
 ·rintro f w27 ⟨F1, hs28, le29, ⟨_, rfl⟩⟩
  refine Ab <| Rt ?_
  obtain rfl := Aa h34
  exact Re [(.bool j30)] hs28 rfl
def BQ (N : Nat) (x0 : Int) (x1 : Int) (x2 : Int) : Option Bool :=
 some ((decide (x0 >= x1)) && (decide (x0 <= x2)))
theorem BI : Af Tryz.prog 76 := fun _ _ => by kernel_rfl
theorem BS (N : Nat) (w0 : World) (F0 : Mem) (hF : Wp w0 F0) (x0 : Int) (x1 : Int) (x2 : Int) (r : Bool) (h : BQ N x0 x1 x2 = some r) :
  Calls Tryz.prog 76 ([(vi x0), (vi x1), (vi x2)] : List Value).toArray w0 (AA w0 F0 fun F' v => v = (.bool r)) := by
 have hs0 := V4 hF
 refine Go 15 Tryz.func76 <| Sq (Rg [0] ?_)
 refine Vs 1 <| Nss (Rg (rG 9) ?_)
 refine V8 (fun f w => ∃ (F1 : Mem), HS w0 F0 w F1 [] /\ V2 F0 F1 /\ FI f [] [(6, (.bool ((decide (x0 >= x1)) && (decide (x0 <= x2)))))]) ?_ ?_
 ·refine Vs 4 ?_
  refine V7 (decide (x0 >= x1)) (fun hb26 => ?_) (fun hb26 => ?_)
  ·refine Vgs hb26 3 ?_
   refine Pk1 hb26 <| Vs 1 ?_
   exact VY ⟨rfl, F0, hs0, (V3 _), (fJ ⟨(congrArg Value.bool (Hl hb26 rfl)), trivial⟩)⟩
  ·refine Ss hb26 3 ?_
   refine Pk0 hb26 <| Vs 1 ?_
   exact VY ⟨rfl, F0, hs0, (V3 _), (fJ ⟨(congrArg Value.bool (H7 hb26 rfl)), trivial⟩)⟩
 ·rintro f w21 ⟨F1, hs22, le23, ⟨_, rfl⟩⟩
  refine Ab <| Rt ?_
  obtain rfl := Aa h
  exact Re [(.bool ((decide (x0 >= x1)) && (decide (x0 <= x2))))] hs22 rfl
def DP (N : Nat) (x0 : Int) : Option Bool :=
 some (bif (decide (x0 >= 65)) then ((decide (x0 <= 90)) || (bif (decide (x0 >= 48)) then ((decide (x0 <= 57)) || (x0 == 47)) else (x0 == 47))) else (bif (decide (x0 >= 48)) then ((decide (x0 <= 57)) || (x0 == 47)) else (x0 == 47)))
theorem JY : Af Tryz.prog 141 := fun _ _ => by kernel_rfl
theorem KO (N : Nat) (w0 : World) (F0 : Mem) (hF : Wp w0 F0) (x0 : Int) (r : Bool) (h : DP N x0 = some r) :
  Calls Tryz.prog 141 ([(.int .u8 x0)] : List Value).toArray w0 (AA w0 F0 fun F' v => v = (.bool r)) := by
 have hs0 := V4 hF
 refine Go 21 Tryz.func141 <| Sq (Rg [0] ?_)
 refine Vs 1 <| Nss (Rg (rG 19) ?_)
 refine V8 (fun f w => ∃ (F1 : Mem), HS w0 F0 w F1 [] /\ V2 F0 F1 /\ FI f [] [(2, (.bool (bif (decide (x0 >= 65)) then ((decide (x0 <= 90)) || (bif (decide (x0 >= 48)) then ((decide (x0 <= 57)) || (x0 == 47)) else (x0 == 47))) else (bif (decide (x0 >= 48)) then ((decide (x0 <= 57)) || (x0 == 47)) else (x0 == 47)))))]) ?_ ?_
 ·refine Vs 3 ?_
  refine V7 (decide (x0 >= 65)) (fun hb26 => ?_) (fun hb26 => ?_)
  ·refine Vgs hb26 2 ?_
   refine Pk1 hb26 <| Vs 1 <| V7 (decide (x0 <= 90)) (fun hb27 => ?_) (fun hb27 => ?_)
   ·refine Ss hb27 3 ?_
    refine Su' 2 <| Ss hb27 1 <| Pk1 hb27 <| Vs 1 <| Ss (rfl : true = true) 2 <| Pk1 (rfl : true = true) <| Vs 1 ?_
    exact VY ⟨rfl, F0, hs0, (V3 _), (fJ ⟨(congrArg Value.bool (I3 hb26 (Fw hb27 rfl))), trivial⟩)⟩
   ·refine Vgs hb27 3 ?_
    refine V7 (decide (x0 >= 48)) (fun hb28 => ?_) (fun hb28 => ?_)
    ·refine Vgs hb28 2 ?_
     refine Pg1 hb27 hb28 <| Pk0 hb27 <| Vs 1 <| V7 (decide (x0 <= 57)) (fun hb29 => ?_) (fun hb29 => ?_)
     ·refine Ss hb29 2 ?_
      refine Pk1 hb29 <| Vs 1 ?_
      exact VY ⟨rfl, F0, hs0, (V3 _), (fJ ⟨(congrArg Value.bool (I3 hb26 (Cr hb27 (I3 hb28 (Fw hb29 rfl))))), trivial⟩)⟩
     ·refine Vgs hb29 2 ?_
      refine Pk0 hb29 <| Vs 1 ?_
      exact VY ⟨rfl, F0, hs0, (V3 _), (fJ ⟨(congrArg Value.bool (I3 hb26 (Cr hb27 (I3 hb28 (Cr hb29 rfl))))), trivial⟩)⟩
    ·refine Ss hb28 2 ?_
     refine Pg0 hb27 hb28 <| Pk0 hb27 <| Vs 1 <| Vg 18 5 14 false 17 rfl (mv 0 (.int .u8 x0)) <| Vg 19 4 14 false 17 rfl (Hq (t := 5) (t' := 5) (x := (.tmp 18)) (y := (.const (.int .u8 47))) (k := .u8) (a := x0) (b := 47) rfl rfl) <| Pk0 (rfl : false = false) <| Vs 1 ?_
     exact VY ⟨rfl, F0, hs0, (V3 _), (fJ ⟨(congrArg Value.bool (I3 hb26 (Cr hb27 (K0 hb28 rfl)))), trivial⟩)⟩
  ·refine Ss hb26 2 ?_
   refine Pk0 hb26 <| Vs 1 <| Vg 10 5 6 false 9 rfl (mv 0 (.int .u8 x0)) <| Vg 11 4 6 false 9 rfl (Pf (t := 5) (t' := 5) (x := (.tmp 10)) (y := (.const (.int .u8 48))) (k := .u8) (a := x0) (b := 48) rfl rfl) <| Vg 12 4 6 false 9 rfl (mv 11 (.bool (decide (x0 >= 48)))) <| V7 (decide (x0 >= 48)) (fun hb30 => ?_) (fun hb30 => ?_)
   ·refine Vgs hb30 2 ?_
    refine Vg 15 4 6 false 9 rfl (p1 12 (.tmp 14) (.const (.bool false)) (.bool (decide (x0 <= 57))) hb30) <| Pk0 (rfl : false = false) <| Vs 1 <| V7 (decide (x0 <= 57)) (fun hb31 => ?_) (fun hb31 => ?_)
    ·refine Ss hb31 2 ?_
     refine Pk1 hb31 <| Vs 1 ?_
     exact VY ⟨rfl, F0, hs0, (V3 _), (fJ ⟨(congrArg Value.bool (K0 hb26 (I3 hb30 (Fw hb31 rfl)))), trivial⟩)⟩
    ·refine Vgs hb31 2 ?_
     refine Pk0 hb31 <| Vs 1 ?_
     exact VY ⟨rfl, F0, hs0, (V3 _), (fJ ⟨(congrArg Value.bool (K0 hb26 (I3 hb30 (Cr hb31 rfl)))), trivial⟩)⟩
   ·refine Ss hb30 2 ?_
    refine Vg 15 4 6 false 9 rfl (p0 12 (.tmp 14) (.const (.bool false)) (.bool false) hb30) <| Pk0 (rfl : false = false) <| Vs 1 <| Vg 18 5 14 false 17 rfl (mv 0 (.int .u8 x0)) <| Vg 19 4 14 false 17 rfl (Hq (t := 5) (t' := 5) (x := (.tmp 18)) (y := (.const (.int .u8 47))) (k := .u8) (a := x0) (b := 47) rfl rfl) <| Pk0 (rfl : false = false) <| Vs 1 ?_
    exact VY ⟨rfl, F0, hs0, (V3 _), (fJ ⟨(congrArg Value.bool (K0 hb26 (K0 hb30 rfl))), trivial⟩)⟩
 ·rintro f w21 ⟨F1, hs22, le23, ⟨_, rfl⟩⟩
  refine Ab <| Rt ?_
  obtain rfl := Aa h
  exact Re [(.bool (bif (decide (x0 >= 65)) then ((decide (x0 <= 90)) || (bif (decide (x0 >= 48)) then ((decide (x0 <= 57)) || (x0 == 47)) else (x0 == 47))) else (bif (decide (x0 >= 48)) then ((decide (x0 <= 57)) || (x0 == 47)) else (x0 == 47))))] hs22 rfl
def Ej (N : Nat) (x0 : Wn) : Int -> Option (A4 Bool Int) := fun s34 =>
 (bif (decide (s34 < (x0.length : Int))) then ((Kj x0 s34).bind fun c55 => ((DP N c55).bind fun r58 => (bif (!r58) then some (.ret false) else some (.next (W64 (s34 + 1)))))) else some (.done s34))
def Gn (N : Nat) (x0 : Wn) : Option Bool :=
 (bif ((decide ((x0.length : Int) < 1)) || (decide ((x0.length : Int) > 16))) then some false else ((AJ (Ej N x0) N 0).bind fun o => o.k (fun r => some r) (fun s41 => some true)))
theorem NC : Af Tryz.prog 77 := fun _ _ => by kernel_rfl
theorem On (N : Nat) (w0 : World) (F0 : Mem) (hF : Wp w0 F0) (x0 : Wn) (r : Bool) (h : Gn N x0 = some r) :
  Calls Tryz.prog 77 ([(sv x0)] : List Value).toArray w0 (AA w0 F0 fun F' v => v = (.bool r)) := by
 have hs0 := V4 hF
 refine Go 23 Tryz.func77 <| Sq (Rg [0] ?_)
 refine Vs 1 <| Nss <| Sq (Rg (rG 8) ?_)
 refine V8 (fun f w => ∃ (F1 : Mem), HS w0 F0 w F1 [] /\ V2 F0 F1 /\ FI f [] [(0, (sv x0)), (11, (.bool ((decide ((x0.length : Int) < 1)) || (decide ((x0.length : Int) > 16)))))]) ?_ ?_
 ·refine Vs 4 ?_
  refine V7 (decide ((x0.length : Int) < 1)) (fun hb27 => ?_) (fun hb27 => ?_)
  ·refine Ss hb27 3 ?_
   refine Pk1 hb27 ?_
   exact VY ⟨rfl, F0, hs0, (V3 _), (fJ ⟨rfl, (congrArg Value.bool (Fw hb27 rfl)), trivial⟩)⟩
  ·refine Vgs hb27 3 ?_
   refine Pk0 hb27 ?_
   exact VY ⟨rfl, F0, hs0, (V3 _), (fJ ⟨rfl, (congrArg Value.bool (Cr hb27 rfl)), trivial⟩)⟩
 ·rintro f w21 ⟨F1, hs22, le23, ⟨_, rfl⟩⟩
  refine Ab <| Cd h (fun hb28 h29 => ?_) (fun hb28 h30 => ?_)
  ·refine Sq (Rg [0] ?_)
   refine Vs 1 <| Nt <| Rt <| Ae ?_
   obtain rfl := Aa h29
   exact Re [(.bool false)] hs22 rfl
  ·refine Sc ?_
   refine Ab <| Sq <| Sq (Rg [0] ?_)
   refine Vs 1 <| Nt ?_
   obtain ⟨o31, ho32, h33⟩ := bind_some h30
   refine V9 (fun f w => ∃ (s41 : Int) (F3 : Mem), o31 = .done s41 /\ HS w0 F0 w F3 [] /\ V2 F1 F3 /\ FI f [] []) ?_ ?_
   ·refine Bk ?_
    refine V1 (by kernel_rfl) (fun m f w => ∃ (s34 : Int) (F2 : Mem), AJ (Ej N x0) m s34 = some o31 /\ HS w0 F0 w F2 [] /\ V2 F1 F2 /\ FI f [] [(0, (sv x0)), (3, (vi s34))]) N ⟨0, F1, ho32, hs22, (V3 _), fI⟩ ?_
    rintro m46 f w35 ⟨s34, F2, hit47, hs36, le37, ⟨_, rfl⟩⟩
    obtain ⟨m48, fl49, rfl, hb50, hnx51⟩ := AC hit47
    refine Sq <| Sq (Rg (rG 4) ?_)
    refine Vs 4 <| Nt <| Cd hb50 (fun hb52 h53 => ?_) (fun hb52 h54 => ?_)
    ·refine Sc ?_
     refine Ab <| Sq <| Bk <| Sq (Rg (rG 5) ?_)
     refine Vs 2 ?_
     obtain ⟨c55, hr56, h57⟩ := bind_some h53
     refine V 20 5 (Eg (t := 9) (x := (.tmp 18)) (y := (.tmp 19)) (a := x0) (k := .i64) (i := s34) (v := c55) rfl rfl (by kernel_rfl) hr56) ?_
     obtain ⟨r58, hr59, h60⟩ := bind_some h57
     refine Cl' JY hs36 (KO N w35 F2 hs36.pers c55 _ hr59) ?_
     rintro _ F4 w62 hs63 le64 rfl
     refine Vs 1 <| Nt <| Cd h60 (fun hb66 h67 => ?_) (fun hb66 h68 => ?_)
     ·refine Sq (Rg [0] ?_)
      refine Vs 1 <| Nt <| Rt <| Ax <| Ae <| Ae <| Ax ?_
      have hret := BZ h67 hnx51
      subst hret
      refine .inr <| Ae ?_
      obtain rfl := Aa h33
      exact Re [(.bool false)] hs63 rfl
     ·refine Sc ?_
      refine Ap <| Ab <| Rg [0, 1, 2] <| Vs 3 <| VY ?_
      have hn69 := AD h68 hnx51
      exact ⟨m48, Nat.lt_succ_self _, (W64 (s34 + 1)), F4, hn69, hs63, (le37.t le64), fI⟩
    ·refine Ex ?_
     refine Al <| Al <| Ay rfl ?_
     have ho70 := AE h54 hnx51
     exact .inl ⟨rfl, s34, F2, ho70, hs36, le37, fI⟩
   ·rintro f w42 ⟨s41, F3, rfl, hs43, le44, ⟨_, rfl⟩⟩
    have h71 := A6 h33
    refine Ab <| Sq (Rg [0] ?_)
    refine Vs 1 <| Nt <| Rt ?_
    obtain rfl := Aa h71
    exact Re [(.bool true)] hs43 rfl
def B8 (N : Nat) (x0 : Ac) (x1 : Line) : Option Bool :=
 (((BQ N x1.Num 1 65535).bind fun r37 => (bif (!r37) then some true else ((BQ N x1.Khz 1 10000000).bind fun r48 => (bif (!r48) then some true else ((BQ N x1.Mode 1 3).bind fun r59 => (bif (!r59) then some true else ((BQ N x1.Minute 0 20000).bind fun r70 => some (!r70)))))))).bind fun j30 => (bif j30 then some false else (((Gn N x1.Call).bind fun r89 => (bif r89 then ((BF N ({ Report := x0.Report, Serial := x0.Serial, Zone := x0.Zone } : Ac) ({ Report := x1.Sent.Report, Serial := x1.Sent.Serial, Zone := x1.Sent.Zone } : Ad)).bind fun r100 => (bif r100 then ((BF N ({ Report := x0.Report, Serial := x0.Serial, Zone := x0.Zone } : Ac) ({ Report := x1.Got.Report, Serial := x1.Got.Serial, Zone := x1.Got.Zone } : Ad)).bind fun r111 => some r111) else some false)) else some false)).bind fun j84 => some j84)))
theorem FT : Af Tryz.prog 22 := fun _ _ => by kernel_rfl
theorem GG (N : Nat) (w0 : World) (F0 : Mem) (hF : Wp w0 F0) (x0 : Ac) (x1 : Line) (r : Bool) (h : B8 N x0 x1 = some r) :
  Calls Tryz.prog 22 ([(.agg (Ag x0)), (.agg (BL x1))] : List Value).toArray w0 (AA w0 F0 fun F' v => v = (.bool r)) := by
 have hs0 := V4 hF
 refine Go 42 Tryz.func22 <| Sq (Rg [0, 1, 2] ?_)
 refine Bx' 23 (Ag x0) hs0 (fun b21 w22 hs23 => ?_)
 refine Bx' 34 (BL x1) hs23 (fun b24 w25 hs26 => ?_)
 refine Vs 1 <| Nss <| Sq (Rg (rG 22) ?_)
 obtain ⟨j30, hj35, h36⟩ := bind_some h
 refine V8 (fun f w => ∃ (F1 : Mem), HS w0 F0 w F1 [(sb b24 (BL x1) 34), (sb b21 (Ag x0) 23)] /\ V2 F0 F1 /\ FI f [] [(2, (pt b21 0)), (3, (pt b24 0)), (26, (.bool j30))]) ?_ ?_
 ·refine Vs 1 ?_
  refine Ld hs26.at0 ?_
  obtain ⟨r37, hr38, h39⟩ := bind_some hj35
  refine Cl' BI hs26 (BS N w25 F0 hs26.pers x1.Num 1 65535 _ hr38) ?_
  rintro _ F2 w41 hs42 le43 rfl
  refine Vs 2 <| Sp h39 (fun hb45 h46 => ?_) (fun hb45 h47 => ?_)
  ·refine Ss hb45 4 ?_
   refine Pk1 hb45 <| Vs 1 <| Ss (rfl : true = true) 4 <| Pk1 (rfl : true = true) <| Vs 1 <| Ss (rfl : true = true) 4 <| Pk1 (rfl : true = true) ?_
   obtain rfl := Aa h46
   exact VY ⟨rfl, F2, hs42, le43, fI⟩
  ·refine Vgs hb45 1 ?_
   refine Lg hb45 hs42.at0 ?_
   obtain ⟨r48, hr49, h50⟩ := bind_some h47
   refine Cg hb45 BI hs42 (BS N w41 F2 hs42.pers x1.Khz 1 10000000 _ hr49) ?_
   rintro _ F3 w52 hs53 le54 rfl
   refine Vgs hb45 1 <| Pk0 hb45 <| Vs 1 <| Sp h50 (fun hb56 h57 => ?_) (fun hb56 h58 => ?_)
   ·refine Ss hb56 4 ?_
    refine Pk1 hb56 <| Vs 1 <| Ss (rfl : true = true) 4 <| Pk1 (rfl : true = true) ?_
    obtain rfl := Aa h57
    exact VY ⟨rfl, F3, hs53, (le43.t le54), fI⟩
   ·refine Vgs hb56 1 ?_
    refine Lg hb56 hs53.at0 ?_
    obtain ⟨r59, hr60, h61⟩ := bind_some h58
    refine Cg hb56 BI hs53 (BS N w52 F3 hs53.pers x1.Mode 1 3 _ hr60) ?_
    rintro _ F4 w63 hs64 le65 rfl
    refine Vgs hb56 1 <| Pk0 hb56 <| Vs 1 <| Sp h61 (fun hb67 h68 => ?_) (fun hb67 h69 => ?_)
    ·refine Ss hb67 4 ?_
     refine Pk1 hb67 ?_
     obtain rfl := Aa h68
     exact VY ⟨rfl, F4, hs64, ((le43.t le54).trans le65), fI⟩
    ·refine Vgs hb67 1 ?_
     refine Lg hb67 hs64.at0 ?_
     obtain ⟨r70, hr71, h72⟩ := bind_some h69
     refine Cg hb67 BI hs64 (BS N w63 F4 hs64.pers x1.Minute 0 20000 _ hr71) ?_
     rintro _ F5 w74 hs75 le76 rfl
     refine Vgs hb67 1 <| Pk0 hb67 ?_
     obtain rfl := Aa h72
     exact VY ⟨rfl, F5, hs75, (((le43.t le54).trans le65).trans le76), fI⟩
 ·rintro f w27 ⟨F1, hs28, le29, ⟨_, rfl⟩⟩
  refine Ab <| Cd h36 (fun hb78 h79 => ?_) (fun hb78 h80 => ?_)
  ·refine Sq (Rg [0] ?_)
   refine Vs 1 <| Nt <| Rt <| Ae ?_
   obtain rfl := Aa h79
   exact Re [(.bool false)] hs28 rfl
  ·refine Sc ?_
   refine Ab <| Sq (Rg (rG 16) ?_)
   obtain ⟨j84, hj87, h88⟩ := bind_some h80
   refine V8 (fun f w => ∃ (F6 : Mem), HS w0 F0 w F6 [] /\ V2 F1 F6 /\ FI f [] [(4, (.bool j84))]) ?_ ?_
   ·refine Vs 1 ?_
    refine Ld hs28.at0 ?_
    obtain ⟨r89, hr90, h91⟩ := bind_some hj87
    refine Cl' NC hs28 (On N w27 F1 hs28.pers x1.Call _ hr90) ?_
    rintro _ F7 w93 hs94 le95 rfl
    refine Vs 1 <| Sp h91 (fun hb97 h98 => ?_) (fun hb97 h99 => ?_)
    ·refine Lg hb97 hs94.at1 ?_
     refine Vgs hb97 1 <| Lg hb97 hs94.at0 ?_
     obtain ⟨r100, hr101, h102⟩ := bind_some h98
     refine Cg hb97 CN hs94 (CZ N w93 F7 hs94.pers (({ Report := x0.Report, Serial := x0.Serial, Zone := x0.Zone } : Ac)) (({ Report := x1.Sent.Report, Serial := x1.Sent.Serial, Zone := x1.Sent.Zone } : Ad)) _ hr101) ?_
     rintro _ F8 w104 hs105 le106 rfl
     refine Pk1 hb97 <| Vs 1 <| Sp h102 (fun hb108 h109 => ?_) (fun hb108 h110 => ?_)
     ·refine Lg hb108 hs105.at1 ?_
      refine Vgs hb108 1 <| Lg hb108 hs105.at0 ?_
      obtain ⟨r111, hr112, h113⟩ := bind_some h109
      refine Cg hb108 CN hs105 (CZ N w104 F8 hs105.pers (({ Report := x0.Report, Serial := x0.Serial, Zone := x0.Zone } : Ac)) (({ Report := x1.Got.Report, Serial := x1.Got.Serial, Zone := x1.Got.Zone } : Ad)) _ hr112) ?_
      rintro _ F9 w115 hs116 le117 rfl
      refine Pk1 hb108 <| Vs 1 ?_
      obtain rfl := Aa h113
      exact VY ⟨rfl, F9, hs116.dr0.dr0, ((le95.t le106).trans le117), fI⟩
     ·refine Ss hb108 4 ?_
      refine Pk0 hb108 <| Vs 1 ?_
      obtain rfl := Aa h110
      exact VY ⟨rfl, F8, hs105.dr0.dr0, (le95.t le106), fI⟩
    ·refine Ss hb97 4 ?_
     refine Pk0 hb97 <| Vs 1 <| Ss (rfl : false = false) 4 <| Pk0 (rfl : false = false) <| Vs 1 ?_
     obtain rfl := Aa h99
     exact VY ⟨rfl, F7, hs94.dr0.dr0, le95, fI⟩
   ·rintro f w81 ⟨F6, hs82, le83, ⟨_, rfl⟩⟩
    refine Ab <| Rt ?_
    obtain rfl := Aa h88
    exact Re [(.bool j84)] hs82 rfl
def EU (N : Nat) (x0 : (List Int)) : Int -> Option (A4 Bool Int) := fun s24 =>
 (bif (decide (s24 < (x0.length : Int))) then ((idx x0 s24).bind fun x48 => (((AV N x48 1 20000).bind fun r74 => (bif (!r74) then some true else (bif (decide (s24 > 0)) then ((idx x0 (W64 (s24 - 1))).bind fun x88 => some (decide (x48 <= x88))) else some false))).bind fun j65 => (bif j65 then some (.ret false) else some (.next (W64 (s24 + 1)))))) else some (.done s24))
def EL (N : Nat) (x0 : (List Int)) : Option Bool :=
 ((AJ (EU N x0) N 0).bind fun o => o.k (fun r => some r) (fun s33 => some (decide ((x0.length : Int) <= 16))))
theorem GN : Af Tryz.prog 80 := fun _ _ => by kernel_rfl
theorem HG (N : Nat) (w0 : World) (F0 : Mem) (hF : Wp w0 F0) (x0 : (List Int)) (a0_0 : Wo) (n0_0 : Nat) (hb0_0 : LC x0.length n0_0) (hs0_0 : SlA AM F0 a0_0 x0) (r : Bool) (h : EL N x0 = some r) :
  Calls Tryz.prog 80 ([(.slice a0_0 x0.length n0_0)] : List Value).toArray w0 (AA w0 F0 fun F' v => v = (.bool r)) := by
 have hs0 := V4 hF
 refine Go 32 Tryz.func80 <| Sq (Rg [0] ?_)
 refine Vs 1 <| Nss <| Sq (Rg [0, 1, 2] ?_)
 refine Vs 3 <| Nt ?_
 obtain ⟨o21, ho22, h23⟩ := bind_some h
 refine V9 (fun f w => ∃ (s33 : Int) (F2 : Mem), o21 = .done s33 /\ HS w0 F0 w F2 [] /\ V2 F0 F2 /\ FI f [] [(0, (.slice a0_0 x0.length n0_0))]) ?_ ?_
 ·refine Bk ?_
  refine V1 (by kernel_rfl) (fun m f w => ∃ (s24 : Int) (F1 : Mem), AJ (EU N x0) m s24 = some o21 /\ HS w0 F0 w F1 [] /\ V2 F0 F1 /\ FI f [] [(0, (.slice a0_0 x0.length n0_0)), (5, (.slice a0_0 x0.length n0_0)), (6, (vi (x0.length : Int))), (7, (vi s24))]) N ⟨0, F0, ho22, hs0, (V3 _), fI⟩ ?_
  rintro m39 f w25 ⟨s24, F1, hit40, hs26, le27, ⟨_, rfl⟩⟩
  obtain ⟨m41, fl42, rfl, hb43, hnx44⟩ := AC hit40
  refine Sq (Rg [0] ?_)
  refine Vs 1 <| Nss <| Cd hb43 (fun hb45 h46 => ?_) (fun hb45 h47 => ?_)
  ·refine Sc ?_
   refine Ab <| Sq <| Bk <| Sq (Rg (rG 5) ?_)
   refine Vs 1 ?_
   obtain ⟨x48, hx49, h51⟩ := bind_some h46
   obtain ⟨hi50, hx49'⟩ := Aj hx49
   obtain ⟨b52, o53, C54, E55, fz56, rfl, hF58, hE59⟩ := Wa (V5 hs0_0 le27) hx49'
   have hc61 := hE59 _ _ hx49'
   refine Ix hi50 <| Lx 0 (hs26.pers _ _ hF58) hc61 <| Vs 2 <| Nss (Rg (rG 16) ?_)
   obtain ⟨j65, hj72, h73⟩ := bind_some h51
   refine V8 (fun f w => ∃ (F3 : Mem), HS w0 F0 w F3 [] /\ V2 F1 F3 /\ FI f [] [(0, (.slice (some ⟨b52, o53, none⟩) x0.length n0_0)), (5, (.slice (some ⟨b52, o53, none⟩) x0.length n0_0)), (6, (vi (x0.length : Int))), (7, (vi s24)), (27, (.bool j65))]) ?_ ?_
   ·refine Vs 1 ?_
    obtain ⟨r74, hr75, h76⟩ := bind_some hj72
    refine Cl' AN hs26 (AQ N w25 F1 hs26.pers x48 1 20000 _ hr75) ?_
    rintro _ F4 w78 hs79 le80 rfl
    refine Vs 2 <| Sp h76 (fun hb82 h83 => ?_) (fun hb82 h84 => ?_)
    ·refine Ss hb82 3 ?_
     refine Su' 7 <| Ss hb82 1 <| Pk1 hb82 ?_
     obtain rfl := Aa h83
     exact VY ⟨rfl, F4, hs79, le80, fI⟩
    ·refine Vgs hb82 3 ?_
     refine Sp h84 (fun hb85 h86 => ?_) (fun hb85 h87 => ?_)
     ·refine Vgs hb85 4 ?_
      obtain ⟨x88, hx89, h91⟩ := bind_some h86
      obtain ⟨hi90, hx89'⟩ := Aj hx89
      have hc93 := hE59 _ _ hx89'
      refine Ixg hb85 hi90 <| Lxg hb85 0 (hs79.pers _ _ (le80 _ _ hF58)) hc93 <| Vgs hb85 1 <| Pg1 hb82 hb85 <| Pk0 hb82 ?_
      obtain rfl := Aa h91
      exact VY ⟨rfl, F4, hs79, le80, fI⟩
     ·refine Ss hb85 7 ?_
      refine Pg0 hb82 hb85 <| Pk0 hb82 ?_
      obtain rfl := Aa h87
      exact VY ⟨rfl, F4, hs79, le80, fI⟩
   ·rintro f w62 ⟨F3, hs63, le64, ⟨_, rfl⟩⟩
    refine Ab <| Cd h73 (fun hb94 h95 => ?_) (fun hb94 h96 => ?_)
    ·refine Sq (Rg [0] ?_)
     refine Vs 1 <| Nt <| Rt <| Ax <| Ae <| Ae <| Ax ?_
     have hret := BZ h95 hnx44
     subst hret
     refine .inr <| Ae ?_
     obtain rfl := Aa h23
     exact Re [(.bool false)] hs63 rfl
    ·refine Sc ?_
     refine Ap <| Ab <| Rg [0, 1] <| Vs 2 <| VY ?_
     have hn97 := AD h96 hnx44
     exact ⟨m41, Nat.lt_succ_self _, (W64 (s24 + 1)), F3, hn97, hs63, (le27.t le64), fI⟩
  ·refine Ex ?_
   refine Al <| Al <| Ay rfl ?_
   have ho98 := AE h47 hnx44
   exact .inl ⟨rfl, s24, F1, ho98, hs26, le27, fI⟩
 ·rintro f w34 ⟨s33, F2, rfl, hs35, le36, ⟨_, rfl⟩⟩
  have h99 := A6 h23
  refine Ab <| Sq (Rg (rG 4) ?_)
  refine Vs 4 <| Nt <| Rt ?_
  obtain rfl := Aa h99
  exact Re [(.bool (decide ((x0.length : Int) <= 16)))] hs35 rfl
def DL (N : Nat) (x0 : Ac) (x1 : Log) (j41 : Bool) : Int -> Option (A4 (Int × Int) Int) := fun s106 =>
 (bif (decide (s106 < (x1.Lines.length : Int))) then ((idx x1.Lines s106).bind fun x130 => (((Cw N ({ Report := x0.Report, Serial := x0.Serial, Zone := x0.Zone } : Ac) x130).bind fun r165 => (bif (!r165) then some true else (bif (decide (s106 > 0)) then ((idx x1.Lines (W64 (s106 - 1))).bind fun x179 => (bif (decide (x130.Num <= x179.Num)) then some true else ((idx x1.Lines (W64 (s106 - 1))).bind fun x188 => some (decide (x130.Minute < x188.Minute))))) else some false))).bind fun j154 => (bif j154 then some (.ret (21, (W64 (s106 + 1)))) else some (.next (W64 (s106 + 1)))))) else some (.done s106))
def D0 (N : Nat) (x0 : Ac) (x1 : Log) : Option (Int × Int) :=
 (bif ((decide ((x1.Jumps.length : Int) > 16)) || (decide ((x1.Lines.length : Int) > 400))) then some (2, 0) else (((DO N x1.Call).bind fun r48 => (bif (!r48) then some true else ((AV N x1.Category 1 9).bind fun r59 => (bif (!r59) then some true else ((AV N x1.Power 1 9999).bind fun r70 => (bif (!r70) then some true else ((AV N x1.Claimed 0 1000000).bind fun r81 => (bif (!r81) then some true else ((EL N x1.Jumps).bind fun r92 => some (!r92)))))))))).bind fun j41 => (bif j41 then some (21, 0) else ((AJ (DL N x0 x1 j41) N 0).bind fun o => o.k (fun r => some r) (fun s116 => some (0, 0))))))
theorem GP : Af Tryz.prog 23 := fun _ _ => by kernel_rfl
theorem HH (N : Nat) (w0 : World) (F0 : Mem) (hF : Wp w0 F0) (hG : Br F0) (x0 : Ac) (x1 : Log) (a1_4 : Wo) (n1_4 : Nat) (hb1_4 : LC x1.Jumps.length n1_4) (hs1_4 : SlA AM F0 a1_4 x1.Jumps) (a1_5 : Wo) (n1_5 : Nat) (hb1_5 : LC x1.Lines.length n1_5) (hs1_5 : SlA AL F0 a1_5 x1.Lines) (r : (Int × Int)) (h : D0 N x0 x1 = some r) :
  Calls Tryz.prog 23 ([(.agg (Ag x0)), (.agg (AF x1 a1_4 n1_4 a1_5 n1_5))] : List Value).toArray w0 (AA w0 F0 fun F' v => v = (.tuple #[(vi r.1), (vi r.2)])) := by
 have hs0 := V4 hF
 refine Go 89 Tryz.func23 <| Sq (Rg (rG 4) ?_)
 refine Bx' 23 (Ag x0) hs0 (fun b21 w22 hs23 => ?_)
 refine Bx' 27 (AF x1 a1_4 n1_4 a1_5 n1_5) hs23 (fun b24 w25 hs26 => ?_)
 refine Vs 2 <| Nss <| Sq (Rg (rG 10) ?_)
 refine V8 (fun f w => ∃ (F1 : Mem), HS w0 F0 w F1 [(sb b24 (AF x1 a1_4 n1_4 a1_5 n1_5) 27), (sb b21 (Ag x0) 23)] /\ V2 F0 F1 /\ FI f [] [(2, (pt b21 0)), (3, (pt b24 0)), (17, (.bool ((decide ((x1.Jumps.length : Int) > 16)) || (decide ((x1.Lines.length : Int) > 400)))))]) ?_ ?_
 ·refine Vs 1 ?_
  refine Ld hs26.at0 <| Vs 3 <| V7 (decide ((x1.Jumps.length : Int) > 16)) (fun hb34 => ?_) (fun hb34 => ?_)
  ·refine Ss hb34 4 ?_
   refine Pk1 hb34 ?_
   exact VY ⟨rfl, F0, hs26, (V3 _), (fJ ⟨rfl, rfl, (congrArg Value.bool (Fw hb34 rfl)), trivial⟩)⟩
  ·refine Vgs hb34 1 ?_
   refine Lg hb34 hs26.at0 <| Vgs hb34 2 <| Pk0 hb34 ?_
   exact VY ⟨rfl, F0, hs26, (V3 _), (fJ ⟨rfl, rfl, (congrArg Value.bool (Cr hb34 rfl)), trivial⟩)⟩
 ·rintro f w27 ⟨F1, hs28, le29, ⟨_, rfl⟩⟩
  refine Ab <| Cd h (fun hb35 h36 => ?_) (fun hb35 h37 => ?_)
  ·refine Sq (Rg [0, 1] ?_)
   refine Vs 2 <| Nt <| Rt <| Ae ?_
   obtain rfl := Aa h36
   exact Re [(vi 2), (vi 0)] hs28 rfl
  ·refine Sc ?_
   refine Ab <| Sq <| Sq (Rg (rG 28) ?_)
   obtain ⟨j41, hj46, h47⟩ := bind_some h37
   refine V8 (fun f w => ∃ (F2 : Mem), HS w0 F0 w F2 [(sb b24 (AF x1 a1_4 n1_4 a1_5 n1_5) 27), (sb b21 (Ag x0) 23)] /\ V2 F1 F2 /\ FI f [] [(2, (pt b21 0)), (3, (pt b24 0)), (45, (.bool j41))]) ?_ ?_
   ·refine Vs 1 ?_
    refine Ld hs28.at0 ?_
    obtain ⟨r48, hr49, h50⟩ := bind_some hj46
    refine Cl' EN hs28 (Fl N w27 F1 hs28.pers (hG.mono le29) x1.Call _ hr49) ?_
    rintro _ F3 w52 hs53 le54 rfl
    refine Vs 2 <| Sp h50 (fun hb56 h57 => ?_) (fun hb56 h58 => ?_)
    ·refine Ss hb56 4 ?_
     refine Pk1 hb56 <| Vs 1 <| Ss (rfl : true = true) 4 <| Pk1 (rfl : true = true) <| Vs 1 <| Ss (rfl : true = true) 4 <| Pk1 (rfl : true = true) <| Vs 1 <| Ss (rfl : true = true) 4 <| Pk1 (rfl : true = true) ?_
     obtain rfl := Aa h57
     exact VY ⟨rfl, F3, hs53, le54, fI⟩
    ·refine Vgs hb56 1 ?_
     refine Lg hb56 hs53.at0 ?_
     obtain ⟨r59, hr60, h61⟩ := bind_some h58
     refine Cg hb56 AN hs53 (AQ N w52 F3 hs53.pers x1.Category 1 9 _ hr60) ?_
     rintro _ F4 w63 hs64 le65 rfl
     refine Vgs hb56 1 <| Pk0 hb56 <| Vs 1 <| Sp h61 (fun hb67 h68 => ?_) (fun hb67 h69 => ?_)
     ·refine Ss hb67 4 ?_
      refine Pk1 hb67 <| Vs 1 <| Ss (rfl : true = true) 4 <| Pk1 (rfl : true = true) <| Vs 1 <| Ss (rfl : true = true) 4 <| Pk1 (rfl : true = true) ?_
      obtain rfl := Aa h68
      exact VY ⟨rfl, F4, hs64, (le54.t le65), fI⟩
     ·refine Vgs hb67 1 ?_
      refine Lg hb67 hs64.at0 ?_
      obtain ⟨r70, hr71, h72⟩ := bind_some h69
      refine Cg hb67 AN hs64 (AQ N w63 F4 hs64.pers x1.Power 1 9999 _ hr71) ?_
      rintro _ F5 w74 hs75 le76 rfl
      refine Vgs hb67 1 <| Pk0 hb67 <| Vs 1 <| Sp h72 (fun hb78 h79 => ?_) (fun hb78 h80 => ?_)
      ·refine Ss hb78 4 ?_
       refine Pk1 hb78 <| Vs 1 <| Ss (rfl : true = true) 4 <| Pk1 (rfl : true = true) ?_
       obtain rfl := Aa h79
       exact VY ⟨rfl, F5, hs75, ((le54.t le65).trans le76), fI⟩
      ·refine Vgs hb78 1 ?_
       refine Lg hb78 hs75.at0 ?_
       obtain ⟨r81, hr82, h83⟩ := bind_some h80
       refine Cg hb78 AN hs75 (AQ N w74 F5 hs75.pers x1.Claimed 0 1000000 _ hr82) ?_
       rintro _ F6 w85 hs86 le87 rfl
       refine Vgs hb78 1 <| Pk0 hb78 <| Vs 1 <| Sp h83 (fun hb89 h90 => ?_) (fun hb89 h91 => ?_)
       ·refine Ss hb89 4 ?_
        refine Pk1 hb89 ?_
        obtain rfl := Aa h90
        exact VY ⟨rfl, F6, hs86, (((le54.t le65).trans le76).trans le87), fI⟩
       ·refine Vgs hb89 1 ?_
        refine Lg hb89 hs86.at0 ?_
        obtain ⟨r92, hr93, h94⟩ := bind_some h91
        refine Cg hb89 GN hs86 (HG N w85 F6 hs86.pers x1.Jumps a1_4 n1_4 hb1_4 (V5 hs1_4 ((((le29.t le54).trans le65).trans le76).trans le87)) _ hr93) ?_
        rintro _ F7 w96 hs97 le98 rfl
        refine Vgs hb89 1 <| Pk0 hb89 ?_
        obtain rfl := Aa h94
        exact VY ⟨rfl, F7, hs97, ((((le54.t le65).trans le76).trans le87).trans le98), fI⟩
   ·rintro f w38 ⟨F2, hs39, le40, ⟨_, rfl⟩⟩
    refine Ab <| Cd h47 (fun hb100 h101 => ?_) (fun hb100 h102 => ?_)
    ·refine Sq (Rg [0, 1] ?_)
     refine Vs 2 <| Nt <| Rt <| Ae ?_
     obtain rfl := Aa h101
     exact Re [(vi 21), (vi 0)] hs39 rfl
    ·refine Sc ?_
     refine Ab <| Sq <| Sq (Rg (rG 4) ?_)
     refine Vs 1 <| Ld hs39.at0 <| Vs 2 <| Nt ?_
     obtain ⟨o103, ho104, h105⟩ := bind_some h102
     refine V9 (fun f w => ∃ (s116 : Int) (F9 : Mem), o103 = .done s116 /\ HS w0 F0 w F9 [] /\ V2 F2 F9 /\ FI f [] []) ?_ ?_
     ·refine Bk ?_
      refine V1 (by kernel_rfl) (fun m f w => ∃ (s106 : Int) (F8 : Mem), AJ (DL N x0 x1 j41) m s106 = some o103 /\ HS w0 F0 w F8 [(sb b24 (AF x1 a1_4 n1_4 a1_5 n1_5) 27), (sb b21 (Ag x0) 23)] /\ V2 F2 F8 /\ FI f [] [(2, (pt b21 0)), (3, (pt b24 0)), (47, (.slice a1_5 x1.Lines.length n1_5)), (48, (vi (x1.Lines.length : Int))), (49, (vi s106))]) N ⟨0, F2, ho104, hs39, (V3 _), fI⟩ ?_
      rintro m121 f w107 ⟨s106, F8, hit122, hs108, le109, ⟨_, rfl⟩⟩
      obtain ⟨m123, fl124, rfl, hb125, hnx126⟩ := AC hit122
      refine Sq (Rg [0] ?_)
      refine Vs 1 <| Nss <| Cd hb125 (fun hb127 h128 => ?_) (fun hb127 h129 => ?_)
      ·refine Sc ?_
       refine Ab <| Sq <| Bk <| Sq (Rg (rG 6) ?_)
       refine Vs 1 ?_
       obtain ⟨x130, hx131, h133⟩ := bind_some h128
       obtain ⟨hi132, hx131'⟩ := Aj hx131
       obtain ⟨b134, o135, C136, E137, fz138, rfl, hF140, hE141⟩ := Wa (V5 hs1_5 ((le29.t le40).trans le109)) hx131'
       have hc143 := hE141 _ _ hx131'
       refine Ix hi132 <| Lx 0 (hs108.pers _ _ hF140) hc143 <| Al' 34 #[(vi 0), (vi 0), (vi 0), (vi 0), (sv (([] : Wn))), (vi 0), (vi 0), (vi 0), (vi 0), (vi 0), (vi 0)] hs108 (fun b144 w145 hs146 => ?_)
       refine Vs 1 <| St0 (BL x130) hs146 (fun w147 hs148 => ?_)
       refine Nss ?_
       obtain ⟨j154, hj163, h164⟩ := bind_some h133
       refine RD 32 32 [(sb b144 (BL x130) 34), (sb b24 (AF x1 a1_4 n1_4 (some ⟨b134, o135, none⟩) n1_5) 27), (sb b21 (Ag x0) 23)] [] hs148 (fun f w => ∃ (F10 : Mem), HS w0 F0 w F10 [(sb b24 (AF x1 a1_4 n1_4 (some ⟨b134, o135, none⟩) n1_5) 27), (sb b21 (Ag x0) 23)] /\ V2 F8 F10 /\ FI f [] [(2, (pt b21 0)), (3, (pt b24 0)), (6, (vi s106)), (47, (.slice (some ⟨b134, o135, none⟩) x1.Lines.length n1_5)), (48, (vi (x1.Lines.length : Int))), (49, (vi s106)), (85, (.bool j154))]) (fun wd149 hw150 => ?_) ?_
       ·refine Dl 0 (fun _ hq => (hq.1.2 2 _ _ rfl)) ?_
        refine Dl 1 (fun _ hq => (hq.1.2 0 _ _ rfl)) <| D1 2 ?_
        obtain ⟨r165, hr166, h167⟩ := bind_some hj163
        refine DCl GD hw150 (Hh N wd149 F8 hw150.pers (({ Report := x0.Report, Serial := x0.Serial, Zone := x0.Zone } : Ac)) x130 _ hr166) ?_
        rintro _ F11 w169 hs170 le171 rfl
        refine Dvl [3, 4] (tf 5 27) <| Sd h167 (fun hb173 h174 => ?_) (fun hb173 h175 => ?_)
        ·refine Dkl [(5, 59), (6, 60), (7, 61)] 4 false 58 hb173 (tf 8 24) ?_
         refine Dul [(8, 62), (9, 63), (10, 64), (11, 65), (12, 66), (13, 67)] 7 true 61 (tf 14 18) <| Dul [(14, 68), (15, 69), (16, 70), (17, 71), (18, 72)] 7 true 61 (tf 19 13) <| Dul [(19, 73), (20, 74), (21, 75), (22, 76), (23, 77), (24, 78)] 18 false 72 (tf 25 7) <| Dul [(25, 79), (26, 80), (27, 81), (28, 82)] 18 false 72 (tf 29 3) <| Dul [(29, 83)] 7 true 61 (tf 30 2) <| Dkl [(30, 84)] 4 false 58 hb173 (tf 31 1) <| Dtl 31 85 4 _ (tf 32 0) (fun _ hq => p1 58 (.const (.bool true)) (.tmp 84) (.bool true) hb173) ?_
         obtain rfl := Aa h174
         exact Wf (by kernel_rfl) ⟨F11, hs170.dr0, le171, fI⟩
        ·refine Dgl 5 59 3 _ (tf 6 26) 4 false 58 hb173 (fun _ hq => mv 6 (vi s106)) ?_
         refine Dgl 6 60 4 (.bool (decide (s106 > 0))) (tf 7 25) 4 false 58 hb173 (fun _ hq => Kl (t := 3) (t' := 3) (x := (.tmp 59)) (y := (.const (vi 0))) (k := .i64) (a := s106) (b := 0) rfl rfl) <| Dgl 7 61 4 _ (tf 8 24) 4 false 58 hb173 (fun _ hq => mv 60 (.bool (decide (s106 > 0)))) <| Sd h175 (fun hb176 h177 => ?_) (fun hb176 h178 => ?_)
         ·refine Dgl 8 62 0 (pt b144 0) (tf 9 23) 7 true 61 hb176 (fun _ hq => fa 34 7 0 0 1 b144 0 0) ?_
          refine Dgl 9 63 3 _ (tf 10 22) 7 true 61 hb176 (fun _ hq => ld 3 62 b144 0 false 1 (vi x130.Num) (hq.1.2 0 _ _ rfl)) <| Dgl 10 64 0 (pt b24 5) (tf 11 21) 7 true 61 hb176 (fun _ hq => fa 27 3 5 5 1 b24 0 5) <| Dgl 11 65 25 _ (tf 12 20) 7 true 61 hb176 (fun _ hq => ld 25 64 b24 5 false 1 (.slice (some ⟨b134, o135, none⟩) x1.Lines.length n1_5) (hq.1.2 1 _ _ rfl)) <| Dgl 12 66 3 _ (tf 13 19) 7 true 61 hb176 (fun _ hq => mv 6 (vi s106)) <| Dgl 13 67 3 (vi (W64 (s106 - 1))) (tf 14 18) 7 true 61 hb176 (fun _ hq => Gl (t := 3) (t' := 3) (x := (.tmp 66)) (y := (.const (vi 1))) (k := .i64) (a := s106) (b := 1) rfl rfl) ?_
          obtain ⟨x179, hx180, h182⟩ := bind_some h177
          obtain ⟨hi181, hx180'⟩ := Aj hx180
          have hc184 := hE141 _ _ hx180'
          refine Dgl 14 68 0 (.pointer (some ⟨b134, (o135 + ((W64 (s106 - 1)) : Int).toNat * 11), none⟩)) (tf 15 17) 7 true 61 hb176 (fun _ hq => ix 25 65 67 b134 o135 34 11 96 hi181) <| Dgl 15 69 0 (.pointer (some ⟨b134, (o135 + ((W64 (s106 - 1)) : Int).toNat * 11), none⟩)) (tf 16 16) 7 true 61 hb176 (fun _ hq => fa 34 68 0 0 1 b134 (o135 + ((W64 (s106 - 1)) : Int).toNat * 11) (o135 + ((W64 (s106 - 1)) : Int).toNat * 11)) <| Dgl 16 70 3 _ (tf 17 15) 7 true 61 hb176 (fun _ hq => lx 3 69 0 11 false 1 (vi x179.Num) (hq.1.1 _ _ hF140) hc184) <| Dgl 17 71 4 (.bool (decide (x130.Num <= x179.Num))) (tf 18 14) 7 true 61 hb176 (fun _ hq => I7 (t := 3) (t' := 3) (x := (.tmp 63)) (y := (.tmp 70)) (k := .i64) (a := x130.Num) (b := x179.Num) rfl rfl) <| Dgl 18 72 4 _ (tf 19 13) 7 true 61 hb176 (fun _ hq => mv 71 (.bool (decide (x130.Num <= x179.Num)))) <| Sd h182 (fun hb185 h186 => ?_) (fun hb185 h187 => ?_)
          ·refine Dkl [(19, 73), (20, 74), (21, 75), (22, 76), (23, 77), (24, 78)] 18 false 72 hb185 (tf 25 7) ?_
           refine Dkl [(25, 79), (26, 80), (27, 81), (28, 82)] 18 false 72 hb185 (tf 29 3) <| Dgl 29 83 4 _ (tf 30 2) 7 true 61 hb176 (fun _ hq => p1 72 (.const (.bool true)) (.tmp 82) (.bool true) hb185) <| Dgl 30 84 4 _ (tf 31 1) 4 false 58 hb173 (fun _ hq => p1 61 (.tmp 83) (.const (.bool false)) (.bool true) hb176) <| Dtl 31 85 4 _ (tf 32 0) (fun _ hq => p0 58 (.const (.bool true)) (.tmp 84) (.bool true) hb173) ?_
           obtain rfl := Aa h186
           exact Wf (by kernel_rfl) ⟨F11, hs170.dr0, le171, fI⟩
          ·refine Dgl 19 73 0 (pt b144 3) (tf 20 12) 18 false 72 hb185 (fun _ hq => fa 34 7 3 3 1 b144 0 3) ?_
           refine Dgl 20 74 3 _ (tf 21 11) 18 false 72 hb185 (fun _ hq => ld 3 73 b144 3 false 1 (vi x130.Minute) (hq.1.2 0 _ _ rfl)) <| Dgl 21 75 0 (pt b24 5) (tf 22 10) 18 false 72 hb185 (fun _ hq => fa 27 3 5 5 1 b24 0 5) <| Dgl 22 76 25 _ (tf 23 9) 18 false 72 hb185 (fun _ hq => ld 25 75 b24 5 false 1 (.slice (some ⟨b134, o135, none⟩) x1.Lines.length n1_5) (hq.1.2 1 _ _ rfl)) <| Dgl 23 77 3 _ (tf 24 8) 18 false 72 hb185 (fun _ hq => mv 6 (vi s106)) <| Dgl 24 78 3 (vi (W64 (s106 - 1))) (tf 25 7) 18 false 72 hb185 (fun _ hq => Gl (t := 3) (t' := 3) (x := (.tmp 77)) (y := (.const (vi 1))) (k := .i64) (a := s106) (b := 1) rfl rfl) ?_
           obtain ⟨x188, hx189, h191⟩ := bind_some h187
           obtain ⟨hi190, hx189'⟩ := Aj hx189
           have hc193 := hE141 _ _ hx189'
           refine Dgl 25 79 0 (.pointer (some ⟨b134, (o135 + ((W64 (s106 - 1)) : Int).toNat * 11), none⟩)) (tf 26 6) 18 false 72 hb185 (fun _ hq => ix 25 76 78 b134 o135 34 11 96 hi190) <| Dgl 26 80 0 (.pointer (some ⟨b134, ((o135 + ((W64 (s106 - 1)) : Int).toNat * 11) + 3), none⟩)) (tf 27 5) 18 false 72 hb185 (fun _ hq => fa 34 79 3 3 1 b134 (o135 + ((W64 (s106 - 1)) : Int).toNat * 11) ((o135 + ((W64 (s106 - 1)) : Int).toNat * 11) + 3)) <| Dgl 27 81 3 _ (tf 28 4) 18 false 72 hb185 (fun _ hq => lx 3 80 3 11 false 1 (vi x188.Minute) (hq.1.1 _ _ hF140) hc193) <| Dgl 28 82 4 (.bool (decide (x130.Minute < x188.Minute))) (tf 29 3) 18 false 72 hb185 (fun _ hq => Hp (t := 3) (t' := 3) (x := (.tmp 74)) (y := (.tmp 81)) (k := .i64) (a := x130.Minute) (b := x188.Minute) rfl rfl) <| Dgl 29 83 4 _ (tf 30 2) 7 true 61 hb176 (fun _ hq => p0 72 (.const (.bool true)) (.tmp 82) (.bool (decide (x130.Minute < x188.Minute))) hb185) <| Dgl 30 84 4 _ (tf 31 1) 4 false 58 hb173 (fun _ hq => p1 61 (.tmp 83) (.const (.bool false)) (.bool (decide (x130.Minute < x188.Minute))) hb176) <| Dtl 31 85 4 _ (tf 32 0) (fun _ hq => p0 58 (.const (.bool true)) (.tmp 84) (.bool (decide (x130.Minute < x188.Minute))) hb173) ?_
           obtain rfl := Aa h191
           exact Wf (by kernel_rfl) ⟨F11, hs170.dr0, le171, fI⟩
         ·refine Dkl [(8, 62), (9, 63), (10, 64), (11, 65), (12, 66), (13, 67)] 7 true 61 hb176 (tf 14 18) ?_
          refine Dkl [(14, 68), (15, 69), (16, 70), (17, 71), (18, 72)] 7 true 61 hb176 (tf 19 13) <| Dul [(19, 73), (20, 74), (21, 75), (22, 76), (23, 77), (24, 78)] 18 false 72 (tf 25 7) <| Dul [(25, 79), (26, 80), (27, 81), (28, 82)] 18 false 72 (tf 29 3) <| Dkl [(29, 83)] 7 true 61 hb176 (tf 30 2) <| Dgl 30 84 4 _ (tf 31 1) 4 false 58 hb173 (fun _ hq => p0 61 (.tmp 83) (.const (.bool false)) (.bool false) hb176) <| Dtl 31 85 4 _ (tf 32 0) (fun _ hq => p0 58 (.const (.bool true)) (.tmp 84) (.bool false) hb173) ?_
          obtain rfl := Aa h178
          exact Wf (by kernel_rfl) ⟨F11, hs170.dr0, le171, fI⟩
       ·rintro f w151 ⟨F10, hs152, le153, ⟨_, rfl⟩⟩
        refine Ab <| Cd h164 (fun hb194 h195 => ?_) (fun hb194 h196 => ?_)
        ·refine Sq (Rg (rG 4) ?_)
         refine Vs 4 <| Nt <| Rt <| Ax <| Ae <| Ae <| Ax ?_
         have hret := BZ h195 hnx126
         subst hret
         refine .inr <| Ae ?_
         obtain rfl := Aa h105
         exact Re [(vi 21), (vi (W64 (s106 + 1)))] hs152 rfl
        ·refine Sc ?_
         refine Ap <| Ab <| Rg [0, 1] <| Vs 2 <| VY ?_
         have hn197 := AD h196 hnx126
         exact ⟨m123, Nat.lt_succ_self _, (W64 (s106 + 1)), F10, hn197, hs152, (le109.t le153), fI⟩
      ·refine Ex ?_
       refine Al <| Al <| Ay rfl ?_
       have ho198 := AE h129 hnx126
       exact .inl ⟨rfl, s106, F8, ho198, hs108.dr0.dr0, le109, fI⟩
     ·rintro f w117 ⟨s116, F9, rfl, hs118, le119, ⟨_, rfl⟩⟩
      have h199 := A6 h105
      refine Ab <| Sq (Rg [0, 1] ?_)
      refine Vs 2 <| Nt <| Rt ?_
      obtain rfl := Aa h199
      exact Re [(vi 0), (vi 0)] hs118 rfl
def Ei (N : Nat) (x0 : (List Int)) : Int -> Option (A4 Bool Int) := fun s24 =>
 (bif (decide (s24 < (x0.length : Int))) then (((idx x0 s24).bind fun x58 => ((BQ N x58 1 20000).bind fun r72 => (bif (!r72) then some true else (bif (decide (s24 > 0)) then ((idx x0 s24).bind fun x86 => ((idx x0 (W64 (s24 - 1))).bind fun x92 => some (decide (x86 <= x92)))) else some false)))).bind fun j51 => (bif j51 then some (.ret false) else some (.next (W64 (s24 + 1))))) else some (.done s24))
def Gm (N : Nat) (x0 : (List Int)) : Option Bool :=
 ((AJ (Ei N x0) N 0).bind fun o => o.k (fun r => some r) (fun s31 => some (decide ((x0.length : Int) <= 16))))
theorem NB : Af Tryz.prog 145 := fun _ _ => by kernel_rfl
theorem Om (N : Nat) (w0 : World) (F0 : Mem) (hF : Wp w0 F0) (x0 : (List Int)) (a0_0 : Wo) (n0_0 : Nat) (hb0_0 : LC x0.length n0_0) (hs0_0 : SlA AM F0 a0_0 x0) (r : Bool) (h : Gm N x0 = some r) :
  Calls Tryz.prog 145 ([(.slice a0_0 x0.length n0_0)] : List Value).toArray w0 (AA w0 F0 fun F' v => v = (.bool r)) := by
 have hs0 := V4 hF
 refine Go 35 Tryz.func145 <| Sq (Rg [0] ?_)
 refine Vs 1 <| Nss <| Sq (Rg [0] ?_)
 refine Vs 1 <| Nt ?_
 obtain ⟨o21, ho22, h23⟩ := bind_some h
 refine V9 (fun f w => ∃ (s31 : Int) (F2 : Mem), o21 = .done s31 /\ HS w0 F0 w F2 [] /\ V2 F0 F2 /\ FI f [] [(0, (.slice a0_0 x0.length n0_0))]) ?_ ?_
 ·refine Bk ?_
  refine V1 (by kernel_rfl) (fun m f w => ∃ (s24 : Int) (F1 : Mem), AJ (Ei N x0) m s24 = some o21 /\ HS w0 F0 w F1 [] /\ V2 F0 F1 /\ FI f [] [(0, (.slice a0_0 x0.length n0_0)), (3, (vi s24))]) N ⟨0, F0, ho22, hs0, (V3 _), fI⟩ ?_
  rintro m37 f w25 ⟨s24, F1, hit38, hs26, le27, ⟨_, rfl⟩⟩
  obtain ⟨m39, fl40, rfl, hb41, hnx42⟩ := AC hit38
  refine Sq <| Sq (Rg (rG 4) ?_)
  refine Vs 4 <| Nt <| Cd hb41 (fun hb43 h44 => ?_) (fun hb43 h45 => ?_)
  ·refine Sc ?_
   refine Ab <| Sq <| Bk <| Sq ?_
   obtain ⟨j51, hj56, h57⟩ := bind_some h44
   refine RD 22 22 [] [] hs26 (fun f w => ∃ (F3 : Mem), HS w0 F0 w F3 [] /\ V2 F1 F3 /\ FI f [] [(0, (.slice a0_0 x0.length n0_0)), (3, (vi s24)), (31, (.bool j51))]) (fun wd46 hw47 => ?_) ?_
   ·refine Dvl [0, 1] (tf 2 20) ?_
    obtain ⟨x58, hx59, h61⟩ := bind_some hj56
    obtain ⟨hi60, hx59'⟩ := Aj hx59
    obtain ⟨b62, o63, C64, E65, fz66, rfl, hF68, hE69⟩ := Wa (V5 hs0_0 le27) hx59'
    have hc71 := hE69 _ _ hx59'
    refine Di 2 hi60 <| Dx 3 0 (fun _ hq => hq.1.1 _ _ hF68) hc71 <| D1 4 ?_
    obtain ⟨r72, hr73, h74⟩ := bind_some h61
    refine DCl BI hw47 (BS N wd46 F1 hw47.pers x58 1 20000 _ hr73) ?_
    rintro _ F4 w76 hs77 le78 rfl
    refine Dvl [5, 6] (tf 7 15) <| Sd h74 (fun hb80 h81 => ?_) (fun hb80 h82 => ?_)
    ·refine Dkl [(7, 17), (8, 18), (9, 19)] 6 false 16 hb80 (tf 10 12) ?_
     refine Dul [(10, 20), (11, 21), (12, 22), (13, 23), (14, 24), (15, 25)] 9 true 19 (tf 16 6) <| Dul [(16, 26), (17, 27), (18, 28), (19, 29)] 9 true 19 (tf 20 2) <| Dkl [(20, 30)] 6 false 16 hb80 (tf 21 1) <| Dtl 21 31 4 _ (tf 22 0) (fun _ hq => p1 16 (.const (.bool true)) (.tmp 30) (.bool true) hb80) ?_
     obtain rfl := Aa h81
     exact Wf (by kernel_rfl) ⟨F4, hs77, le78, fI⟩
    ·refine Dgl 7 17 3 _ (tf 8 14) 6 false 16 hb80 (fun _ hq => mv 3 (vi s24)) ?_
     refine Dgl 8 18 4 (.bool (decide (s24 > 0))) (tf 9 13) 6 false 16 hb80 (fun _ hq => Kl (t := 3) (t' := 3) (x := (.tmp 17)) (y := (.const (vi 0))) (k := .i64) (a := s24) (b := 0) rfl rfl) <| Dgl 9 19 4 _ (tf 10 12) 6 false 16 hb80 (fun _ hq => mv 18 (.bool (decide (s24 > 0)))) <| Sd h82 (fun hb83 h84 => ?_) (fun hb83 h85 => ?_)
     ·refine Dgl 10 20 24 _ (tf 11 11) 9 true 19 hb83 (fun _ hq => mv 0 (.slice (some ⟨b62, o63, none⟩) x0.length n0_0)) ?_
      refine Dgl 11 21 3 _ (tf 12 10) 9 true 19 hb83 (fun _ hq => mv 3 (vi s24)) ?_
      obtain ⟨x86, hx87, h89⟩ := bind_some h84
      obtain ⟨hi88, hx87'⟩ := Aj hx87
      have hc91 := hE69 _ _ hx87'
      refine Dgl 12 22 0 (.pointer (some ⟨b62, (o63 + (s24 : Int).toNat * 1), none⟩)) (tf 13 9) 9 true 19 hb83 (fun _ hq => ix 24 20 21 b62 o63 3 1 8 hi88) <| Dgl 13 23 3 _ (tf 14 8) 9 true 19 hb83 (fun _ hq => lx 3 22 0 1 false 1 (vi x86) (hq.1.1 _ _ hF68) hc91) <| Dgl 14 24 24 _ (tf 15 7) 9 true 19 hb83 (fun _ hq => mv 0 (.slice (some ⟨b62, o63, none⟩) x0.length n0_0)) <| Dgl 15 25 3 _ (tf 16 6) 9 true 19 hb83 (fun _ hq => mv 3 (vi s24)) <| Dgl 16 26 3 (vi (W64 (s24 - 1))) (tf 17 5) 9 true 19 hb83 (fun _ hq => Gl (t := 3) (t' := 3) (x := (.tmp 25)) (y := (.const (vi 1))) (k := .i64) (a := s24) (b := 1) rfl rfl) ?_
      obtain ⟨x92, hx93, h95⟩ := bind_some h89
      obtain ⟨hi94, hx93'⟩ := Aj hx93
      have hc97 := hE69 _ _ hx93'
      refine Dgl 17 27 0 (.pointer (some ⟨b62, (o63 + ((W64 (s24 - 1)) : Int).toNat * 1), none⟩)) (tf 18 4) 9 true 19 hb83 (fun _ hq => ix 24 24 26 b62 o63 3 1 8 hi94) <| Dgl 18 28 3 _ (tf 19 3) 9 true 19 hb83 (fun _ hq => lx 3 27 0 1 false 1 (vi x92) (hq.1.1 _ _ hF68) hc97) <| Dgl 19 29 4 (.bool (decide (x86 <= x92))) (tf 20 2) 9 true 19 hb83 (fun _ hq => I7 (t := 3) (t' := 3) (x := (.tmp 23)) (y := (.tmp 28)) (k := .i64) (a := x86) (b := x92) rfl rfl) <| Dgl 20 30 4 _ (tf 21 1) 6 false 16 hb80 (fun _ hq => p1 19 (.tmp 29) (.const (.bool false)) (.bool (decide (x86 <= x92))) hb83) <| Dtl 21 31 4 _ (tf 22 0) (fun _ hq => p0 16 (.const (.bool true)) (.tmp 30) (.bool (decide (x86 <= x92))) hb80) ?_
      obtain rfl := Aa h95
      exact Wf (by kernel_rfl) ⟨F4, hs77, le78, fI⟩
     ·refine Dkl [(10, 20), (11, 21), (12, 22), (13, 23), (14, 24), (15, 25)] 9 true 19 hb83 (tf 16 6) ?_
      refine Dkl [(16, 26), (17, 27), (18, 28), (19, 29)] 9 true 19 hb83 (tf 20 2) <| Dgl 20 30 4 _ (tf 21 1) 6 false 16 hb80 (fun _ hq => p0 19 (.tmp 29) (.const (.bool false)) (.bool false) hb83) <| Dtl 21 31 4 _ (tf 22 0) (fun _ hq => p0 16 (.const (.bool true)) (.tmp 30) (.bool false) hb80) ?_
      obtain rfl := Aa h85
      exact Wf (by kernel_rfl) ⟨F4, hs77, le78, fI⟩
   ·rintro f w48 ⟨F3, hs49, le50, ⟨_, rfl⟩⟩
    refine Ab <| Cd h57 (fun hb98 h99 => ?_) (fun hb98 h100 => ?_)
    ·refine Sq (Rg [0] ?_)
     refine Vs 1 <| Nt <| Rt <| Ax <| Ae <| Ae <| Ax ?_
     have hret := BZ h99 hnx42
     subst hret
     refine .inr <| Ae ?_
     obtain rfl := Aa h23
     exact Re [(.bool false)] hs49 rfl
    ·refine Sc ?_
     refine Ap <| Ab <| Rg [0, 1, 2] <| Vs 3 <| VY ?_
     have hn101 := AD h100 hnx42
     exact ⟨m39, Nat.lt_succ_self _, (W64 (s24 + 1)), F3, hn101, hs49, (le27.t le50), fI⟩
  ·refine Ex ?_
   refine Al <| Al <| Ay rfl ?_
   have ho102 := AE h45 hnx42
   exact .inl ⟨rfl, s24, F1, ho102, hs26, le27, fI⟩
 ·rintro f w32 ⟨s31, F2, rfl, hs33, le34, ⟨_, rfl⟩⟩
  have h103 := A6 h23
  refine Ab <| Sq (Rg (rG 4) ?_)
  refine Vs 4 <| Nt <| Rt ?_
  obtain rfl := Aa h103
  exact Re [(.bool (decide ((x0.length : Int) <= 16)))] hs33 rfl
def Ht (N : Nat) (x0 : Log) : Option Bool :=
 (((DR N x0.Call).bind fun r32 => (bif r32 then ((BQ N x0.Category 1 9).bind fun r43 => (bif r43 then ((BQ N x0.Power 1 9999).bind fun r54 => (bif r54 then ((BQ N x0.Claimed 0 1000000).bind fun r65 => (bif r65 then ((Gm N x0.Jumps).bind fun r76 => some r76) else some false)) else some false)) else some false)) else some false)).bind fun j27 => some j27)
theorem Oh : Af Tryz.prog 81 := fun _ _ => by kernel_rfl
theorem PH (N : Nat) (w0 : World) (F0 : Mem) (hF : Wp w0 F0) (x0 : Log) (a0_4 : Wo) (n0_4 : Nat) (hb0_4 : LC x0.Jumps.length n0_4) (hs0_4 : SlA AM F0 a0_4 x0.Jumps) (a0_5 : Wo) (n0_5 : Nat) (hb0_5 : LC x0.Lines.length n0_5) (hs0_5 : SlA AL F0 a0_5 x0.Lines) (r : Bool) (h : Ht N x0 = some r) :
  Calls Tryz.prog 81 ([(.agg (AF x0 a0_4 n0_4 a0_5 n0_5))] : List Value).toArray w0 (AA w0 F0 fun F' v => v = (.bool r)) := by
 have hs0 := V4 hF
 refine Go 26 Tryz.func81 <| Sq (Rg [0, 1] ?_)
 refine Bx' 27 (AF x0 a0_4 n0_4 a0_5 n0_5) hs0 (fun b21 w22 hs23 => ?_)
 refine Vs 1 <| Nss (Rg (rG 24) ?_)
 obtain ⟨j27, hj30, h31⟩ := bind_some h
 refine V8 (fun f w => ∃ (F1 : Mem), HS w0 F0 w F1 [] /\ V2 F0 F1 /\ FI f [] [(2, (.bool j27))]) ?_ ?_
 ·refine Vs 1 ?_
  refine Ld hs23.at0 ?_
  obtain ⟨r32, hr33, h34⟩ := bind_some hj30
  refine Cl' JZ hs23 (KQ N w22 F0 hs23.pers x0.Call _ hr33) ?_
  rintro _ F2 w36 hs37 le38 rfl
  refine Vs 1 <| Sp h34 (fun hb40 h41 => ?_) (fun hb40 h42 => ?_)
  ·refine Vgs hb40 1 ?_
   refine Lg hb40 hs37.at0 ?_
   obtain ⟨r43, hr44, h45⟩ := bind_some h41
   refine Cg hb40 BI hs37 (BS N w36 F2 hs37.pers x0.Category 1 9 _ hr44) ?_
   rintro _ F3 w47 hs48 le49 rfl
   refine Pk1 hb40 <| Vs 1 <| Sp h45 (fun hb51 h52 => ?_) (fun hb51 h53 => ?_)
   ·refine Vgs hb51 1 ?_
    refine Lg hb51 hs48.at0 ?_
    obtain ⟨r54, hr55, h56⟩ := bind_some h52
    refine Cg hb51 BI hs48 (BS N w47 F3 hs48.pers x0.Power 1 9999 _ hr55) ?_
    rintro _ F4 w58 hs59 le60 rfl
    refine Pk1 hb51 <| Vs 1 <| Sp h56 (fun hb62 h63 => ?_) (fun hb62 h64 => ?_)
    ·refine Vgs hb62 1 ?_
     refine Lg hb62 hs59.at0 ?_
     obtain ⟨r65, hr66, h67⟩ := bind_some h63
     refine Cg hb62 BI hs59 (BS N w58 F4 hs59.pers x0.Claimed 0 1000000 _ hr66) ?_
     rintro _ F5 w69 hs70 le71 rfl
     refine Pk1 hb62 <| Vs 1 <| Sp h67 (fun hb73 h74 => ?_) (fun hb73 h75 => ?_)
     ·refine Vgs hb73 1 ?_
      refine Lg hb73 hs70.at0 ?_
      obtain ⟨r76, hr77, h78⟩ := bind_some h74
      refine Cg hb73 NB hs70 (Om N w69 F5 hs70.pers x0.Jumps a0_4 n0_4 hb0_4 (V5 hs0_4 (((le38.t le49).trans le60).trans le71)) _ hr77) ?_
      rintro _ F6 w80 hs81 le82 rfl
      refine Pk1 hb73 <| Vs 1 ?_
      obtain rfl := Aa h78
      exact VY ⟨rfl, F6, hs81.dr0, ((((le38.t le49).trans le60).trans le71).trans le82), fI⟩
     ·refine Ss hb73 3 ?_
      refine Pk0 hb73 <| Vs 1 ?_
      obtain rfl := Aa h75
      exact VY ⟨rfl, F5, hs70.dr0, (((le38.t le49).trans le60).trans le71), fI⟩
    ·refine Ss hb62 3 ?_
     refine Pk0 hb62 <| Vs 1 <| Ss (rfl : false = false) 3 <| Pk0 (rfl : false = false) <| Vs 1 ?_
     obtain rfl := Aa h64
     exact VY ⟨rfl, F4, hs59.dr0, ((le38.t le49).trans le60), fI⟩
   ·refine Ss hb51 3 ?_
    refine Pk0 hb51 <| Vs 1 <| Ss (rfl : false = false) 3 <| Pk0 (rfl : false = false) <| Vs 1 <| Ss (rfl : false = false) 3 <| Pk0 (rfl : false = false) <| Vs 1 ?_
    obtain rfl := Aa h53
    exact VY ⟨rfl, F3, hs48.dr0, (le38.t le49), fI⟩
  ·refine Ss hb40 3 ?_
   refine Pk0 hb40 <| Vs 1 <| Ss (rfl : false = false) 3 <| Pk0 (rfl : false = false) <| Vs 1 <| Ss (rfl : false = false) 3 <| Pk0 (rfl : false = false) <| Vs 1 <| Ss (rfl : false = false) 3 <| Pk0 (rfl : false = false) <| Vs 1 ?_
   obtain rfl := Aa h42
   exact VY ⟨rfl, F2, hs37.dr0, le38, fI⟩
 ·rintro f w24 ⟨F1, hs25, le26, ⟨_, rfl⟩⟩
  refine Ab <| Rt ?_
  obtain rfl := Aa h31
  exact Re [(.bool j27)] hs25 rfl
def Da (N : Nat) (x0 : Ac) (x1 : Log) (r38 : Bool) : Int -> Option (A4 (Int × Int) Int) := fun s52 =>
 (bif (decide (s52 < (x1.Lines.length : Int))) then ((idx x1.Lines s52).bind fun x74 => (((B8 N ({ Report := x0.Report, Serial := x0.Serial, Zone := x0.Zone } : Ac) x74).bind fun r106 => (bif (!r106) then some true else (bif (decide (s52 > 0)) then ((idx x1.Lines (W64 (s52 - 1))).bind fun x120 => (bif (decide (x74.Num <= x120.Num)) then some true else ((idx x1.Lines (W64 (s52 - 1))).bind fun x129 => some (decide (x74.Minute < x129.Minute))))) else some false))).bind fun j98 => (bif j98 then some (.ret (21, (W64 (s52 + 1)))) else some (.next (W64 (s52 + 1)))))) else some (.done s52))
def E7 (N : Nat) (x0 : Ac) (x1 : Log) : Option (Int × Int) :=
 (bif ((decide ((x1.Jumps.length : Int) > 16)) || (decide ((x1.Lines.length : Int) > 400))) then some (2, 0) else ((Ht N x1).bind fun r38 => (bif (!r38) then some (21, 0) else ((AJ (Da N x0 x1 r38) N 0).bind fun o => o.k (fun r => some r) (fun s60 => some (0, 0))))))
theorem NE : Af Tryz.prog 24 := fun _ _ => by kernel_rfl
theorem Oq (N : Nat) (w0 : World) (F0 : Mem) (hF : Wp w0 F0) (x0 : Ac) (x1 : Log) (a1_4 : Wo) (n1_4 : Nat) (hb1_4 : LC x1.Jumps.length n1_4) (hs1_4 : SlA AM F0 a1_4 x1.Jumps) (a1_5 : Wo) (n1_5 : Nat) (hb1_5 : LC x1.Lines.length n1_5) (hs1_5 : SlA AL F0 a1_5 x1.Lines) (r : (Int × Int)) (h : E7 N x0 x1 = some r) :
  Calls Tryz.prog 24 ([(.agg (Ag x0)), (.agg (AF x1 a1_4 n1_4 a1_5 n1_5))] : List Value).toArray w0 (AA w0 F0 fun F' v => v = (.tuple #[(vi r.1), (vi r.2)])) := by
 have hs0 := V4 hF
 refine Go 67 Tryz.func24 <| Sq (Rg (rG 4) ?_)
 refine Bx' 23 (Ag x0) hs0 (fun b21 w22 hs23 => ?_)
 refine Bx' 27 (AF x1 a1_4 n1_4 a1_5 n1_5) hs23 (fun b24 w25 hs26 => ?_)
 refine Vs 2 <| Nss <| Sq (Rg (rG 10) ?_)
 refine V8 (fun f w => ∃ (F1 : Mem), HS w0 F0 w F1 [(sb b24 (AF x1 a1_4 n1_4 a1_5 n1_5) 27), (sb b21 (Ag x0) 23)] /\ V2 F0 F1 /\ FI f [] [(2, (pt b21 0)), (3, (pt b24 0)), (17, (.bool ((decide ((x1.Jumps.length : Int) > 16)) || (decide ((x1.Lines.length : Int) > 400)))))]) ?_ ?_
 ·refine Vs 1 ?_
  refine Ld hs26.at0 <| Vs 3 <| V7 (decide ((x1.Jumps.length : Int) > 16)) (fun hb34 => ?_) (fun hb34 => ?_)
  ·refine Ss hb34 4 ?_
   refine Pk1 hb34 ?_
   exact VY ⟨rfl, F0, hs26, (V3 _), (fJ ⟨rfl, rfl, (congrArg Value.bool (Fw hb34 rfl)), trivial⟩)⟩
  ·refine Vgs hb34 1 ?_
   refine Lg hb34 hs26.at0 <| Vgs hb34 2 <| Pk0 hb34 ?_
   exact VY ⟨rfl, F0, hs26, (V3 _), (fJ ⟨rfl, rfl, (congrArg Value.bool (Cr hb34 rfl)), trivial⟩)⟩
 ·rintro f w27 ⟨F1, hs28, le29, ⟨_, rfl⟩⟩
  refine Ab <| Cd h (fun hb35 h36 => ?_) (fun hb35 h37 => ?_)
  ·refine Sq (Rg [0, 1] ?_)
   refine Vs 2 <| Nt <| Rt <| Ae ?_
   obtain rfl := Aa h36
   exact Re [(vi 2), (vi 0)] hs28 rfl
  ·refine Sc ?_
   refine Ab <| Sq <| Sq (Rg [0, 1, 2] ?_)
   refine Ld hs28.at0 ?_
   obtain ⟨r38, hr39, h40⟩ := bind_some h37
   refine Cl' Oh hs28 (PH N w27 F1 hs28.pers x1 a1_4 n1_4 hb1_4 (V5 hs1_4 le29) a1_5 n1_5 hb1_5 (V5 hs1_5 le29) _ hr39) ?_
   rintro _ F2 w42 hs43 le44 rfl
   refine Vs 1 <| Nt <| Cd h40 (fun hb46 h47 => ?_) (fun hb46 h48 => ?_)
   ·refine Sq (Rg [0, 1] ?_)
    refine Vs 2 <| Nt <| Rt <| Ae ?_
    obtain rfl := Aa h47
    exact Re [(vi 21), (vi 0)] hs43 rfl
   ·refine Sc ?_
    refine Ab <| Sq <| Sq (Rg [0] ?_)
    refine Vs 1 <| Nt ?_
    obtain ⟨o49, ho50, h51⟩ := bind_some h48
    refine V9 (fun f w => ∃ (s60 : Int) (F4 : Mem), o49 = .done s60 /\ HS w0 F0 w F4 [] /\ V2 F2 F4 /\ FI f [] []) ?_ ?_
    ·refine Bk ?_
     refine V1 (by kernel_rfl) (fun m f w => ∃ (s52 : Int) (F3 : Mem), AJ (Da N x0 x1 r38) m s52 = some o49 /\ HS w0 F0 w F3 [(sb b24 (AF x1 a1_4 n1_4 a1_5 n1_5) 27), (sb b21 (Ag x0) 23)] /\ V2 F2 F3 /\ FI f [] [(2, (pt b21 0)), (3, (pt b24 0)), (6, (vi s52))]) N ⟨0, F2, ho50, hs43, (V3 _), fI⟩ ?_
     rintro m65 f w53 ⟨s52, F3, hit66, hs54, le55, ⟨_, rfl⟩⟩
     obtain ⟨m67, fl68, rfl, hb69, hnx70⟩ := AC hit66
     refine Sq <| Sq (Rg (rG 5) ?_)
     refine Vs 2 <| Ld hs54.at0 <| Vs 2 <| Nt <| Cd hb69 (fun hb71 h72 => ?_) (fun hb71 h73 => ?_)
     ·refine Sc ?_
      refine Ab <| Sq <| Bk <| Sq (Rg (rG 7) ?_)
      refine Vs 1 <| Ld hs54.at0 <| Vs 1 ?_
      obtain ⟨x74, hx75, h77⟩ := bind_some h72
      obtain ⟨hi76, hx75'⟩ := Aj hx75
      obtain ⟨b78, o79, C80, E81, fz82, rfl, hF84, hE85⟩ := Wa (V5 hs1_5 ((le29.t le44).trans le55)) hx75'
      have hc87 := hE85 _ _ hx75'
      refine Ix hi76 <| Lx 0 (hs54.pers _ _ hF84) hc87 <| Al' 34 #[(vi 0), (vi 0), (vi 0), (vi 0), (sv (([] : Wn))), (vi 0), (vi 0), (vi 0), (vi 0), (vi 0), (vi 0)] hs54 (fun b88 w89 hs90 => ?_)
      refine St0 (BL x74) hs90 (fun w91 hs92 => ?_)
      refine Nss ?_
      obtain ⟨j98, hj104, h105⟩ := bind_some h77
      refine RD 32 32 [(sb b88 (BL x74) 34), (sb b24 (AF x1 a1_4 n1_4 (some ⟨b78, o79, none⟩) n1_5) 27), (sb b21 (Ag x0) 23)] [] hs92 (fun f w => ∃ (F5 : Mem), HS w0 F0 w F5 [(sb b24 (AF x1 a1_4 n1_4 (some ⟨b78, o79, none⟩) n1_5) 27), (sb b21 (Ag x0) 23)] /\ V2 F3 F5 /\ FI f [] [(2, (pt b21 0)), (3, (pt b24 0)), (6, (vi s52)), (64, (.bool j98))]) (fun wd93 hw94 => ?_) ?_
      ·refine Dl 0 (fun _ hq => (hq.1.2 2 _ _ rfl)) ?_
       refine Dl 1 (fun _ hq => (hq.1.2 0 _ _ rfl)) <| D1 2 ?_
       obtain ⟨r106, hr107, h108⟩ := bind_some hj104
       refine DCl FT hw94 (GG N wd93 F3 hw94.pers (({ Report := x0.Report, Serial := x0.Serial, Zone := x0.Zone } : Ac)) x74 _ hr107) ?_
       rintro _ F6 w110 hs111 le112 rfl
       refine Dvl [3, 4] (tf 5 27) <| Sd h108 (fun hb114 h115 => ?_) (fun hb114 h116 => ?_)
       ·refine Dkl [(5, 38), (6, 39), (7, 40)] 4 false 37 hb114 (tf 8 24) ?_
        refine Dul [(8, 41), (9, 42), (10, 43), (11, 44), (12, 45), (13, 46)] 7 true 40 (tf 14 18) <| Dul [(14, 47), (15, 48), (16, 49), (17, 50), (18, 51)] 7 true 40 (tf 19 13) <| Dul [(19, 52), (20, 53), (21, 54), (22, 55), (23, 56), (24, 57)] 18 false 51 (tf 25 7) <| Dul [(25, 58), (26, 59), (27, 60), (28, 61)] 18 false 51 (tf 29 3) <| Dul [(29, 62)] 7 true 40 (tf 30 2) <| Dkl [(30, 63)] 4 false 37 hb114 (tf 31 1) <| Dtl 31 64 4 _ (tf 32 0) (fun _ hq => p1 37 (.const (.bool true)) (.tmp 63) (.bool true) hb114) ?_
        obtain rfl := Aa h115
        exact Wf (by kernel_rfl) ⟨F6, hs111.dr0, le112, fI⟩
       ·refine Dgl 5 38 3 _ (tf 6 26) 4 false 37 hb114 (fun _ hq => mv 6 (vi s52)) ?_
        refine Dgl 6 39 4 (.bool (decide (s52 > 0))) (tf 7 25) 4 false 37 hb114 (fun _ hq => Kl (t := 3) (t' := 3) (x := (.tmp 38)) (y := (.const (vi 0))) (k := .i64) (a := s52) (b := 0) rfl rfl) <| Dgl 7 40 4 _ (tf 8 24) 4 false 37 hb114 (fun _ hq => mv 39 (.bool (decide (s52 > 0)))) <| Sd h116 (fun hb117 h118 => ?_) (fun hb117 h119 => ?_)
        ·refine Dgl 8 41 0 (pt b88 0) (tf 9 23) 7 true 40 hb117 (fun _ hq => fa 34 7 0 0 1 b88 0 0) ?_
         refine Dgl 9 42 3 _ (tf 10 22) 7 true 40 hb117 (fun _ hq => ld 3 41 b88 0 false 1 (vi x74.Num) (hq.1.2 0 _ _ rfl)) <| Dgl 10 43 0 (pt b24 5) (tf 11 21) 7 true 40 hb117 (fun _ hq => fa 27 3 5 5 1 b24 0 5) <| Dgl 11 44 25 _ (tf 12 20) 7 true 40 hb117 (fun _ hq => ld 25 43 b24 5 false 1 (.slice (some ⟨b78, o79, none⟩) x1.Lines.length n1_5) (hq.1.2 1 _ _ rfl)) <| Dgl 12 45 3 _ (tf 13 19) 7 true 40 hb117 (fun _ hq => mv 6 (vi s52)) <| Dgl 13 46 3 (vi (W64 (s52 - 1))) (tf 14 18) 7 true 40 hb117 (fun _ hq => Gl (t := 3) (t' := 3) (x := (.tmp 45)) (y := (.const (vi 1))) (k := .i64) (a := s52) (b := 1) rfl rfl) ?_
         obtain ⟨x120, hx121, h123⟩ := bind_some h118
         obtain ⟨hi122, hx121'⟩ := Aj hx121
         have hc125 := hE85 _ _ hx121'
         refine Dgl 14 47 0 (.pointer (some ⟨b78, (o79 + ((W64 (s52 - 1)) : Int).toNat * 11), none⟩)) (tf 15 17) 7 true 40 hb117 (fun _ hq => ix 25 44 46 b78 o79 34 11 96 hi122) <| Dgl 15 48 0 (.pointer (some ⟨b78, (o79 + ((W64 (s52 - 1)) : Int).toNat * 11), none⟩)) (tf 16 16) 7 true 40 hb117 (fun _ hq => fa 34 47 0 0 1 b78 (o79 + ((W64 (s52 - 1)) : Int).toNat * 11) (o79 + ((W64 (s52 - 1)) : Int).toNat * 11)) <| Dgl 16 49 3 _ (tf 17 15) 7 true 40 hb117 (fun _ hq => lx 3 48 0 11 false 1 (vi x120.Num) (hq.1.1 _ _ hF84) hc125) <| Dgl 17 50 4 (.bool (decide (x74.Num <= x120.Num))) (tf 18 14) 7 true 40 hb117 (fun _ hq => I7 (t := 3) (t' := 3) (x := (.tmp 42)) (y := (.tmp 49)) (k := .i64) (a := x74.Num) (b := x120.Num) rfl rfl) <| Dgl 18 51 4 _ (tf 19 13) 7 true 40 hb117 (fun _ hq => mv 50 (.bool (decide (x74.Num <= x120.Num)))) <| Sd h123 (fun hb126 h127 => ?_) (fun hb126 h128 => ?_)
         ·refine Dkl [(19, 52), (20, 53), (21, 54), (22, 55), (23, 56), (24, 57)] 18 false 51 hb126 (tf 25 7) ?_
          refine Dkl [(25, 58), (26, 59), (27, 60), (28, 61)] 18 false 51 hb126 (tf 29 3) <| Dgl 29 62 4 _ (tf 30 2) 7 true 40 hb117 (fun _ hq => p1 51 (.const (.bool true)) (.tmp 61) (.bool true) hb126) <| Dgl 30 63 4 _ (tf 31 1) 4 false 37 hb114 (fun _ hq => p1 40 (.tmp 62) (.const (.bool false)) (.bool true) hb117) <| Dtl 31 64 4 _ (tf 32 0) (fun _ hq => p0 37 (.const (.bool true)) (.tmp 63) (.bool true) hb114) ?_
          obtain rfl := Aa h127
          exact Wf (by kernel_rfl) ⟨F6, hs111.dr0, le112, fI⟩
         ·refine Dgl 19 52 0 (pt b88 3) (tf 20 12) 18 false 51 hb126 (fun _ hq => fa 34 7 3 3 1 b88 0 3) ?_
          refine Dgl 20 53 3 _ (tf 21 11) 18 false 51 hb126 (fun _ hq => ld 3 52 b88 3 false 1 (vi x74.Minute) (hq.1.2 0 _ _ rfl)) <| Dgl 21 54 0 (pt b24 5) (tf 22 10) 18 false 51 hb126 (fun _ hq => fa 27 3 5 5 1 b24 0 5) <| Dgl 22 55 25 _ (tf 23 9) 18 false 51 hb126 (fun _ hq => ld 25 54 b24 5 false 1 (.slice (some ⟨b78, o79, none⟩) x1.Lines.length n1_5) (hq.1.2 1 _ _ rfl)) <| Dgl 23 56 3 _ (tf 24 8) 18 false 51 hb126 (fun _ hq => mv 6 (vi s52)) <| Dgl 24 57 3 (vi (W64 (s52 - 1))) (tf 25 7) 18 false 51 hb126 (fun _ hq => Gl (t := 3) (t' := 3) (x := (.tmp 56)) (y := (.const (vi 1))) (k := .i64) (a := s52) (b := 1) rfl rfl) ?_
          obtain ⟨x129, hx130, h132⟩ := bind_some h128
          obtain ⟨hi131, hx130'⟩ := Aj hx130
          have hc134 := hE85 _ _ hx130'
          refine Dgl 25 58 0 (.pointer (some ⟨b78, (o79 + ((W64 (s52 - 1)) : Int).toNat * 11), none⟩)) (tf 26 6) 18 false 51 hb126 (fun _ hq => ix 25 55 57 b78 o79 34 11 96 hi131) <| Dgl 26 59 0 (.pointer (some ⟨b78, ((o79 + ((W64 (s52 - 1)) : Int).toNat * 11) + 3), none⟩)) (tf 27 5) 18 false 51 hb126 (fun _ hq => fa 34 58 3 3 1 b78 (o79 + ((W64 (s52 - 1)) : Int).toNat * 11) ((o79 + ((W64 (s52 - 1)) : Int).toNat * 11) + 3)) <| Dgl 27 60 3 _ (tf 28 4) 18 false 51 hb126 (fun _ hq => lx 3 59 3 11 false 1 (vi x129.Minute) (hq.1.1 _ _ hF84) hc134) <| Dgl 28 61 4 (.bool (decide (x74.Minute < x129.Minute))) (tf 29 3) 18 false 51 hb126 (fun _ hq => Hp (t := 3) (t' := 3) (x := (.tmp 53)) (y := (.tmp 60)) (k := .i64) (a := x74.Minute) (b := x129.Minute) rfl rfl) <| Dgl 29 62 4 _ (tf 30 2) 7 true 40 hb117 (fun _ hq => p0 51 (.const (.bool true)) (.tmp 61) (.bool (decide (x74.Minute < x129.Minute))) hb126) <| Dgl 30 63 4 _ (tf 31 1) 4 false 37 hb114 (fun _ hq => p1 40 (.tmp 62) (.const (.bool false)) (.bool (decide (x74.Minute < x129.Minute))) hb117) <| Dtl 31 64 4 _ (tf 32 0) (fun _ hq => p0 37 (.const (.bool true)) (.tmp 63) (.bool (decide (x74.Minute < x129.Minute))) hb114) ?_
          obtain rfl := Aa h132
          exact Wf (by kernel_rfl) ⟨F6, hs111.dr0, le112, fI⟩
        ·refine Dkl [(8, 41), (9, 42), (10, 43), (11, 44), (12, 45), (13, 46)] 7 true 40 hb117 (tf 14 18) ?_
         refine Dkl [(14, 47), (15, 48), (16, 49), (17, 50), (18, 51)] 7 true 40 hb117 (tf 19 13) <| Dul [(19, 52), (20, 53), (21, 54), (22, 55), (23, 56), (24, 57)] 18 false 51 (tf 25 7) <| Dul [(25, 58), (26, 59), (27, 60), (28, 61)] 18 false 51 (tf 29 3) <| Dkl [(29, 62)] 7 true 40 hb117 (tf 30 2) <| Dgl 30 63 4 _ (tf 31 1) 4 false 37 hb114 (fun _ hq => p0 40 (.tmp 62) (.const (.bool false)) (.bool false) hb117) <| Dtl 31 64 4 _ (tf 32 0) (fun _ hq => p0 37 (.const (.bool true)) (.tmp 63) (.bool false) hb114) ?_
         obtain rfl := Aa h119
         exact Wf (by kernel_rfl) ⟨F6, hs111.dr0, le112, fI⟩
      ·rintro f w95 ⟨F5, hs96, le97, ⟨_, rfl⟩⟩
       refine Ab <| Cd h105 (fun hb135 h136 => ?_) (fun hb135 h137 => ?_)
       ·refine Sq (Rg (rG 4) ?_)
        refine Vs 4 <| Nt <| Rt <| Ax <| Ae <| Ae <| Ax ?_
        have hret := BZ h136 hnx70
        subst hret
        refine .inr <| Ae ?_
        obtain rfl := Aa h51
        exact Re [(vi 21), (vi (W64 (s52 + 1)))] hs96 rfl
       ·refine Sc ?_
        refine Ap <| Ab <| Rg [0, 1, 2] <| Vs 3 <| VY ?_
        have hn138 := AD h137 hnx70
        exact ⟨m67, Nat.lt_succ_self _, (W64 (s52 + 1)), F5, hn138, hs96, (le55.t le97), fI⟩
     ·refine Ex ?_
      refine Al <| Al <| Ay rfl ?_
      have ho139 := AE h73 hnx70
      exact .inl ⟨rfl, s52, F3, ho139, hs54.dr0.dr0, le55, fI⟩
    ·rintro f w61 ⟨s60, F4, rfl, hs62, le63, ⟨_, rfl⟩⟩
     have h140 := A6 h51
     refine Ab <| Sq (Rg [0, 1] ?_)
     refine Vs 2 <| Nt <| Rt ?_
     obtain rfl := Aa h140
     exact Re [(vi 0), (vi 0)] hs62 rfl
def Jz (N : Nat) (x0 : Ac) (x1 : Log) : Option Bool :=
 ((D0 N ({ Report := x0.Report, Serial := x0.Serial, Zone := x0.Zone } : Ac) x1).bind fun r27 => some (r27.1 == 0))
theorem LP : Af Tryz.prog 25 := fun _ _ => by kernel_rfl
theorem MH (N : Nat) (w0 : World) (F0 : Mem) (hF : Wp w0 F0) (hG : Br F0) (x0 : Ac) (x1 : Log) (a1_4 : Wo) (n1_4 : Nat) (hb1_4 : LC x1.Jumps.length n1_4) (hs1_4 : SlA AM F0 a1_4 x1.Jumps) (a1_5 : Wo) (n1_5 : Nat) (hb1_5 : LC x1.Lines.length n1_5) (hs1_5 : SlA AL F0 a1_5 x1.Lines) (r : Bool) (h : Jz N x0 x1 = some r) :
  Calls Tryz.prog 25 ([(.agg (Ag x0)), (.agg (AF x1 a1_4 n1_4 a1_5 n1_5))] : List Value).toArray w0 (AA w0 F0 fun F' v => v = (.bool r)) := by
 have hs0 := V4 hF
 refine Go 15 Tryz.func25 <| Sq (Rg [0, 1, 2] ?_)
 refine Bx' 23 (Ag x0) hs0 (fun b21 w22 hs23 => ?_)
 refine Bx' 27 (AF x1 a1_4 n1_4 a1_5 n1_5) hs23 (fun b24 w25 hs26 => ?_)
 refine Vs 1 <| Nss (Rg (rG 8) ?_)
 refine Ld hs26.at1 <| Ld hs26.at0 ?_
 obtain ⟨r27, hr28, h29⟩ := bind_some h
 refine Cl' GP hs26 (HH N w25 F0 hs26.pers hG (({ Report := x0.Report, Serial := x0.Serial, Zone := x0.Zone } : Ac)) x1 a1_4 n1_4 hb1_4 hs1_4 a1_5 n1_5 hb1_5 hs1_5 _ hr28) ?_
 rintro _ F1 w31 hs32 le33 rfl
 refine Vs 5 <| Nss (Rg [0, 1, 2] ?_)
 refine Vs 3 <| Nt <| Rt ?_
 obtain rfl := Aa h29
 exact Re [(.bool (r27.1 == 0))] hs32 rfl

def Eo (N : Nat) (x0 : (List Line)) : Int -> Option (A4 Bool Int) := fun s24 =>
 (bif (decide (s24 < (x0.length : Int))) then ((idx x0 s24).bind fun x45 => (bif (decide ((x45.Call.length : Int) > 40)) then some (.ret false) else some (.next (W64 (s24 + 1))))) else some (.done s24))
def Fa (N : Nat) (x0 : (List Line)) : Option Bool :=
 ((AJ (Eo N x0) N 0).bind fun o => o.k (fun r => some r) (fun s31 => some true))
theorem IP : Af Tryz.prog 61 := fun _ _ => by kernel_rfl
theorem JM (N : Nat) (w0 : World) (F0 : Mem) (hF : Wp w0 F0) (x0 : (List Line)) (a0_0 : Wo) (n0_0 : Nat) (hb0_0 : LC x0.length n0_0) (hs0_0 : SlA AL F0 a0_0 x0) (r : Bool) (h : Fa N x0 = some r) :
  Calls Tryz.prog 61 ([(.slice a0_0 x0.length n0_0)] : List Value).toArray w0 (AA w0 F0 fun F' v => v = (.bool r)) := by
 have hs0 := V4 hF
 refine Go 17 Tryz.func61 <| Sq (Rg [0] ?_)
 refine Vs 1 <| Nss <| Sq (Rg [0] ?_)
 refine Vs 1 <| Nt ?_
 obtain ⟨o21, ho22, h23⟩ := bind_some h
 refine V9 (fun f w => ∃ (s31 : Int) (F2 : Mem), o21 = .done s31 /\ HS w0 F0 w F2 [] /\ V2 F0 F2 /\ FI f [] []) ?_ ?_
 ·refine Bk ?_
  refine V1 (by kernel_rfl) (fun m f w => ∃ (s24 : Int) (F1 : Mem), AJ (Eo N x0) m s24 = some o21 /\ HS w0 F0 w F1 [] /\ V2 F0 F1 /\ FI f [] [(0, (.slice a0_0 x0.length n0_0)), (3, (vi s24))]) N ⟨0, F0, ho22, hs0, (V3 _), fI⟩ ?_
  rintro m36 f w25 ⟨s24, F1, hit37, hs26, le27, ⟨_, rfl⟩⟩
  obtain ⟨m38, fl39, rfl, hb40, hnx41⟩ := AC hit37
  refine Sq <| Sq (Rg (rG 4) ?_)
  refine Vs 4 <| Nt <| Cd hb40 (fun hb42 h43 => ?_) (fun hb42 h44 => ?_)
  ·refine Sc ?_
   refine Ab <| Sq <| Bk <| Sq (Rg (rG 7) ?_)
   refine Vs 2 ?_
   obtain ⟨x45, hx46, h48⟩ := bind_some h43
   obtain ⟨hi47, hx46'⟩ := Aj hx46
   obtain ⟨b49, o50, C51, E52, fz53, rfl, hF55, hE56⟩ := Wa (V5 hs0_0 le27) hx46'
   have hc58 := hE56 _ _ hx46'
   refine Ix hi47 <| Vs 1 <| Lx 4 (hs26.pers _ _ hF55) hc58 <| Vs 2 <| Nt <| Cd h48 (fun hb59 h60 => ?_) (fun hb59 h61 => ?_)
   ·refine Sq (Rg [0] ?_)
    refine Vs 1 <| Nt <| Rt <| Ax <| Ae <| Ae <| Ax ?_
    have hret := BZ h60 hnx41
    subst hret
    refine .inr <| Ae ?_
    obtain rfl := Aa h23
    exact Re [(.bool false)] hs26 rfl
   ·refine Sc ?_
    refine Ap <| Ab <| Rg [0, 1, 2] <| Vs 3 <| VY ?_
    have hn62 := AD h61 hnx41
    exact ⟨m38, Nat.lt_succ_self _, (W64 (s24 + 1)), F1, hn62, hs26, le27, fI⟩
  ·refine Ex ?_
   refine Al <| Al <| Ay rfl ?_
   have ho63 := AE h44 hnx41
   exact .inl ⟨rfl, s24, F1, ho63, hs26, le27, fI⟩
 ·rintro f w32 ⟨s31, F2, rfl, hs33, le34, ⟨_, rfl⟩⟩
  have h64 := A6 h23
  refine Ab <| Sq (Rg [0] ?_)
  refine Vs 1 <| Nt <| Rt ?_
  obtain rfl := Aa h64
  exact Re [(.bool true)] hs33 rfl
def Ja (N : Nat) (x0 : Log) : Option Bool :=
 ((bif (decide ((x0.Lines.length : Int) <= 60)) then (bif (decide ((x0.Jumps.length : Int) <= 40)) then (bif (decide ((x0.Call.length : Int) <= 40)) then ((Fa N x0.Lines).bind fun r41 => some r41) else some false) else some false) else (bif (decide ((x0.Lines.length : Int) > 400)) then (bif (decide ((x0.Lines.length : Int) <= 800)) then (bif (decide ((x0.Jumps.length : Int) <= 40)) then (bif (decide ((x0.Call.length : Int) <= 40)) then ((Fa N x0.Lines).bind fun r61 => some r61) else some false) else some false) else some false) else some false)).bind fun j27 => some j27)
theorem PC : Af Tryz.prog 20 := fun _ _ => by kernel_rfl
theorem Ql (N : Nat) (w0 : World) (F0 : Mem) (hF : Wp w0 F0) (x0 : Log) (a0_4 : Wo) (n0_4 : Nat) (hb0_4 : LC x0.Jumps.length n0_4) (hs0_4 : SlA AM F0 a0_4 x0.Jumps) (a0_5 : Wo) (n0_5 : Nat) (hb0_5 : LC x0.Lines.length n0_5) (hs0_5 : SlA AL F0 a0_5 x0.Lines) (r : Bool) (h : Ja N x0 = some r) :
  Calls Tryz.prog 20 ([(.agg (AF x0 a0_4 n0_4 a0_5 n0_5))] : List Value).toArray w0 (AA w0 F0 fun F' v => v = (.bool r)) := by
 have hs0 := V4 hF
 refine Go 36 Tryz.func20 <| Sq (Rg [0, 1] ?_)
 refine Bx' 27 (AF x0 a0_4 n0_4 a0_5 n0_5) hs0 (fun b21 w22 hs23 => ?_)
 refine Vs 1 <| Nss (Rg (rG 34) ?_)
 obtain ⟨j27, hj30, h31⟩ := bind_some h
 refine V8 (fun f w => ∃ (F1 : Mem), HS w0 F0 w F1 [] /\ V2 F0 F1 /\ FI f [] [(2, (.bool j27))]) ?_ ?_
 ·refine Vs 1 ?_
  refine Ld hs23.at0 <| Vs 3 <| Sp hj30 (fun hb32 h33 => ?_) (fun hb32 h34 => ?_)
  ·refine Ss hb32 5 ?_
   refine Su' 4 <| Ss hb32 1 <| Pk1 hb32 <| Vs 1 <| Vg 20 0 16 true 19 rfl (fa 27 1 4 4 1 b21 0 4) <| Vg 21 24 16 true 19 rfl (ld 24 20 b21 4 false 1 (.slice a0_4 x0.Jumps.length n0_4) hs23.at0) <| Vg 22 3 16 true 19 rfl (ln 21 24 a0_4 x0.Jumps.length n0_4 3 1 8) <| Vg 23 4 16 true 19 rfl (I7 (t := 3) (t' := 3) (x := (.tmp 22)) (y := (.const (vi 40))) (k := .i64) (a := (x0.Jumps.length : Int)) (b := 40) rfl rfl) <| Pk1 (rfl : true = true) <| Vs 1 <| Sp h33 (fun hb35 h36 => ?_) (fun hb35 h37 => ?_)
   ·refine Vgs hb35 1 ?_
    refine Lg hb35 hs23.at0 <| Vgs hb35 2 <| Pk1 hb35 <| Vs 1 <| Sp h36 (fun hb38 h39 => ?_) (fun hb38 h40 => ?_)
    ·refine Vgs hb38 1 ?_
     refine Lg hb38 hs23.at0 ?_
     obtain ⟨r41, hr42, h43⟩ := bind_some h39
     refine Cg hb38 IP hs23 (JM N w22 F0 hs23.pers x0.Lines a0_5 n0_5 hb0_5 hs0_5 _ hr42) ?_
     rintro _ F2 w45 hs46 le47 rfl
     refine Pk1 hb38 <| Vs 1 ?_
     obtain rfl := Aa h43
     exact VY ⟨rfl, F2, hs46.dr0, le47, fI⟩
    ·refine Ss hb38 3 ?_
     refine Pk0 hb38 <| Vs 1 ?_
     obtain rfl := Aa h40
     exact VY ⟨rfl, F0, hs23.dr0, (V3 _), fI⟩
   ·refine Ss hb35 4 ?_
    refine Pk0 hb35 <| Vs 1 <| Ss (rfl : false = false) 3 <| Pk0 (rfl : false = false) <| Vs 1 ?_
    obtain rfl := Aa h37
    exact VY ⟨rfl, F0, hs23.dr0, (V3 _), fI⟩
  ·refine Vgs hb32 1 ?_
   refine Lg hb32 hs23.at0 <| Vgs hb32 3 <| Sp h34 (fun hb49 h50 => ?_) (fun hb49 h51 => ?_)
   ·refine Vgs hb49 1 ?_
    refine Lg hb49 hs23.at0 <| Vgs hb49 2 <| Pg1 hb32 hb49 <| Pk0 hb32 <| Vs 1 <| Sp h50 (fun hb52 h53 => ?_) (fun hb52 h54 => ?_)
    ·refine Vgs hb52 1 ?_
     refine Lg hb52 hs23.at0 <| Vgs hb52 2 <| Pk1 hb52 <| Vs 1 <| Sp h53 (fun hb55 h56 => ?_) (fun hb55 h57 => ?_)
     ·refine Vgs hb55 1 ?_
      refine Lg hb55 hs23.at0 <| Vgs hb55 2 <| Pk1 hb55 <| Vs 1 <| Sp h56 (fun hb58 h59 => ?_) (fun hb58 h60 => ?_)
      ·refine Vgs hb58 1 ?_
       refine Lg hb58 hs23.at0 ?_
       obtain ⟨r61, hr62, h63⟩ := bind_some h59
       refine Cg hb58 IP hs23 (JM N w22 F0 hs23.pers x0.Lines a0_5 n0_5 hb0_5 hs0_5 _ hr62) ?_
       rintro _ F3 w65 hs66 le67 rfl
       refine Pk1 hb58 <| Vs 1 ?_
       obtain rfl := Aa h63
       exact VY ⟨rfl, F3, hs66.dr0, le67, fI⟩
      ·refine Ss hb58 3 ?_
       refine Pk0 hb58 <| Vs 1 ?_
       obtain rfl := Aa h60
       exact VY ⟨rfl, F0, hs23.dr0, (V3 _), fI⟩
     ·refine Ss hb55 4 ?_
      refine Pk0 hb55 <| Vs 1 <| Ss (rfl : false = false) 3 <| Pk0 (rfl : false = false) <| Vs 1 ?_
      obtain rfl := Aa h57
      exact VY ⟨rfl, F0, hs23.dr0, (V3 _), fI⟩
    ·refine Ss hb52 4 ?_
     refine Pk0 hb52 <| Vs 1 <| Ss (rfl : false = false) 4 <| Pk0 (rfl : false = false) <| Vs 1 <| Ss (rfl : false = false) 3 <| Pk0 (rfl : false = false) <| Vs 1 ?_
     obtain rfl := Aa h54
     exact VY ⟨rfl, F0, hs23.dr0, (V3 _), fI⟩
   ·refine Ss hb49 4 ?_
    refine Pg0 hb32 hb49 <| Pk0 hb32 <| Vs 1 <| Ss (rfl : false = false) 4 <| Pk0 (rfl : false = false) <| Vs 1 <| Ss (rfl : false = false) 4 <| Pk0 (rfl : false = false) <| Vs 1 <| Ss (rfl : false = false) 3 <| Pk0 (rfl : false = false) <| Vs 1 ?_
    obtain rfl := Aa h51
    exact VY ⟨rfl, F0, hs23.dr0, (V3 _), fI⟩
 ·rintro f w24 ⟨F1, hs25, le26, ⟨_, rfl⟩⟩
  refine Ab <| Rt ?_
  obtain rfl := Aa h31
  exact Re [(.bool j27)] hs25 rfl
section
open Go.Lib (decDigits)
theorem Hx {ρ σ : Type} {body : σ -> Option (A4 ρ σ)} (st : Nat -> σ) {o : A4 ρ σ} (k : Nat) (hb : ∀ i, i < k -> body (st i) = some (.next (st (i + 1)))) (he : body (st k) = some o) (ho : ∀ s', o ≠ .next s') {N : Nat} (hN : k < N) : AJ body N (st 0) = some o := by
 have key : ∀ j i M, i + j = k -> j < M -> AJ body M (st i) = some o := by
  intro j
  induction j with
  | zero =>
   intro i M hi hM
   obtain ⟨m, rfl⟩ : ∃ m, M = m + 1 := ⟨M - 1, by omega⟩
   rw [Nat.add_zero] at hi
   subst hi
   rw [AJ, he]
   cases o with
   | next s => exact absurd rfl (ho s)
   | done s => rfl
   | ret r => rfl
  | succ j ih =>
   intro i M hi hM
   obtain ⟨m, rfl⟩ : ∃ m, M = m + 1 := ⟨M - 1, by omega⟩
   rw [AJ, hb i (by omega)]
   exact ih (i + 1) m (by omega) (by omega)
 exact key k 0 N (by omega) hN
section
variable {N : Nat}
theorem lw (a b c : Int) : AV N a b c = some (decide (b <= a) && decide (a <= c)) := rfl
theorem rw2 (a b c : Int) : BQ N a b c = some (decide (b <= a) && decide (a <= c)) := rfl
theorem Ts (b : UInt8) : W64 (b.toNat : Int) = (b.toNat : Int) := by
 have := b.toNat_lt
 exact EP (by omega) (by omega)
theorem RG (b : UInt8) : Ol b = ((decide (65 <= (b.toNat : Int)) && decide ((b.toNat : Int) <= 90)) || ((decide (48 <= (b.toNat : Int)) && decide ((b.toNat : Int) <= 57)) || ((b.toNat : Int) == 47))) := by
 have e1 : isL b = (decide (65 <= (b.toNat : Int)) && decide ((b.toNat : Int) <= 90)) := by
  unfold isL; congr 1 <;> (rw [decide_eq_decide]; omega)
 have e2 : isD b = (decide (48 <= (b.toNat : Int)) && decide ((b.toNat : Int) <= 57)) := by
  unfold isD; congr 1 <;> (rw [decide_eq_decide]; omega)
 have e3 : (b == 47) = ((b.toNat : Int) == 47) := by
  rw [Bool.eq_iff_iff, beq_iff_eq, beq_iff_eq]
  constructor
  ·rintro rfl; rfl
  ·intro h
   have : b.toNat = 47 := by omega
   exact UInt8.toNat_inj.1 this
 unfold Ol
 rw [e1, e2, e3, Bool.or_assoc]
theorem Uc (s : Wn) (hs : s.length < 4000000000) (hN : 4294967300 < N) : Hw N s = some (FR s) := by
 unfold Hw
 rw [lw, Option.bind_some, show (decide ((1 : Int) <= (s.length : Int)) && decide ((s.length : Int) <= (16 : Int))) = wiB s.length 1 16 from Hm _ 1 16]
 have h := Hx (body := DK N s (wiB s.length 1 16)) (fun i => (wiB s.length 1 16 && (s.take i).all Ol, (i : Int))) (o := .done (FR s, (s.length : Int))) s.length (fun i hi => by
  unfold DK
  simp only
  rw [DC hi, cond_true, GZ hi, Option.bind_some, FJ i (by omega), Ts, List.take_add_one, List.getElem?_eq_getElem hi, List.all_append]
  simp only [Option.toList_some, List.all_cons, List.all_nil, Bool.and_true]
  rw [RG s[i], <- Bool.and_assoc]
  cases wiB s.length 1 16 && (s.take i).all Ol with
  | false => rfl
  | true =>
   rw [cond_true, lw, Option.bind_some, lw]
   cases (decide (65 <= (s[i].toNat : Int)) && decide ((s[i].toNat : Int) <= 90)) with
   | true => rfl
   | false =>
    rw [cond_false, Option.bind_some]
    cases (decide (48 <= (s[i].toNat : Int)) && decide ((s[i].toNat : Int) <= 57)) with
    | true => rfl
    | false => rfl) (by
  unfold DK
  simp only
  rw [Cs, cond_false, List.take_length]
  rfl) (fun s' h => by cases h) (N := N) (by omega)
 rw [show (wiB s.length 1 16, (0 : Int)) = (wiB s.length 1 16 && (s.take 0).all Ol, ((0 : Nat) : Int)) by simp, h]
 rfl
theorem TU (s : Wn) (hs : s.length < 4000000000) (hN : 4294967300 < N) : Gn N s = some (FR s) := by
 unfold Gn FR
 have e : ((decide ((s.length : Int) < 1)) || (decide ((s.length : Int) > 16))) = !wiB s.length 1 16 := by
  unfold wiB
  rw [Bool.not_and, <- decide_not, <- decide_not]
  congr 1 <;> (rw [decide_eq_decide]; omega)
 rw [e]
 cases hw : wiB s.length 1 16 with
 | false => rfl
 | true =>
  rw [Bool.not_true, cond_false, Bool.true_and]
  rw [Jc (l := s) Ol false (fun i hi => by
   unfold Ej
   rw [DC hi, cond_true, GZ hi, Option.bind_some, FJ i (by omega)]
   have e : DP N (s[i].toNat : Int) = some (Ol s[i]) := by
    rw [RG]
    unfold DP
    simp only [ge_iff_le]
    cases decide (65 <= (s[i].toNat : Int)) <;> cases decide ((s[i].toNat : Int) <= 90) <;> cases decide (48 <= (s[i].toNat : Int)) <;> cases decide ((s[i].toNat : Int) <= 57) <;> cases ((s[i].toNat : Int) == 47) <;> rfl
   rw [e, Option.bind_some]
   cases Ol s[i] <;> rfl) (by
   unfold Ej
   rw [Cs, cond_false]) (by omega)]
  cases s.all Ol <;> rfl
def Sg (x : Line) : Prop := x.Call.length < 4000000000
theorem Su (o : Ac) (x : Line) : Gj o x = ((decide (1 <= x.Num) && decide (x.Num <= 65535)) && ((decide (1 <= x.Khz) && decide (x.Khz <= 10000000)) && ((decide (1 <= x.Mode) && decide (x.Mode <= 3)) && ((decide (0 <= x.Minute) && decide (x.Minute <= 20000)) && (FR x.Call && (CJ o x.Sent && CJ o x.Got)))))) := by
 unfold Gj
 simp only [Bool.decide_and]
theorem Rv (o : Ac) (x : Line) (hx : Sg x) (hN : 4294967300 < N) : Cw N o x = some (Gj o x) := by
 unfold Cw
 rw [Su, lw, lw, lw, lw, Uc x.Call hx hN]
 simp only [Option.bind_some]
 rw [M3 _ _ hN, M3 _ _ hN]
 simp only [Option.bind_some]
 show _ = some _
 generalize (decide (1 <= x.Num) && decide (x.Num <= 65535)) = a
 generalize (decide (1 <= x.Khz) && decide (x.Khz <= 10000000)) = b
 generalize (decide (1 <= x.Mode) && decide (x.Mode <= 3)) = c
 generalize (decide (0 <= x.Minute) && decide (x.Minute <= 20000)) = d
 generalize FR x.Call = e
 cases a <;> cases b <;> cases c <;> cases d <;> cases e <;> first | rfl | (simp only [cond_true, cond_false, Bool.true_and]; cases CJ o x.Sent <;> rfl)
theorem Rk (o : Ac) (x : Line) (hx : Sg x) (hN : 4294967300 < N) : B8 N o x = some (Gj o x) := by
 unfold B8
 rw [Su, rw2, rw2, rw2, rw2, TU x.Call hx hN]
 simp only [Option.bind_some]
 rw [K4, K4]
 simp only [Option.bind_some]
 generalize (decide (1 <= x.Num) && decide (x.Num <= 65535)) = a
 generalize (decide (1 <= x.Khz) && decide (x.Khz <= 10000000)) = b
 generalize (decide (1 <= x.Mode) && decide (x.Mode <= 3)) = c
 generalize (decide (0 <= x.Minute) && decide (x.Minute <= 20000)) = d
 generalize FR x.Call = e
 cases a <;> cases b <;> cases c <;> cases d <;> cases e <;> first | rfl | (simp only [cond_true, cond_false, Bool.true_and, Bool.not_true, Bool.not_false, Option.bind_some]; cases CJ o x.Sent <;> rfl)
def okJ (l : List Int) (i : Nat) : Bool := match l[i]? with
 | some x => decide (1 <= x /\ x <= 20000) && (decide (i = 0) || match l[i - 1]? with
  | some y => decide (y < x)
  | none => true)
 | none => true
theorem Tq {n : Nat} {ok : Nat -> Bool} : Kc n ok = true ↔ ∀ i, i < n -> ok i = true := ⟨fun h _ hi => Tp h hi, RJ⟩
theorem US : ∀ (l : List Int), Sb l = true ↔ ∀ i, i < l.length -> (i = 0 \/ ∃ x y, l[i]? = some x /\ l[i - 1]? = some y /\ y < x) := by
 intro l
 induction l with
 | nil => simp [Sb]
 | cons a r ih =>
  cases r with
  | nil =>
   simp only [Sb, true_iff]
   intro i hi
   exact .inl (by simpa using hi)
  | cons b r =>
   rw [Sb, Bool.and_eq_true, ih, decide_eq_true_eq]
   constructor
   ·rintro ⟨h1, h2⟩ i hi
    match i with
    | 0 => exact .inl rfl
    | 1 => exact .inr ⟨b, a, rfl, rfl, h1⟩
    | i + 2 =>
     rcases h2 (i + 1) (by simpa using hi) with h | ⟨x, y, e1, e2, h⟩
     ·omega
     ·exact .inr ⟨x, y, e1, e2, h⟩
   ·intro h
    refine ⟨?_, fun i hi => ?_⟩
    ·rcases h 1 (by simp) with h | ⟨x, y, e1, e2, h⟩
     ·omega
     ·cases e1; cases e2; exact h
    ·match i with
     | 0 => exact .inl rfl
     | i + 1 =>
      rcases h (i + 2) (by simpa using hi) with h | ⟨x, y, e1, e2, h⟩
      ·omega
      ·exact .inr ⟨x, y, e1, e2, h⟩
theorem S1 (l : List Int) : Kv l = (Kc l.length (okJ l) && decide (l.length <= 16)) := by
 unfold Kv
 rw [<- Bool.and_assoc]
 congr 1
 rw [Bool.eq_iff_iff, Bool.and_eq_true, US, Tq, List.all_eq_true]
 constructor
 ·rintro ⟨h1, h2⟩ i hi
  unfold okJ
  rw [List.getElem?_eq_getElem hi]
  have := h1 l[i] (List.getElem_mem hi)
  simp only [this, Bool.true_and]
  rcases h2 i hi with h | ⟨x, y, e1, e2, h⟩
  ·rw [decide_eq_true h]; rfl
  ·rw [List.getElem?_eq_getElem hi] at e1
   cases e1
   rw [e2]
   simp [h]
 ·intro h
  refine ⟨fun x hx => ?_, fun i hi => ?_⟩
  ·obtain ⟨i, hi, rfl⟩ := List.mem_iff_getElem.1 hx
   have := h i hi
   unfold okJ at this
   rw [List.getElem?_eq_getElem hi] at this
   simp only [Bool.and_eq_true] at this
   exact this.1
  ·by_cases h0 : i = 0
   ·exact .inl h0
   ·have := h i hi
    unfold okJ at this
    rw [List.getElem?_eq_getElem hi] at this
    have hi1 : i - 1 < l.length := by omega
    rw [List.getElem?_eq_getElem hi1] at this
    simp only [Bool.and_eq_true, decide_eq_false h0, Bool.false_or, decide_eq_true_eq] at this
    exact .inr ⟨l[i], l[i - 1], List.getElem?_eq_getElem hi, List.getElem?_eq_getElem hi1, this.2⟩
theorem Ub (l : List Int) (hl : l.length < 4000000000) (hN : 4294967300 < N) : EL N l = some (Kv l) := by
 rw [S1]
 unfold EL
 rw [Mg (n := l.length) (okJ l) false (fun i hi => by
  unfold EU
  rw [DC hi, cond_true, CM hi, Option.bind_some, lw, Option.bind_some, FJ i (by omega)]
  unfold okJ
  rw [List.getElem?_eq_getElem hi]
  simp only [Bool.decide_and]
  cases (decide (1 <= l[i]) && decide (l[i] <= 20000)) with
  | false => rfl
  | true =>
   rw [Bool.not_true, cond_false, Bool.true_and]
   by_cases h0 : i = 0
   ·subst h0; rfl
   ·have hi1 : i - 1 < l.length := by omega
    rw [decide_eq_true (show (i : Int) > 0 by omega), cond_true, TB i (by omega) (by omega), CM hi1, Option.bind_some, List.getElem?_eq_getElem hi1, decide_eq_false h0, Bool.false_or]
    simp only
    rw [show decide (l[i] <= l[i - 1]) = !decide (l[i - 1] < l[i]) by rw [<- decide_not, decide_eq_decide]; omega]
    cases decide (l[i - 1] < l[i]) <;> rfl) (by
  unfold EU
  rw [Cs, cond_false]) (by omega)]
 cases Kc l.length (okJ l) with
 | false => rfl
 | true => 
  rw [cond_true, Bool.true_and]
  congr 1
  rw [decide_eq_decide]; omega
theorem TT (l : List Int) (hl : l.length < 4000000000) (hN : 4294967300 < N) : Gm N l = some (Kv l) := by
 rw [S1]
 unfold Gm
 rw [Mg (n := l.length) (okJ l) false (fun i hi => by
  unfold Ei
  rw [DC hi, cond_true, CM hi, Option.bind_some, rw2, Option.bind_some, FJ i (by omega)]
  unfold okJ
  rw [List.getElem?_eq_getElem hi]
  simp only [Bool.decide_and]
  cases (decide (1 <= l[i]) && decide (l[i] <= 20000)) with
  | false => rfl
  | true =>
   rw [Bool.not_true, cond_false, Bool.true_and]
   by_cases h0 : i = 0
   ·subst h0; rfl
   ·have hi1 : i - 1 < l.length := by omega
    rw [decide_eq_true (show (i : Int) > 0 by omega), cond_true, Option.bind_some, TB i (by omega) (by omega), CM hi1, Option.bind_some, List.getElem?_eq_getElem hi1, decide_eq_false h0, Bool.false_or]
    simp only
    rw [show decide (l[i] <= l[i - 1]) = !decide (l[i - 1] < l[i]) by rw [<- decide_not, decide_eq_decide]; omega]
    cases decide (l[i - 1] < l[i]) <;> rfl) (by
  unfold Ei
  rw [Cs, cond_false]) (by omega)]
 cases Kc l.length (okJ l) with
 | false => rfl
 | true => 
  rw [cond_true, Bool.true_and]
  congr 1
  rw [decide_eq_decide]; omega
structure Sn (l : Log) : Prop where
 j : l.Jumps.length < 4000000000
 n : l.Lines.length < 4000000000
 x : ∀ x, x ∈ l.Lines -> Sg x
theorem Qq {o : Ac} {l : List Line} {k : Nat} (h : Hz o l = some k) : k < l.length /\ Pn o l k = false /\ ∀ i, i < k -> Pn o l i = true := by
 unfold Hz at h
 rw [List.find?_range_eq_some] at h
 obtain ⟨h1, h2, h3⟩ := h
 refine ⟨by simpa using h2, by simpa using h1, fun i hi => ?_⟩
 have := h3 i hi
 simpa using this
theorem Qr {o : Ac} {l : List Line} (h : Hz o l = none) : ∀ i, i < l.length -> Pn o l i = true := by
 unfold Hz at h
 rw [List.find?_range_eq_none] at h
 intro i hi
 have := h i hi
 simpa using this
theorem Nn {body : Int -> Option (A4 (Int × Int) Int)} (o : Ac) (l : List Line) (hb : ∀ i, i < l.length -> body (i : Int) = some (bif Pn o l i then .next ((i + 1 : Nat) : Int) else .ret (21, ((i + 1 : Nat) : Int))))
  (he : body (l.length : Int) = some (.done (l.length : Int))) (hN : l.length < N) : ((AJ body N 0).bind fun o => o.k (fun r => some r) (fun _ => some ((0 : Int), (0 : Int)))) = some (match Hz o l with | some i => (21, (i : Int) + 1) | none => (0, 0)) := by
 cases h : Hz o l with
 | some k =>
  obtain ⟨h1, h2, h3⟩ := Qq h
  have := Hx (body := body) (fun i => (i : Int)) (o := .ret (21, ((k + 1 : Nat) : Int))) k (fun i hi => by rw [hb i (by omega), h3 i hi]; rfl) (by rw [hb k h1, h2]; rfl) (fun s' h => by cases h) (N := N) (by omega)
  rw [show (0 : Int) = ((0 : Nat) : Int) from rfl, this]
  rfl
 | none =>
  have h3 := Qr h
  have := Hx (body := body) (fun i => (i : Int)) (o := .done (l.length : Int)) l.length (fun i hi => by rw [hb i hi, h3 i hi]; rfl) he (fun s' h => by cases h) hN
  rw [show (0 : Int) = ((0 : Nat) : Int) from rfl, this]
  rfl
theorem K3 (a b c : Int) : (decide (b <= a) && decide (a <= c)) = decide (b <= a /\ a <= c) := (Bool.decide_and _ _).symm
theorem Ui (o : Ac) (l : Log) (hl : Sn l) (hN : 4294967300 < N) : D0 N o l = some (chk o l) := by
 unfold D0 chk
 by_cases h1 : l.Jumps.length > 16 \/ l.Lines.length > 400
 ·rw [if_pos h1, show (decide ((l.Jumps.length : Int) > 16) || decide ((l.Lines.length : Int) > 400)) = true by simp; omega]
  rfl
 ·rw [if_neg h1, show (decide ((l.Jumps.length : Int) > 16) || decide ((l.Lines.length : Int) > 400)) = false by simp; omega, cond_false]
  unfold DO
  rw [lw, lw, lw, Ub _ hl.j hN, K3, K3, K3]
  simp only [Option.bind_some]
  have e : Nv l = (EH l.Call && (decide (1 <= l.Category /\ l.Category <= 9) && (decide (1 <= l.Power /\ l.Power <= 9999) && (decide (0 <= l.Claimed /\ l.Claimed <= 1000000) && Kv l.Jumps)))) := rfl
  rw [e]
  have key := Nn (N := N) (body := DL N o l false) o l.Lines (fun i hi => by
   unfold DL
   have hfi := hl.x _ (List.getElem_mem hi)
   have hln := hl.n
   rw [DC hi, cond_true, CM hi, Option.bind_some, Rv _ _ hfi hN, Option.bind_some, FJ i (by omega)]
   unfold Pn
   rw [List.getElem?_eq_getElem hi]
   simp only
   cases Gj o l.Lines[i] with
   | false => rfl
   | true =>
    rw [Bool.not_true, cond_false, Bool.true_and]
    by_cases h0 : i = 0
    ·subst h0; rfl
    ·have hi1 : i - 1 < l.Lines.length := by omega
     rw [decide_eq_true (show (i : Int) > 0 by omega), cond_true, TB i (by omega) (by omega), CM hi1, Option.bind_some, List.getElem?_eq_getElem hi1, decide_eq_false h0, Bool.false_or]
     simp only [Option.bind_some]
     rw [show decide (l.Lines[i].Num <= l.Lines[i - 1].Num) = !decide (l.Lines[i - 1].Num < l.Lines[i].Num) by rw [<- decide_not, decide_eq_decide]; omega, show decide (l.Lines[i].Minute < l.Lines[i - 1].Minute) = !decide (l.Lines[i - 1].Minute <= l.Lines[i].Minute) by rw [<- decide_not, decide_eq_decide]; omega]
     cases decide (l.Lines[i - 1].Num < l.Lines[i].Num) <;> cases decide (l.Lines[i - 1].Minute <= l.Lines[i].Minute) <;> rfl) (by
   unfold DL
   rw [Cs, cond_false]) (by have := hl.n; omega)
  generalize EH l.Call = a
  generalize decide (1 <= l.Category /\ l.Category <= 9) = b
  generalize decide (1 <= l.Power /\ l.Power <= 9999) = c
  generalize decide (0 <= l.Claimed /\ l.Claimed <= 1000000) = d
  generalize Kv l.Jumps = e
  cases a <;> cases b <;> cases c <;> cases d <;> cases e <;> first | rfl | exact key
theorem UJ (l : Log) (hl : Sn l) (hN : 4294967300 < N) : Ht N l = some (Nv l) := by
 unfold Ht
 rw [SB _ hN, rw2, rw2, rw2, TT _ hl.j hN, K3, K3, K3]
 simp only [Option.bind_some]
 have e : Nv l = (EH l.Call && (decide (1 <= l.Category /\ l.Category <= 9) && (decide (1 <= l.Power /\ l.Power <= 9999) && (decide (0 <= l.Claimed /\ l.Claimed <= 1000000) && Kv l.Jumps)))) := rfl
 rw [e]
 cases EH l.Call <;> cases decide (1 <= l.Category /\ l.Category <= 9) <;> cases decide (1 <= l.Power /\ l.Power <= 9999) <;> cases decide (0 <= l.Claimed /\ l.Claimed <= 1000000) <;> rfl
theorem TW (o : Ac) (l : Log) (hl : Sn l) (hN : 4294967300 < N) : E7 N o l = some (chk o l) := by
 unfold E7 chk
 by_cases h1 : l.Jumps.length > 16 \/ l.Lines.length > 400
 ·rw [if_pos h1, show (decide ((l.Jumps.length : Int) > 16) || decide ((l.Lines.length : Int) > 400)) = true by simp; omega]
  rfl
 ·rw [if_neg h1, show (decide ((l.Jumps.length : Int) > 16) || decide ((l.Lines.length : Int) > 400)) = false by simp; omega, cond_false, UJ l hl hN, Option.bind_some]
  cases hd : Nv l with
  | false => rfl
  | true =>
   rw [Bool.not_true, cond_false, if_neg (by decide)]
   exact Nn (N := N) (body := Da N o l true) o l.Lines (fun i hi => by
    unfold Da
    have hfi := hl.x _ (List.getElem_mem hi)
    have hln := hl.n
    rw [DC hi, cond_true, CM hi, Option.bind_some, Rk _ _ hfi hN, Option.bind_some, FJ i (by omega)]
    unfold Pn
    rw [List.getElem?_eq_getElem hi]
    simp only
    cases Gj o l.Lines[i] with
    | false => rfl
    | true =>
     rw [Bool.not_true, cond_false, Bool.true_and]
     by_cases h0 : i = 0
     ·subst h0; rfl
     ·have hi1 : i - 1 < l.Lines.length := by omega
      rw [decide_eq_true (show (i : Int) > 0 by omega), cond_true, TB i (by omega) (by omega), CM hi1, Option.bind_some, List.getElem?_eq_getElem hi1, decide_eq_false h0, Bool.false_or]
      simp only [Option.bind_some]
      rw [show decide (l.Lines[i].Num <= l.Lines[i - 1].Num) = !decide (l.Lines[i - 1].Num < l.Lines[i].Num) by rw [<- decide_not, decide_eq_decide]; omega, show decide (l.Lines[i].Minute < l.Lines[i - 1].Minute) = !decide (l.Lines[i - 1].Minute <= l.Lines[i].Minute) by rw [<- decide_not, decide_eq_decide]; omega]
      cases decide (l.Lines[i - 1].Num < l.Lines[i].Num) <;> cases decide (l.Lines[i - 1].Minute <= l.Lines[i].Minute) <;> rfl) (by
    unfold Da
    rw [Cs, cond_false]) (by have := hl.n; omega)
end
end
def Fx (N : Nat) (x0 : Log) : Option Wn :=
 ((AZ ([67, 65, 76, 76, 32] : Wn) x0.Call).bind fun r24 => some r24)
theorem MC : Af Tryz.prog 154 := fun _ _ => by kernel_rfl
theorem NY (N : Nat) (w0 : World) (F0 : Mem) (hF : Wp w0 F0) (x0 : Log) (a0_4 : Wo) (n0_4 : Nat) (hb0_4 : LC x0.Jumps.length n0_4) (hs0_4 : SlA AM F0 a0_4 x0.Jumps) (a0_5 : Wo) (n0_5 : Nat) (hb0_5 : LC x0.Lines.length n0_5) (hs0_5 : SlA AL F0 a0_5 x0.Lines) (r : Wn) (h : Fx N x0 = some r) :
  Calls Tryz.prog 154 ([(.agg (AF x0 a0_4 n0_4 a0_5 n0_5))] : List Value).toArray w0 (AA w0 F0 fun F' v => v = (sv r)) := by
 have hs0 := V4 hF
 refine Go 6 Tryz.func154 <| Sq (Rg [0, 1] ?_)
 refine Bx' 27 (AF x0 a0_4 n0_4 a0_5 n0_5) hs0 (fun b21 w22 hs23 => ?_)
 refine Vs 1 <| Nss (Rg (rG 4) ?_)
 refine Vs 1 <| Ld hs23.at0 ?_
 obtain ⟨r24, hr25, h26⟩ := bind_some h
 refine V 5 9 (Av (t := 9) (t' := 9) (x := (.const (sv ([67, 65, 76, 76, 32] : Wn)))) (y := (.tmp 4)) (a := ([67, 65, 76, 76, 32] : Wn)) (b := x0.Call) (v := r24) rfl rfl hr25) <| Vs 1 <| Nt <| Rt ?_
 obtain rfl := Aa h26
 exact Re [(sv r24)] hs23 rfl
def DY (N : Nat) (x0 : Log) : (Wn × Int) -> Option (A4 Wn (Wn × Int)) := fun s27 =>
 (bif (decide (s27.2 < (x0.Jumps.length : Int))) then ((idx x0.Jumps s27.2).bind fun x51 => ((strconv_Itoa N x51).bind fun r65 => ((AZ ([32] : Wn) r65).bind fun r73 => ((AZ s27.1 r73).bind fun r76 => some (.next (r76, (W64 (s27.2 + 1)))))))) else some (.done (s27.1, s27.2)))
def DU (N : Nat) (x0 : Log) : Option Wn :=
 ((AJ (DY N x0) N (([74, 85, 77, 80, 83] : Wn), 0)).bind fun o => o.k (fun r => some r) (fun s36 => some s36.1))
theorem J1 : Af Tryz.prog 160 := fun _ _ => by kernel_rfl
theorem KS (N : Nat) (w0 : World) (F0 : Mem) (hF : Wp w0 F0) (hG : Br F0) (x0 : Log) (a0_4 : Wo) (n0_4 : Nat) (hb0_4 : LC x0.Jumps.length n0_4) (hs0_4 : SlA AM F0 a0_4 x0.Jumps) (a0_5 : Wo) (n0_5 : Nat) (hb0_5 : LC x0.Lines.length n0_5) (hs0_5 : SlA AL F0 a0_5 x0.Lines) (r : Wn) (h : DU N x0 = some r) :
  Calls Tryz.prog 160 ([(.agg (AF x0 a0_4 n0_4 a0_5 n0_5))] : List Value).toArray w0 (AA w0 F0 fun F' v => v = (sv r)) := by
 have hs0 := V4 hF
 refine Go 20 Tryz.func160 <| Sq (Rg [0, 1] ?_)
 refine Bx' 27 (AF x0 a0_4 n0_4 a0_5 n0_5) hs0 (fun b21 w22 hs23 => ?_)
 refine Vs 1 <| Nss (Rg [0] ?_)
 refine Vs 1 <| Nss <| Sq (Rg (rG 4) ?_)
 refine Vs 1 <| Ld hs23.at0 <| Vs 2 <| Nt ?_
 obtain ⟨o24, ho25, h26⟩ := bind_some h
 refine V9 (fun f w => ∃ (s36 : (Wn × Int)) (F2 : Mem), o24 = .done s36 /\ HS w0 F0 w F2 [] /\ V2 F0 F2 /\ FI f [] [(3, (sv s36.1))]) ?_ ?_
 ·refine Bk ?_
  refine V1 (by kernel_rfl) (fun m f w => ∃ (s27 : (Wn × Int)) (F1 : Mem), AJ (DY N x0) m s27 = some o24 /\ HS w0 F0 w F1 [] /\ V2 F0 F1 /\ FI f [] [(3, (sv s27.1)), (7, (.slice a0_4 x0.Jumps.length n0_4)), (8, (vi (x0.Jumps.length : Int))), (9, (vi s27.2))]) N ⟨(([74, 85, 77, 80, 83] : Wn), 0), F0, ho25, hs23.dr0, (V3 _), fI⟩ ?_
  rintro m42 f w28 ⟨s27, F1, hit43, hs29, le30, ⟨_, rfl⟩⟩
  obtain ⟨m44, fl45, rfl, hb46, hnx47⟩ := AC hit43
  refine Sq (Rg [0] ?_)
  refine Vs 1 <| Nss <| Cd hb46 (fun hb48 h49 => ?_) (fun hb48 h50 => ?_)
  ·refine Sc ?_
   refine Ab <| Sq <| Bk <| Sq (Rg [0, 1, 2] ?_)
   obtain ⟨x51, hx52, h54⟩ := bind_some h49
   obtain ⟨hi53, hx52'⟩ := Aj hx52
   obtain ⟨b55, o56, C57, E58, fz59, rfl, hF61, hE62⟩ := Wa (V5 hs0_4 le30) hx52'
   have hc64 := hE62 _ _ hx52'
   refine Ix hi53 <| Lx 0 (hs29.pers _ _ hF61) hc64 <| Vs 1 <| Nt <| Rg (rG 6) <| Vs 2 ?_
   obtain ⟨r65, hr66, h67⟩ := bind_some h54
   refine Cl' AR hs29 (AU N w28 F1 hs29.pers (hG.mono le30) x51 _ hr66) ?_
   rintro _ F3 w69 hs70 le71 rfl
   obtain ⟨r73, hr74, h75⟩ := bind_some h67
   refine V 16 9 (Av (t := 9) (t' := 9) (x := (.const (sv ([32] : Wn)))) (y := (.tmp 15)) (a := ([32] : Wn)) (b := r65) (v := r73) rfl rfl hr74) ?_
   obtain ⟨r76, hr77, h78⟩ := bind_some h75
   refine V 17 9 (Av (t := 9) (t' := 9) (x := (.tmp 13)) (y := (.tmp 16)) (a := s27.1) (b := r73) (v := r76) rfl rfl hr77) <| Vs 1 <| VY <| Ap <| Ab <| Rg [0, 1] <| Vs 2 <| VY ?_
   have hn79 := AD h78 hnx47
   exact ⟨m44, Nat.lt_succ_self _, (r76, (W64 (s27.2 + 1))), F3, hn79, hs70, (le30.t le71), fI⟩
  ·refine Ex ?_
   refine Al <| Al <| Ay rfl ?_
   have ho80 := AE h50 hnx47
   exact .inl ⟨rfl, (s27.1, s27.2), F1, ho80, hs29, le30, fI⟩
 ·rintro f w37 ⟨s36, F2, rfl, hs38, le39, ⟨_, rfl⟩⟩
  have h81 := A6 h26
  refine Ab <| Sq (Rg [0, 1] ?_)
  refine Vs 2 <| Nt <| Rt ?_
  obtain rfl := Aa h81
  exact Re [(sv s36.1)] hs38 rfl
def BR (N : Nat) (x0 : Ac) (x1 : Line) : Option (Wn × Int) :=
 ((Cw N ({ Report := x0.Report, Serial := x0.Serial, Zone := x0.Zone } : Ac) x1).bind fun r27 => (bif (!r27) then some (([] : Wn), 1) else ((Co N x1.Minute).bind fun r38 => ((Bb N ({ Report := x0.Report, Serial := x0.Serial, Zone := x0.Zone } : Ac) ({ Report := x1.Sent.Report, Serial := x1.Sent.Serial, Zone := x1.Sent.Zone } : Ad)).bind fun r46 => ((Bb N ({ Report := x0.Report, Serial := x0.Serial, Zone := x0.Zone } : Ac) ({ Report := x1.Got.Report, Serial := x1.Got.Serial, Zone := x1.Got.Zone } : Ad)).bind fun r54 => (((H8 ([32, 77, 86, 68] : Wn) x1.Mode (W64 (x1.Mode + 1))).bind fun r73 => ((strconv_Itoa N x1.Num).bind fun r76 => ((strconv_Itoa N x1.Khz).bind fun r84 => ((strings_Join N ([([81, 83, 79] : Wn), r76, r84, r73, r38.1, x1.Call, ([62] : Wn), r46.1, ([60] : Wn), r54.1]) ([32] : Wn)).bind fun r101 => some r101)))).bind fun j67 => some (j67, 0)))))))
theorem Eu : Af Tryz.prog 27 := fun _ _ => by kernel_rfl
theorem EO (N : Nat) (w0 : World) (F0 : Mem) (hF : Wp w0 F0) (hG : Br F0) (x0 : Ac) (x1 : Line) (r : (Wn × Int)) (h : BR N x0 x1 = some r) :
  Calls Tryz.prog 27 ([(.agg (Ag x0)), (.agg (BL x1))] : List Value).toArray w0 (AA w0 F0 fun F' v => v = (.tuple #[(sv r.1), (vi r.2)])) := by
 have hs0 := V4 hF
 refine Go 55 Tryz.func27 <| Sq (Rg (rG 4) ?_)
 refine Bx' 23 (Ag x0) hs0 (fun b21 w22 hs23 => ?_)
 refine Bx' 34 (BL x1) hs23 (fun b24 w25 hs26 => ?_)
 refine Vs 2 <| Nss <| Sq (Rg (rG 4) ?_)
 refine Ld hs26.at1 <| Ld hs26.at0 ?_
 obtain ⟨r27, hr28, h29⟩ := bind_some h
 refine Cl' GD hs26 (Hh N w25 F0 hs26.pers (({ Report := x0.Report, Serial := x0.Serial, Zone := x0.Zone } : Ac)) x1 _ hr28) ?_
 rintro _ F1 w31 hs32 le33 rfl
 refine Vs 1 <| Nt <| Cd h29 (fun hb35 h36 => ?_) (fun hb35 h37 => ?_)
 ·refine Sq (Rg [0, 1] ?_)
  refine Vs 2 <| Nt <| Rt <| Ae ?_
  obtain rfl := Aa h36
  exact Re [(sv (([] : Wn))), (vi 1)] hs32 rfl
 ·refine Sc ?_
  refine Ab <| Sq (Rg (rG 8) ?_)
  refine Vs 1 <| Ld hs32.at0 ?_
  obtain ⟨r38, hr39, h40⟩ := bind_some h37
  refine Cl' Hc hs32 (H6 N w31 F1 hs32.pers (hG.mono le33) x1.Minute _ hr39) ?_
  rintro _ F2 w42 hs43 le44 rfl
  refine Vs 5 <| Nss (Rg (rG 9) ?_)
  refine Ld hs43.at1 <| Vs 1 <| Ld hs43.at0 ?_
  obtain ⟨r46, hr47, h48⟩ := bind_some h40
  refine Cl' De hs43 (DG N w42 F2 hs43.pers (hG.mono (le33.t le44)) (({ Report := x0.Report, Serial := x0.Serial, Zone := x0.Zone } : Ac)) (({ Report := x1.Sent.Report, Serial := x1.Sent.Serial, Zone := x1.Sent.Zone } : Ad)) _ hr47) ?_
  rintro _ F3 w50 hs51 le52 rfl
  refine Vs 5 <| Nss (Rg (rG 9) ?_)
  refine Ld hs51.at1 <| Vs 1 <| Ld hs51.at0 ?_
  obtain ⟨r54, hr55, h56⟩ := bind_some h48
  refine Cl' De hs51 (DG N w50 F3 hs51.pers (hG.mono ((le33.t le44).trans le52)) (({ Report := x0.Report, Serial := x0.Serial, Zone := x0.Zone } : Ac)) (({ Report := x1.Got.Report, Serial := x1.Got.Serial, Zone := x1.Got.Zone } : Ad)) _ hr55) ?_
  rintro _ F4 w58 hs59 le60 rfl
  refine Vs 5 <| Nss ?_
  obtain ⟨j67, hj71, h72⟩ := bind_some h56
  refine RD 21 21 [(sb b24 (BL x1) 34), (sb b21 (Ag x0) 23)] [] hs59 (fun f w => ∃ (F5 : Mem), HS w0 F0 w F5 [] /\ V2 F4 F5 /\ FI f [] [(4, (sv j67)), (5, (vi 0))]) (fun wd62 hw63 => ?_) ?_
  ·refine Dvl [0] (tf 1 20) ?_
   refine Dl 1 (fun _ hq => (hq.1.2 0 _ _ rfl)) <| Dvl [3] [tt, tt, ff, tt, ff, ff, ff, ff, ff, ff, ff, ff, ff, ff, ff, ff, ff, ff, ff, ff, ff] <| Dl 4 (fun _ hq => (hq.1.2 0 _ _ rfl)) <| Dvl [6] [tt, tt, ff, tt, tt, ff, tt, ff, ff, ff, ff, ff, ff, ff, ff, ff, ff, ff, ff, ff, ff] <| Dl 7 (fun _ hq => (hq.1.2 0 _ _ rfl)) <| Dvl [8] [tt, tt, ff, tt, tt, ff, tt, tt, tt, ff, ff, ff, ff, ff, ff, ff, ff, ff, ff, ff, ff] <| Dl 9 (fun _ hq => (hq.1.2 0 _ _ rfl)) <| Dvl [10] [tt, tt, ff, tt, tt, ff, tt, tt, tt, tt, tt, ff, ff, ff, ff, ff, ff, ff, ff, ff, ff] ?_
   obtain ⟨r73, hr74, h75⟩ := bind_some hj71
   refine Dtl 11 47 9 (sv r73) [tt, tt, ff, tt, tt, ff, tt, tt, tt, tt, tt, tt, ff, ff, ff, ff, ff, ff, ff, ff, ff] (fun _ hq => Ef (t := 9) (x := (.const (sv ([32, 77, 86, 68] : Wn)))) (lo := (some (.tmp 43))) (hi := (some (.tmp 46))) (a := ([32, 77, 86, 68] : Wn)) (il := x1.Mode) (ih := (W64 (x1.Mode + 1))) (v := r73) rfl (by kernel_rfl) rfl rfl hr74) <| Dvl [12, 13] [tt, tt, ff, tt, tt, ff, tt, tt, tt, tt, tt, tt, tt, tt, ff, ff, ff, ff, ff, ff, ff] <| Dl 14 (fun _ hq => (hq.1.2 0 _ _ rfl)) <| Dvl [15, 16] [tt, tt, ff, tt, tt, ff, tt, tt, tt, tt, tt, tt, tt, tt, tt, tt, tt, ff, ff, ff, ff] <| D1 2 ?_
   obtain ⟨r76, hr77, h78⟩ := bind_some h75
   refine DCl AR hw63 (AU N wd62 F4 hw63.pers (hG.mono (((le33.t le44).trans le52).trans le60)) x1.Num _ hr77) ?_
   rintro _ F6 w80 hs81 le82 rfl
   refine D1 5 ?_
   obtain ⟨r84, hr85, h86⟩ := bind_some h78
   refine DCl AR hs81 (AU N w80 F6 hs81.pers (hG.mono ((((le33.t le44).trans le52).trans le60).trans le82)) x1.Khz _ hr85) ?_
   rintro _ F7 w88 hs89 le90 rfl
   refine D1 17 <| DBs 9 [(sv (([81, 83, 79] : Wn))), (sv r76), (sv r84), (sv r73), (sv r38.1), (sv x1.Call), (sv (([62] : Wn))), (sv r46.1), (sv (([60] : Wn))), (sv r54.1)] hs89 (le82.t le90) (fun b92 w93 hs94 => ?_)
   have hr96 : Ar AK 9 F7 (some ⟨b92, 0, none⟩) 10 [([81, 83, 79] : Wn), r76, r84, r73, r38.1, x1.Call, ([62] : Wn), r46.1, ([60] : Wn), r54.1] (some b92, .cells ([(sv (([81, 83, 79] : Wn))), (sv r76), (sv r84), (sv r73), (sv r38.1), (sv x1.Call), (sv (([62] : Wn))), (sv r46.1), (sv (([60] : Wn))), (sv r54.1)] : List Value).toArray 9 (0, 0)) := Wi ⟨rfl, ⟨rfl, ⟨rfl, ⟨rfl, ⟨rfl, ⟨rfl, ⟨rfl, ⟨rfl, ⟨rfl, ⟨rfl, rfl⟩⟩⟩⟩⟩⟩⟩⟩⟩⟩ (by simp)
   refine D1 18 ?_
   have hb100 := Wg hr96
   obtain ⟨F8, hs97, le98, hs99⟩ := hs94.fr0 hr96
   obtain ⟨r101, hr102, h103⟩ := bind_some h86
   refine DCl Ca hs97 (CA N w93 F8 hs97.pers ([([81, 83, 79] : Wn), r76, r84, r73, r38.1, x1.Call, ([62] : Wn), r46.1, ([60] : Wn), r54.1]) (some ⟨b92, 0, none⟩) 10 hb100 hs99 (([32] : Wn)) _ hr102) ?_
   rintro _ F9 w105 hs106 le107 rfl
   refine Dvl [19, 20] (tf 21 0) ?_
   obtain rfl := Aa h103
   exact Wf (by kernel_rfl) ⟨F9, hs106.dr0.dr0, (((le82.t le90).trans le98).trans le107), fI⟩
  ·rintro f w64 ⟨F5, hs65, le66, ⟨_, rfl⟩⟩
   refine Ab <| Rt ?_
   obtain rfl := Aa h72
   exact Re [(sv j67), (vi 0)] hs65 rfl
theorem LN : Af Tryz.prog 156 := fun _ _ => by kernel_rfl
set_option maxRecDepth 100000 in
theorem NX (w0 : World) (F0 : Mem) (hF : Wp w0 F0) (b o : Nat) : Calls Tryz.prog 156 ([(.pointer (some ⟨b, o, none⟩))] : List Value).toArray w0 (AA w0 F0 fun _ v => v = .pointer (some ⟨b, o + 1, none⟩)) := by
 have hs0 := V4 hF
 refine Go 6 Tryz.func156 <| Sq <| Rg [0] <| V 2 194 (Hr (x := .const (.pointer none)) (v := .pointer none) rfl) <| VY <| Ab <| Sq <| Rg [0, 1, 2, 3] <| Vs 2 <| V 5 0 (CU (s := 27) (x := .tmp 4) (i := 1) (b := b) (o0 := o) (o := 1) (k := 1) rfl (by kernel_rfl) (by decide) rfl) <| Vs 1 <| VY <| Ab <| Rt ?_
 exact Re [(.pointer (some ⟨b, o + 1, none⟩))] hs0 rfl
theorem LM : Af Tryz.prog 157 := fun _ _ => by kernel_rfl
set_option maxRecDepth 100000 in
theorem NW (w0 : World) (F0 : Mem) (hF : Wp w0 F0) (b o : Nat) : Calls Tryz.prog 157 ([(.pointer (some ⟨b, o, none⟩))] : List Value).toArray w0 (AA w0 F0 fun _ v => v = .pointer (some ⟨b, o + 2, none⟩)) := by
 have hs0 := V4 hF
 refine Go 6 Tryz.func157 <| Sq <| Rg [0] <| V 2 194 (Hr (x := .const (.pointer none)) (v := .pointer none) rfl) <| VY <| Ab <| Sq <| Rg [0, 1, 2, 3] <| Vs 2 <| V 5 0 (CU (s := 27) (x := .tmp 4) (i := 2) (b := b) (o0 := o) (o := 2) (k := 1) rfl (by kernel_rfl) (by decide) rfl) <| Vs 1 <| VY <| Ab <| Rt ?_
 exact Re [(.pointer (some ⟨b, o + 2, none⟩))] hs0 rfl
theorem LL : Af Tryz.prog 158 := fun _ _ => by kernel_rfl
set_option maxRecDepth 100000 in
theorem NV (w0 : World) (F0 : Mem) (hF : Wp w0 F0) (b o : Nat) : Calls Tryz.prog 158 ([(.pointer (some ⟨b, o, none⟩))] : List Value).toArray w0 (AA w0 F0 fun _ v => v = .pointer (some ⟨b, o + 3, none⟩)) := by
 have hs0 := V4 hF
 refine Go 6 Tryz.func158 <| Sq <| Rg [0] <| V 2 194 (Hr (x := .const (.pointer none)) (v := .pointer none) rfl) <| VY <| Ab <| Sq <| Rg [0, 1, 2, 3] <| Vs 2 <| V 5 0 (CU (s := 27) (x := .tmp 4) (i := 3) (b := b) (o0 := o) (o := 3) (k := 1) rfl (by kernel_rfl) (by decide) rfl) <| Vs 1 <| VY <| Ab <| Rt ?_
 exact Re [(.pointer (some ⟨b, o + 3, none⟩))] hs0 rfl
def Dr (N : Nat) (x0 : Log) (z0 : Wn) : Option Wn :=
 (((AZ z0 ([32] : Wn)).bind fun r34 => ((strconv_Itoa N x0.Category).bind fun r40 => ((AZ r34 r40).bind fun r48 => some r48))).bind fun j29 => some j29)
theorem Jk : Af Tryz.prog 191 := fun _ _ => by kernel_rfl
theorem J6 (N : Nat) (w0 : World) (F0 : Mem) (hF : Wp w0 F0) (hG : Br F0) (x0 : Log) (a0_4 : Wo) (n0_4 : Nat) (hb0_4 : LC x0.Jumps.length n0_4) (hs0_4 : SlA AM F0 a0_4 x0.Jumps) (a0_5 : Wo) (n0_5 : Nat) (hb0_5 : LC x0.Lines.length n0_5) (hs0_5 : SlA AL F0 a0_5 x0.Lines) (bz0 : Nat) (z0 : Wn) (hz0 : F0 bz0 = some (oc #[(sv z0)] 9)) (bz1 : Nat) (hz1 : F0 bz1 = some (oc #[(fV 156 #[])] 195)) (r : Wn) (h : Dr N x0 z0 = some r) :
  Calls Tryz.prog 191 ([(.agg (AF x0 a0_4 n0_4 a0_5 n0_5)), (pt bz0 0), (pt bz1 0)] : List Value).toArray w0 (AA w0 F0 fun F' v => v = (sv r)) := by
 have hs0 := V4 hF
 refine Go 13 Tryz.func191 <| Sq (Rg [0, 1] ?_)
 refine Bx' 27 (AF x0 a0_4 n0_4 a0_5 n0_5) hs0 (fun b21 w22 hs23 => ?_)
 refine Vs 1 <| Nss ?_
 obtain ⟨j29, hj32, h33⟩ := bind_some h
 refine RD 9 9 [(sb b21 (AF x0 a0_4 n0_4 a0_5 n0_5) 27)] [] hs23 (fun f w => ∃ (F1 : Mem), HS w0 F0 w F1 [] /\ V2 F0 F1 /\ FI f [] [(4, (sv j29))]) (fun wd24 hw25 => ?_) ?_
 ·refine Dl 0 (fun _ hq => (hq.1.1 _ _ hz0)) ?_
  obtain ⟨r34, hr35, h36⟩ := bind_some hj32
  refine Dt 1 6 9 (sv r34) (fun _ hq => Av (t := 9) (t' := 9) (x := (.tmp 5)) (y := (.const (sv ([32] : Wn)))) (a := z0) (b := ([32] : Wn)) (v := r34) rfl rfl hr35) <| Dl 2 (fun _ hq => (hq.1.1 _ _ hz1)) <| D1 3 <| DCl LN hw25 (NX wd24 F0 hw25.pers b21 0) ?_
  rintro _ F2 w37 hs38 le39 rfl
  refine Dv [4] <| Dl 5 (fun _ hq => (hq.1.2 0 _ _ rfl)) <| D1 6 ?_
  obtain ⟨r40, hr41, h42⟩ := bind_some h36
  refine DCl AR hs38 (AU N w37 F2 hs38.pers (hG.mono le39) x0.Category _ hr41) ?_
  rintro _ F3 w44 hs45 le46 rfl
  obtain ⟨r48, hr49, h50⟩ := bind_some h42
  refine Dt 7 12 9 (sv r48) (fun _ hq => Av (t := 9) (t' := 9) (x := (.tmp 6)) (y := (.tmp 11)) (a := r34) (b := r40) (v := r48) rfl rfl hr49) <| Dv [8] ?_
  obtain rfl := Aa h50
  exact Wf (by kernel_rfl) ⟨F3, hs45.dr0, (le39.t le46), fI⟩
 ·rintro f w26 ⟨F1, hs27, le28, ⟨_, rfl⟩⟩
  refine Ab <| Rt ?_
  obtain rfl := Aa h33
  exact Re [(sv j29)] hs27 rfl
def Dp (N : Nat) (x0 : Log) (z0 : Wn) : Option Wn :=
 (((AZ z0 ([32] : Wn)).bind fun r34 => ((strconv_Itoa N x0.Power).bind fun r40 => ((AZ r34 r40).bind fun r48 => some r48))).bind fun j29 => some j29)
theorem Ji : Af Tryz.prog 191 := fun _ _ => by kernel_rfl
theorem J4 (N : Nat) (w0 : World) (F0 : Mem) (hF : Wp w0 F0) (hG : Br F0) (x0 : Log) (a0_4 : Wo) (n0_4 : Nat) (hb0_4 : LC x0.Jumps.length n0_4) (hs0_4 : SlA AM F0 a0_4 x0.Jumps) (a0_5 : Wo) (n0_5 : Nat) (hb0_5 : LC x0.Lines.length n0_5) (hs0_5 : SlA AL F0 a0_5 x0.Lines) (bz0 : Nat) (z0 : Wn) (hz0 : F0 bz0 = some (oc #[(sv z0)] 9)) (bz1 : Nat) (hz1 : F0 bz1 = some (oc #[(fV 157 #[])] 195)) (r : Wn) (h : Dp N x0 z0 = some r) :
  Calls Tryz.prog 191 ([(.agg (AF x0 a0_4 n0_4 a0_5 n0_5)), (pt bz0 0), (pt bz1 0)] : List Value).toArray w0 (AA w0 F0 fun F' v => v = (sv r)) := by
 have hs0 := V4 hF
 refine Go 13 Tryz.func191 <| Sq (Rg [0, 1] ?_)
 refine Bx' 27 (AF x0 a0_4 n0_4 a0_5 n0_5) hs0 (fun b21 w22 hs23 => ?_)
 refine Vs 1 <| Nss ?_
 obtain ⟨j29, hj32, h33⟩ := bind_some h
 refine RD 9 9 [(sb b21 (AF x0 a0_4 n0_4 a0_5 n0_5) 27)] [] hs23 (fun f w => ∃ (F1 : Mem), HS w0 F0 w F1 [] /\ V2 F0 F1 /\ FI f [] [(4, (sv j29))]) (fun wd24 hw25 => ?_) ?_
 ·refine Dl 0 (fun _ hq => (hq.1.1 _ _ hz0)) ?_
  obtain ⟨r34, hr35, h36⟩ := bind_some hj32
  refine Dt 1 6 9 (sv r34) (fun _ hq => Av (t := 9) (t' := 9) (x := (.tmp 5)) (y := (.const (sv ([32] : Wn)))) (a := z0) (b := ([32] : Wn)) (v := r34) rfl rfl hr35) <| Dl 2 (fun _ hq => (hq.1.1 _ _ hz1)) <| D1 3 <| DCl LM hw25 (NW wd24 F0 hw25.pers b21 0) ?_
  rintro _ F2 w37 hs38 le39 rfl
  refine Dv [4] <| Dl 5 (fun _ hq => (hq.1.2 0 _ _ rfl)) <| D1 6 ?_
  obtain ⟨r40, hr41, h42⟩ := bind_some h36
  refine DCl AR hs38 (AU N w37 F2 hs38.pers (hG.mono le39) x0.Power _ hr41) ?_
  rintro _ F3 w44 hs45 le46 rfl
  obtain ⟨r48, hr49, h50⟩ := bind_some h42
  refine Dt 7 12 9 (sv r48) (fun _ hq => Av (t := 9) (t' := 9) (x := (.tmp 6)) (y := (.tmp 11)) (a := r34) (b := r40) (v := r48) rfl rfl hr49) <| Dv [8] ?_
  obtain rfl := Aa h50
  exact Wf (by kernel_rfl) ⟨F3, hs45.dr0, (le39.t le46), fI⟩
 ·rintro f w26 ⟨F1, hs27, le28, ⟨_, rfl⟩⟩
  refine Ab <| Rt ?_
  obtain rfl := Aa h33
  exact Re [(sv j29)] hs27 rfl
def Dq (N : Nat) (x0 : Log) (z0 : Wn) : Option Wn :=
 (((AZ z0 ([32] : Wn)).bind fun r34 => ((strconv_Itoa N x0.Claimed).bind fun r40 => ((AZ r34 r40).bind fun r48 => some r48))).bind fun j29 => some j29)
theorem Jj : Af Tryz.prog 191 := fun _ _ => by kernel_rfl
theorem J5 (N : Nat) (w0 : World) (F0 : Mem) (hF : Wp w0 F0) (hG : Br F0) (x0 : Log) (a0_4 : Wo) (n0_4 : Nat) (hb0_4 : LC x0.Jumps.length n0_4) (hs0_4 : SlA AM F0 a0_4 x0.Jumps) (a0_5 : Wo) (n0_5 : Nat) (hb0_5 : LC x0.Lines.length n0_5) (hs0_5 : SlA AL F0 a0_5 x0.Lines) (bz0 : Nat) (z0 : Wn) (hz0 : F0 bz0 = some (oc #[(sv z0)] 9)) (bz1 : Nat) (hz1 : F0 bz1 = some (oc #[(fV 158 #[])] 195)) (r : Wn) (h : Dq N x0 z0 = some r) :
  Calls Tryz.prog 191 ([(.agg (AF x0 a0_4 n0_4 a0_5 n0_5)), (pt bz0 0), (pt bz1 0)] : List Value).toArray w0 (AA w0 F0 fun F' v => v = (sv r)) := by
 have hs0 := V4 hF
 refine Go 13 Tryz.func191 <| Sq (Rg [0, 1] ?_)
 refine Bx' 27 (AF x0 a0_4 n0_4 a0_5 n0_5) hs0 (fun b21 w22 hs23 => ?_)
 refine Vs 1 <| Nss ?_
 obtain ⟨j29, hj32, h33⟩ := bind_some h
 refine RD 9 9 [(sb b21 (AF x0 a0_4 n0_4 a0_5 n0_5) 27)] [] hs23 (fun f w => ∃ (F1 : Mem), HS w0 F0 w F1 [] /\ V2 F0 F1 /\ FI f [] [(4, (sv j29))]) (fun wd24 hw25 => ?_) ?_
 ·refine Dl 0 (fun _ hq => (hq.1.1 _ _ hz0)) ?_
  obtain ⟨r34, hr35, h36⟩ := bind_some hj32
  refine Dt 1 6 9 (sv r34) (fun _ hq => Av (t := 9) (t' := 9) (x := (.tmp 5)) (y := (.const (sv ([32] : Wn)))) (a := z0) (b := ([32] : Wn)) (v := r34) rfl rfl hr35) <| Dl 2 (fun _ hq => (hq.1.1 _ _ hz1)) <| D1 3 <| DCl LL hw25 (NV wd24 F0 hw25.pers b21 0) ?_
  rintro _ F2 w37 hs38 le39 rfl
  refine Dv [4] <| Dl 5 (fun _ hq => (hq.1.2 0 _ _ rfl)) <| D1 6 ?_
  obtain ⟨r40, hr41, h42⟩ := bind_some h36
  refine DCl AR hs38 (AU N w37 F2 hs38.pers (hG.mono le39) x0.Claimed _ hr41) ?_
  rintro _ F3 w44 hs45 le46 rfl
  obtain ⟨r48, hr49, h50⟩ := bind_some h42
  refine Dt 7 12 9 (sv r48) (fun _ hq => Av (t := 9) (t' := 9) (x := (.tmp 6)) (y := (.tmp 11)) (a := r34) (b := r40) (v := r48) rfl rfl hr49) <| Dv [8] ?_
  obtain rfl := Aa h50
  exact Wf (by kernel_rfl) ⟨F3, hs45.dr0, (le39.t le46), fI⟩
 ·rintro f w26 ⟨F1, hs27, le28, ⟨_, rfl⟩⟩
  refine Ab <| Rt ?_
  obtain rfl := Aa h33
  exact Re [(sv j29)] hs27 rfl
section
open Go.Proofs Go.Lib
def TA (a : Wo) (cap : Nat) (t : Wn) (e : Option Nat × Obj) : Prop :=
 (a = none /\ cap = 0 /\ t = [] /\ e.1 = none) \/ ∃ g cur, a = some ⟨g, 0, none⟩ /\ e = (some g, .cells cur 5 (0, 0)) /\ t ≠ [] /\ t.length <= cap /\ cap <= maxLen /\ cur.size = cap /\ cur.toList.take t.length = byteCells t
def HM (t s : Wn) : Option Wn := if t.length + s.length <= 140737488355328 then some (t ++ s) else none
theorem Sj {t s r : Wn} (h : HM t s = some r) : t.length + s.length <= 140737488355328 /\ r = t ++ s := by
 unfold HM at h; split at h
 ·rename_i h1; exact ⟨h1, by cases h; rfl⟩
 ·cases h
theorem HL {t s : Wn} (h : t.length + s.length <= 140737488355328) : HM t s = some (t ++ s) := by unfold HM; rw [if_pos h]
section
variable {w w0 : World} {F0 F : Mem} {L : Own}
theorem EB (l : Wn) : (byteCells l).length = l.length := by simp [byteCells]
theorem Tm (l m : Wn) : byteCells (l ++ m) = byteCells l ++ byteCells m := by simp [byteCells]
theorem Qy {g : Nat} {cur cs : Array Value} {e : TypeId} {fz : Nat × Nat} (hg : w.heap[g]? = some (.cells cur e fz)) : w.setRow g cs = B6 w g (.cells cs e fz) := by
 have hlt : g < w.heap.size := (Array.getElem?_eq_some_iff.1 hg).1
 have hv : w.heap[g] = .cells cur e fz := (Array.getElem?_eq_some_iff.1 hg).2
 unfold World.setRow B6
 congr 1
 apply Array.ext_getElem?
 intro i
 rw [Array.getElem?_modify, Array.getElem?_setIfInBounds]
 by_cases hi : g = i
 ·subst hi; simp [hlt, hv]
 ·simp [hi]
theorem M7 {ty : TypeId} (hs : HS w0 F0 w F L) {k : Nat} {e : Option Nat × Obj} (hk : L[k]? = some e) {a : Wo} {cap : Nat} {t s r : Wn} (hr : TA a cap t e) (hap : HM t s = some r) :
  ∃ a' cap' e' w', (Builtin.append_ #[103, 9] ty #[.slice a t.length cap, .string ⟨s.toArray⟩]).run Tryz.prog w = .ok (.slice a' r.length cap') w' /\ HS w0 F0 w' F (L.set k e') /\ TA a' cap' r e' := by
 obtain ⟨hlen, rfl⟩ := Sj hap
 have hu9 : Tryz.prog.underlying 9 = some .string := Tryz.underlying9
 have hu42 : Tryz.prog.underlying 103 = some (.slice 5) := Tryz.underlying103
 obtain ⟨i0, hi, hz0, hz1, hz2⟩ := info_parts (show (Tryz.prog.info? 5).map (fun i => (i.zero, i.size, i.bytes)) = some (some (.int .u8 0), 1, 1) by kernel_rfl)
 have hss : (⟨s.toArray⟩ : ByteArray).size = s.length := by simp [ByteArray.size]
 have hsc : strCells ⟨s.toArray⟩ = byteCells s := by simp [strCells, byteCells]
 have hm : maxLen = 9223372036854775807 := rfl
 rcases hr with ⟨rfl, rfl, rfl, he⟩ | ⟨g, cur, rfl, rfl, hne, hlc, hcm, hcs, htk⟩
 ·by_cases h0 : s = []
  ·subst h0
   refine ⟨none, 0, e, w, ?_, by rw [M1 hk]; exact hs, .inl ⟨rfl, rfl, rfl, he⟩⟩
   simp [Builtin.append_, run_underlying hu42, run_underlying hu9, sizeOf, typeInfo, hi, hz1, Builtin.lenOf, Builtin.firstCells, ByteArray.size]
  ·have hpos : 0 < s.length := List.length_pos_iff.2 h0
   have hrun := run_append_nil_string (P := Tryz.prog) w 103 9 ty 5 i0 (.int .u8 0) hu42 hu9 hi hz0 ⟨s.toArray⟩ (by rw [hss]; exact hpos) (by rw [hss]; simp at hlen; omega) (by rw [hss, hz2]; simp at hlen; omega)
   rw [hss] at hrun
   refine ⟨_, _, _, _, hrun, (hs.heap (w' := w.drew) rfl).renew k _, .inr ⟨_, _, rfl, rfl, by simpa using h0, by simpa using grownCap_ge w s.length 0 5, grownCap_le_maxLen w s.length 0 5 (by rw [hm]; simp at hlen; omega), ?_, ?_⟩⟩
   ·have := grownCap_ge w s.length 0 5
    simp [Builtin.zeroCells, Value.cells]; omega
   ·rw [List.nil_append]
    have e1 : (s.toArray.map fun b => Value.int .u8 (b.toNat : Int)).toList = byteCells s := by simp [byteCells]
    rw [Array.toList_append, e1, List.take_append_of_le_length (by rw [EB]; exact Nat.le_refl _), <- EB s, List.take_length]
 ·have hg : w.heap[g]? = some (.cells cur 5 (0, 0)) := hs.ownAt hk
  by_cases hfit : t.length + s.length <= cap
  ·have hrun := run_append_room_string (P := Tryz.prog) w 103 9 ty 5 i0 hu42 hu9 hi hz1 g t.length cap cur hg ⟨s.toArray⟩ (by rw [hss]; exact hfit) (by rw [hss, hcs]; exact hfit)
   rw [hss, hsc, Qy hg] at hrun
   refine ⟨some ⟨g, 0, none⟩, cap, _, _, by rw [List.length_append]; exact hrun, hs.put hk _, .inr ⟨g, _, rfl, rfl, by simp [hne], by simpa using hfit, hcm, ?_, ?_⟩⟩
   ·simp [EB, hcs]; omega
   ·rw [htk, List.length_append, Tm]
    rw [List.take_append_of_le_length (by simp [EB])]
    have : t.length + s.length = (byteCells t ++ byteCells s).length := by simp [EB]
    rw [this, List.take_length]
  ·have hholds : ∀ j v, (byteCells t)[j]? = some v -> w.cell? ((⟨g, 0, none⟩ : Addr).add j) = some v := fun j v hj => by
    have hjl : j < t.length := by
     rcases Nat.lt_or_ge j t.length with h' | h'
     ·exact h'
     ·rw [List.getElem?_eq_none (by rw [EB]; exact h')] at hj; cases hj
    have : cur[j]? = some v := by
     rw [<- htk, List.getElem?_take_of_lt hjl, Array.getElem?_toList] at hj; exact hj
    rw [Addr.add_lit]; simp [World.cell?, hg, this]
   have hrun := run_append_grow_string (P := Tryz.prog) w 103 9 ty 5 i0 (.int .u8 0) hu42 hu9 hi hz0 ⟨g, 0, none⟩ t.length cap (byteCells t) (by rw [EB, hz1, Nat.mul_one]) hholds ⟨s.toArray⟩ (by rw [hss]; omega) (by rw [hss]; omega) (by rw [hss, hz2]; exact growslice_fits (by omega) (by omega))
   rw [hss, hsc] at hrun
   refine ⟨_, _, _, _, by rw [List.length_append]; exact hrun, (hs.heap (w' := w.drew) rfl).renew k _, .inr ⟨_, _, rfl, rfl, by simp [hne], by simpa using grownCap_ge w (t.length + s.length) cap 5, grownCap_le_maxLen w (t.length + s.length) cap 5 (by rw [hm]; omega), ?_, ?_⟩⟩
   ·have := grownCap_ge w (t.length + s.length) cap 5
    simp [Builtin.zeroCells, Value.cells, EB]; omega
   ·rw [Array.toList_append, Array.toList_append, Tm, List.length_append]
    have : t.length + s.length = (byteCells t ++ byteCells s).length := by simp [EB]
    rw [List.take_append_of_le_length (by simp [EB]), this]
    simp only [List.take_length]
end
section
variable {ρ : Operand -> Value} {w : World}
theorem IE (op : BinOp) (t : TypeId) (x y : Operand) (p q : Wo) : (eqGuard op t x y (.pointer p) (.pointer q)).run Tryz.prog w = .ok () w := by
 unfold eqGuard; cases op <;> simp
theorem Pg (p : Wo) (d : Nat) : (Op.equalIn (d + 1) 102 (.pointer p) (.pointer none)).run Tryz.prog w = .ok p.isNone w := by
 unfold Op.equalIn
 simp only [Sem.run_bind, run_underlying Tryz.underlying102, Result.andThen_ok]
 cases p <;> rfl
theorem PY {x y : Operand} {p : Wo} {ty : TypeId} (hx : ρ x = .pointer p) (hy : ρ y = .pointer none) : (Ak ρ (.binOp .eql 102 x y 102) ty).run Tryz.prog w = .ok (.value (.bool p.isNone)) w := by
 have e : Ak ρ (.binOp .eql 102 x y 102) ty = (do pure (Next.value (<- (do eqGuard .eql 102 x y (ρ x) (ρ y); binOp .eql 102 (ρ x) (ρ y))))) := rfl
 have e2 : binOp .eql 102 (.pointer p) (.pointer none) = (do pure (Value.bool (<- Op.equalIn (9999 + 1) 102 (.pointer p) (.pointer none)))) := rfl
 rw [e, hx, hy, e2]
 simp only [Sem.run_bind, IE, Result.andThen_ok, Pg, Sem.run_pure]
theorem Pc {x y : Operand} {a : Addr} {ty : TypeId} (hx : ρ x = .pointer (some a)) (hy : ρ y = .pointer (some a)) : (Ak ρ (.binOp .neq 102 x y 102) ty).run Tryz.prog w = .ok (.value (.bool false)) w := by
 have e : Ak ρ (.binOp .neq 102 x y 102) ty = (do pure (Next.value (<- (do eqGuard .neq 102 x y (ρ x) (ρ y); binOp .neq 102 (ρ x) (ρ y))))) := rfl
 obtain ⟨j, hj, _⟩ := Option.map_eq_some_iff.1 (show (Tryz.prog.info? 105).map (·.size) = some 2 by kernel_rfl)
 rw [e, hx, hy]
 simp only [Sem.run_bind, IE, Result.andThen_ok, run_neq_ptr_same w a Tryz.underlying102 hj, Sem.run_pure]
theorem P0 {x : Operand} {v u : Value} {s d ty : TypeId} (hx : ρ x = v) (h : (convert s d v).run Tryz.prog w = .ok u w) : (Ak ρ (.convert s d x) ty).run Tryz.prog w = .ok (.value u) w := by
 have e : Ak ρ (.convert s d x) ty = (do pure (Next.value (<- convert s d (ρ x)))) := rfl
 rw [e, hx, Sem.run_bind, h]; rfl
theorem RR {x : Operand} {v : Value} {ty : TypeId} (hx : ρ x = v) (hf : ρ (.func 192) = .func (.func 192) #[] #[]) : (Ak ρ (.call { callee := .value (.func 192), args := #[x], argTypes := #[235] }) ty).run Tryz.prog w = .ok (.value v) w := by
 have e : Ak ρ (.call { callee := .value (.func 192), args := #[x], argTypes := #[235] }) ty = (do let d <- Deferred.ofValue (ρ (.func 192)) (#[x].map ρ); invoke d.target d.args) := rfl
 rw [e, hf]
 simp only [Deferred.ofValue, Sem.run_bind, Sem.run_pure, Result.andThen_ok, invoke]
 rw [run_callFunc_extern Tryz.func192 (by kernel_rfl) (by kernel_rfl) (by kernel_rfl) (e := Extern.AbiNoEscape.same) (by kernel_rfl)]
 have : (#[] ++ Array.map ρ #[x] ++ #[] : Array Value) = #[v] := by simp [hx]
 rw [this, run_noEscape]; rfl
end
theorem PD : Af Tryz.prog 161 := fun _ _ => by kernel_rfl
theorem Qm {wb w0 : World} {Fb F0 : Mem} {Lf : Own} (b : Nat) (p : Wo) (hp : p = none \/ p = some ⟨b, 0, none⟩) (v : Value) (hv : v.oneCell' = true) (hs0 : HS wb Fb w0 F0 ((some b, .cells #[.pointer p, v] 105 (0, 0)) :: Lf)) :
  Calls Tryz.prog 161 ([(.pointer (some ⟨b, 0, none⟩))] : List Value).toArray w0 (ER wb Fb F0 fun _ r L' => r = .tuple #[] /\ L' = (some b, .cells #[.pointer (some ⟨b, 0, none⟩), v] 105 (0, 0)) :: Lf) := by
 have hsh : w0.shape? b = some (105, 2) := by simp [World.shape?, hs0.at0]
 refine Go 20 Tryz.func161 <| Sq <| Rg [0, 1, 2, 3, 4] <| Vs 3 <| Ld hs0.at0 <| V 6 4 (PY (x := .tmp 5) (y := .const (.pointer none)) (p := p) rfl rfl) <| VY <| Ab ?_
 rcases hp with rfl | rfl
 ·refine C1 (t := true) rfl ?_
  refine Rg [0, 1, 2, 3, 4, 5, 6, 7] ?_
  obtain ⟨j, hj, hjs⟩ := Option.map_eq_some_iff.1 (show (Tryz.prog.info? 105).map (·.size) = some 2 by kernel_rfl)
  refine Vs 2 <| V 9 235 (P0 (s := 102) (d := 235) (x := .tmp 8) rfl (run_to_unsafe w0 ⟨b, 0, none⟩ Tryz.underlying102 Tryz.underlying235 hj (by rw [hjs]; decide) hsh (Nat.zero_lt_succ 1))) <| V 10 235 (RR (x := .tmp 9) rfl rfl) <| V 11 102 (P0 (s := 235) (d := 102) (x := .tmp 10) rfl (run_from_unsafe w0 ⟨b, 0, none⟩ Tryz.underlying235 Tryz.underlying102 hj hsh (by kernel_rfl))) <| Vs 2 <| St0 #[.pointer (some ⟨b, 0, none⟩), v] hs0 (fun w1 hs1 => ?_)
  refine VY ?_
  exact ReB [] hs1 (V3 _) ⟨rfl, rfl⟩
 ·refine C0 (t := false) rfl ?_
  refine Sq <| Rg [0, 1, 2, 3, 4, 5] <| Vs 3 <| Ld hs0.at0 <| Vs 1 <| V 19 4 (Pc (x := .tmp 17) (y := .tmp 18) rfl rfl) <| VY <| Ab <| C0 (t := false) rfl <| CWP.skip (by kernel_rfl) ?_
  exact ReB [] hs0 (V3 _) ⟨rfl, rfl⟩
theorem Bp : Af Tryz.prog 90 := fun _ _ => by kernel_rfl
theorem OD {wb w0 : World} {Fb F0 : Mem} {Lf : Own} (b : Nat) (p : Wo) (hp : p = none \/ p = some ⟨b, 0, none⟩) (a : Wo) (cap : Nat) (e : Option Nat × Obj) (t s r : Wn) (hb : TA a cap t e) (hap : HM t s = some r)
  (hs0 : HS wb Fb w0 F0 ((some b, .cells #[.pointer p, .slice a t.length cap] 105 (0, 0)) :: e :: Lf)) :
  Calls Tryz.prog 90 ([(.pointer (some ⟨b, 0, none⟩)), (.string ⟨s.toArray⟩)] : List Value).toArray w0 (ER wb Fb F0 fun _ v L' => v = .tuple #[.int .i64 (s.length : Int), .nilIface] /\ ∃ a' cap' e', L' = (some b, .cells #[.pointer (some ⟨b, 0, none⟩), .slice a' r.length cap'] 105 (0, 0)) :: e' :: Lf /\ TA a' cap' r e') := by
 refine Go 19 Tryz.func90 <| Sq <| Rg [0, 1] <| Vs 2 <| VY <| Ab <| Sq <| Rg [0, 1] <| Vs 1 <| CB PD (Qm b p hp (.slice a t.length cap) rfl hs0) ?_
 rintro _ F1 w1 _ hs1 le1 ⟨rfl, rfl⟩
 refine VY <| Ab <| Sq <| Rg [0, 1, 2, 3, 4, 5, 6, 7, 8, 9] <| Vs 4 <| Ld hs1.at0 <| Vs 1 ?_
 obtain ⟨a', cap', e', w2, hrun, hs2, hb2⟩ := M7 (ty := 103) hs1 (k := 1) rfl hb hap
 refine VZ (dst := some 14) (ty := 103) (g := none) (v := .slice a' r.length cap') (by kernel_rfl) rfl (by
  have e : ∀ ρ : Operand -> Value, Ak ρ (.call { callee := .builtin .append, args := #[.tmp 12, .tmp 13], argTypes := #[103, 9] }) 103 = (do pure (Next.value (<- Builtin.append_ #[103, 9] 103 (#[.tmp 12, .tmp 13].map ρ)))) := fun _ => rfl
  rw [e]
  simp only [List.map_toArray, List.map_cons, List.map_nil]
  rw [Sem.run_bind]
  refine Eq.trans (congrArg (fun x => Result.andThen x _) (show _ = _ from hrun)) rfl) ?_
 have hs2 : HS wb Fb w2 F1 ((some b, .cells #[.pointer (some ⟨b, 0, none⟩), .slice a t.length cap] 105 (0, 0)) :: e' :: Lf) := hs2
 refine Vs 2 <| St0 #[.pointer (some ⟨b, 0, none⟩), .slice a' r.length cap'] hs2 (fun w3 hs3 => ?_)
 refine VY <| Ab <| Sq <| Rg [0, 1, 2, 3] <| Vs 4 <| VY <| Ab <| Rt ?_
 exact ReB [.int .i64 (s.length : Int), .nilIface] hs3 le1 ⟨rfl, a', cap', e', rfl, hb2⟩
def FD (b : Nat) (t : Wn) (_ : Mem) (Lf : Own) : Prop := ∃ p a n e, (p = none \/ p = some ⟨b, 0, none⟩) /\ Lf = [e, (some b, .cells #[.pointer p, .slice a t.length n] 105 (0, 0))] /\ TA a n t e
theorem FD.mono {b : Nat} : O4 (FD b) := fun _ _ _ _ h _ => h
section
variable {w w0 : World} {F0 F : Mem} {L : Own} {b : Nat}
theorem FD.new (hs : HS w0 F0 w F ((some b, .cells #[.pointer none, .slice none 0 0] 105 (0, 0)) :: L)) : ∃ Lf, HS w0 F0 w F (L ++ Lf) /\ FD b [] F Lf :=
 ⟨_, HS.swap (A := [(none, .cells #[] 0 (0, 0)), _]) (hs.dummy (.cells #[] 0 (0, 0))), none, none, 0, _, .inl rfl, rfl, .inl ⟨rfl, rfl, rfl, rfl⟩⟩
theorem DN {Lf : Own} {t s r : Wn} (hap : HM t s = some r) (hJ : FD b t F Lf) (hs : HS w0 F0 w F (L ++ Lf)) :
  Calls Tryz.prog 90 ([(.pointer (some ⟨b, 0, none⟩)), (.string ⟨s.toArray⟩)] : List Value).toArray w (ER w0 F0 F fun F' v L' => v = .tuple #[.int .i64 (s.length : Int), .nilIface] /\ ∃ Lf', L' = L ++ Lf' /\ FD b r F' Lf') := by
 obtain ⟨p, a, n, e, hp, rfl, hb⟩ := hJ
 have h1 : HS w0 F0 w F (e :: (some b, .cells #[.pointer p, .slice a t.length n] 105 (0, 0)) :: L) := HS.swap hs
 refine (OD b p hp a n e t s r hb hap h1.pk1).mono ?_
 rintro _ w' ⟨F', v, _, rfl, h2, h3, rfl, a', n', e', rfl, hb'⟩
 exact ⟨F', _, L ++ [e', _], rfl, HS.swap (A := [e', _]) h2.pk1, h3, rfl, _, rfl, _, a', n', e', .inr rfl, rfl, hb'⟩
theorem NL : Af Tryz.prog 91 := fun _ _ => by kernel_rfl
theorem O3 {Lf : Own} {t : Wn} (hJ : FD b t F Lf) (hs : HS w0 F0 w F (L ++ Lf)) : Calls Tryz.prog 91 ([(.pointer (some ⟨b, 0, none⟩))] : List Value).toArray w (ER w0 F0 F0 fun F' v L' => v = .string ⟨t.toArray⟩ /\ L' = [] /\ F' = F0) := by
 obtain ⟨p, a, n, e, hp, rfl, hb⟩ := hJ
 have h1 : HS w0 F0 w F (e :: (some b, .cells #[.pointer p, .slice a t.length n] 105 (0, 0)) :: L) := HS.swap hs
 have hB : w0.heap.size <= b := (h1.own b _ (.tail _ (.head _))).2.2
 have hbk := h1.at1
 have hbuf : IsBuilder 105 5 w0.heap.size b (byteCells t) w := by
  have : BuilderAt 105 5 w0.heap.size b (.pointer p) (byteCells t) w := by
   refine ⟨hB, .slice a t.length n, hbk, ?_, ?_⟩
   ·rcases hb with ⟨rfl, rfl, rfl, _⟩ | ⟨g, cur, rfl, rfl, hne, hlc, hcm, hcs, htk⟩
    ·exact ⟨rfl, .inl ⟨rfl, rfl⟩⟩
    ·exact ⟨by simp [EB], .inr ⟨g, n, cur, by rw [EB], (h1.own g _ (.head _)).2.2, h1.at0, by rw [EB]; exact hlc, hcm, by simpa using hcs, by rw [EB, Nat.mul_one]; exact htk⟩⟩
   ·rcases hb with ⟨rfl, rfl, rfl, _⟩ | ⟨g, cur, rfl, rfl, hne, hlc, hcm, hcs, htk⟩
    ·simp [Value.ownBlock]
    ·have := h1.nd
     simp only [Value.ownBlock]
     intro e
     simp at e
     subst e
     simp at this
  rcases hp with rfl | rfl
  ·exact .inl this
  ·exact .inr this
 refine (Tryz.Builder_String_any w0.heap.size b t w hbuf h1.size).mono ?_
 rintro _ w' ⟨rfl, hbel⟩
 refine ⟨F0, _, [], rfl, ?_, V3 _, rfl, rfl, rfl⟩
 exact ⟨h1.base, h1.fix.trans ⟨hbel.os, hbel.output, hbel.tape⟩, Nat.le_trans h1.size hbel.size, fun c hc => (hbel.block c hc).trans (h1.keep c hc), fun _ _ => rfl, fun c o hc => (hbel.block c (Ba (h1.base c o hc))).trans ((h1.keep c (Ba (h1.base c o hc))).trans (h1.base c o hc)), fun _ _ h => (by cases h), List.nodup_nil⟩
end
end
end Go.Proofs.YthljkpeimofbbaaGreatDoor
