/- Lemmas of the claim LogsPrefix, printed by a program of the claimant and by hand. No statement of the seat is proved here. -/
import Derived.Test.YthljkpeimofbbaaGreatDoorE8x3
set_option linter.unusedVariables false
set_option linter.unusedSimpArgs false
set_option linter.unusedSectionVars false
set_option maxHeartbeats 4000000
set_option maxRecDepth 100000
namespace Go.Proofs.YthljkpeimofbbaaGreatDoor
def Bb (N : Nat) (x0 : Ac) (x1 : UQ) : (Int × Int × Bool × Bool × Bool × UQ × Int × Int × Int × List Int × List Line × Int × Bool × Int) -> (UQ × Bool) -> Option ((Int × Int × Bool × Bool × Bool × UQ × Int × Int × Int × List Int × List Line × Int × Bool × Int) × Bool) := fun s103 x116 =>
 ((bif x116.2 then ((AM N ({ o_ := ({ Report := s103.2.2.1, Serial := s103.2.2.2.1, Zone := s103.2.2.2.2.1 } : Ac), l_ := ({ Call := s103.2.2.2.2.2.1, Category := s103.2.2.2.2.2.2.1, Power := s103.2.2.2.2.2.2.2.1, Claimed := s103.2.2.2.2.2.2.2.2.1, Jumps := s103.2.2.2.2.2.2.2.2.2.1, Lines := s103.2.2.2.2.2.2.2.2.2.2.1 } : Log), done_ := s103.2.2.2.2.2.2.2.2.2.2.2.1, ended_ := s103.2.2.2.2.2.2.2.2.2.2.2.2.1 } : Ah) x116.1).bind fun r151 => some (r151.2.1, r151.2.2, r151.1.o_.Report, r151.1.o_.Serial, r151.1.o_.Zone, r151.1.l_.Call, r151.1.l_.Category, r151.1.l_.Power, r151.1.l_.Claimed, r151.1.l_.Jumps, r151.1.l_.Lines, r151.1.done_, r151.1.ended_)) else some (false, false, s103.2.2.1, s103.2.2.2.1, s103.2.2.2.2.1, s103.2.2.2.2.2.1, s103.2.2.2.2.2.2.1, s103.2.2.2.2.2.2.2.1, s103.2.2.2.2.2.2.2.2.1, s103.2.2.2.2.2.2.2.2.2.1, s103.2.2.2.2.2.2.2.2.2.2.1, s103.2.2.2.2.2.2.2.2.2.2.2.1, s103.2.2.2.2.2.2.2.2.2.2.2.2.1)).bind fun j136 => (bif j136.2.1 then some ((2, (W64 (s103.2.2.2.2.2.2.2.2.2.2.2.2.2 + 1)), j136.2.2.1, j136.2.2.2.1, j136.2.2.2.2.1, j136.2.2.2.2.2.1, j136.2.2.2.2.2.2.1, j136.2.2.2.2.2.2.2.1, j136.2.2.2.2.2.2.2.2.1, j136.2.2.2.2.2.2.2.2.2.1, j136.2.2.2.2.2.2.2.2.2.2.1, j136.2.2.2.2.2.2.2.2.2.2.2.1, j136.2.2.2.2.2.2.2.2.2.2.2.2, (W64 (s103.2.2.2.2.2.2.2.2.2.2.2.2.2 + 1))), false) else (bif (!j136.1) then some ((20, (W64 (s103.2.2.2.2.2.2.2.2.2.2.2.2.2 + 1)), j136.2.2.1, j136.2.2.2.1, j136.2.2.2.2.1, j136.2.2.2.2.2.1, j136.2.2.2.2.2.2.1, j136.2.2.2.2.2.2.2.1, j136.2.2.2.2.2.2.2.2.1, j136.2.2.2.2.2.2.2.2.2.1, j136.2.2.2.2.2.2.2.2.2.2.1, j136.2.2.2.2.2.2.2.2.2.2.2.1, j136.2.2.2.2.2.2.2.2.2.2.2.2, (W64 (s103.2.2.2.2.2.2.2.2.2.2.2.2.2 + 1))), false) else some ((s103.1, s103.2.1, j136.2.2.1, j136.2.2.2.1, j136.2.2.2.2.1, j136.2.2.2.2.2.1, j136.2.2.2.2.2.2.1, j136.2.2.2.2.2.2.2.1, j136.2.2.2.2.2.2.2.2.1, j136.2.2.2.2.2.2.2.2.2.1, j136.2.2.2.2.2.2.2.2.2.2.1, j136.2.2.2.2.2.2.2.2.2.2.2.1, j136.2.2.2.2.2.2.2.2.2.2.2.2, (W64 (s103.2.2.2.2.2.2.2.2.2.2.2.2.2 + 1))), true))))
def CX (N : Nat) (x0 : Ac) (x1 : UQ) : Option (Log × Int × Int) :=
 (bif (decide ((x1.length : Int) > 65536)) then some (({ Call := ([] : UQ), Category := 0, Power := 0, Claimed := 0, Jumps := ([] : List Int), Lines := ([] : List Line) } : Log), 2, 0) else ((C9 N (NV (Bb N x0 x1)) x1 ((0, 0, x0.Report, x0.Serial, x0.Zone, ([] : UQ), 0, 0, 0, ([] : List Int), ([] : List Line), 0, false, 0), true)).bind fun r111 => (bif r111.2 then (bif (!r111.1.2.2.2.2.2.2.2.2.2.2.2.2.1) then some (({ Call := ([] : UQ), Category := 0, Power := 0, Claimed := 0, Jumps := ([] : List Int), Lines := ([] : List Line) } : Log), 20, (W64 (r111.1.2.2.2.2.2.2.2.2.2.2.2.2.2 + 1))) else some (({ Call := r111.1.2.2.2.2.2.1, Category := r111.1.2.2.2.2.2.2.1, Power := r111.1.2.2.2.2.2.2.2.1, Claimed := r111.1.2.2.2.2.2.2.2.2.1, Jumps := r111.1.2.2.2.2.2.2.2.2.2.1, Lines := r111.1.2.2.2.2.2.2.2.2.2.2.1 } : Log), 0, 0)) else some (({ Call := ([] : UQ), Category := 0, Power := 0, Claimed := 0, Jumps := ([] : List Int), Lines := ([] : List Line) } : Log), r111.1.1, r111.1.2.1))))
theorem CF : Ag Tryz.prog 33 := fun _ _ => by kernel_rfl
theorem Df (N : Nat) (w0 : World) (F0 : Mem) (hF : US w0 F0) (hG : Br F0) (x0 : Ac) (x1 : UQ) (r : (Log × Int × Int)) (h : CX N x0 x1 = some r) :
  Calls Tryz.prog 33 ([(.agg (Ak x0)), (sv x1)] : List Value).toArray w0 (AB w0 F0 fun F' v => ∃ (aq0_4 : UR) (nq0_4 : Nat) (aq0_5 : UR) (nq0_5 : Nat), v = (.tuple #[(.agg (AL r.1 aq0_4 nq0_4 aq0_5 nq0_5)), (vi r.2.1), (vi r.2.2)]) /\ LC r.1.Jumps.length nq0_4 /\ SlA AQ F' aq0_4 r.1.Jumps /\ LC r.1.Lines.length nq0_5 /\ SlA AK F' aq0_5 r.1.Lines) := by
 have hs0 := Uy hF
 refine Nb (n := 55) (c := Mp Tryz.f33) Tryz.func33 (by kernel_rfl) (by kernel_rfl) (by kernel_rfl) <| Sq (Rg (rG 4) ?_)
 refine Bx' 23 (Ak x0) hs0 (fun b21 w22 hs23 => ?_)
 refine Al' 27 #[(sv (([] : UQ))), (vi 0), (vi 0), (vi 0), (.slice none ([] : List Int).length 0), (.slice none ([] : List Line).length 0)] hs23 (fun b24 w25 hs26 => ?_)
 refine Al' 35 #[(vi 0)] hs26 (fun b27 w28 hs29 => ?_)
 refine Al' 3 #[(vi 0)] hs29 (fun b30 w31 hs32 => ?_)
 refine Nss <| Sq (Rg [0, 1, 2] ?_)
 refine Vs 3 <| Nt <| Cd h (fun hb33 h34 => ?_) (fun hb33 h35 => ?_)
 ·refine Sq (Rg (rG 4) ?_)
  refine Vs 1 <| St2 #[(sv (([] : UQ))), (vi 0), (vi 0), (vi 0), (.slice none ([] : List Int).length 0), (.slice none ([] : List Line).length 0)] hs32 (fun w36 hs37 => ?_)
  refine St1 #[(vi 2)] hs37 (fun w38 hs39 => ?_)
  refine St0 #[(vi 0)] hs39 (fun w40 hs41 => ?_)
  refine Nt <| Rt <| Aj ?_
  obtain rfl := Aa h34
  exact .inl ⟨rfl, (.tuple #[(.agg #[(sv (([] : UQ))), (vi 0), (vi 0), (vi 0), (.slice none ([] : List Int).length 0), (.slice none ([] : List Line).length 0)]), (vi 2), (vi 0)]), AR (l := [.cell 4 27, .cell 5 35, .cell 6 3]) (by kernel_rfl) (vs := [(.agg #[(sv (([] : UQ))), (vi 0), (vi 0), (vi 0), (.slice none ([] : List Int).length 0), (.slice none ([] : List Line).length 0)]), (vi 2), (vi 0)]) ⟨b24, 0, rfl, Am (t := 27) (g := true) (s := 6) (by kernel_rfl) hs41.at2 rfl (by decide), ⟨b27, 0, rfl, Am (t := 35) (g := false) (s := 1) (by kernel_rfl) hs41.at1 rfl (by decide), ⟨b30, 0, rfl, Am (t := 3) (g := false) (s := 1) (by kernel_rfl) hs41.at0 rfl (by decide), trivial⟩⟩⟩, (.tuple #[(.agg #[(sv (([] : UQ))), (vi 0), (vi 0), (vi 0), (.slice none ([] : List Int).length 0), (.slice none ([] : List Line).length 0)]), (vi 2), (vi 0)]), F0, rfl, hs41.clear, ⟨none, 0, none, 0, rfl, UA, (.inl rfl), UA, (.inl rfl)⟩⟩
 ·refine Sc ?_
  refine Ab <| Sq <| RD 5 6 [(sb b30 #[(vi 0)] 3), (sb b27 #[(vi 0)] 35), (sb b24 #[(sv (([] : UQ))), (vi 0), (vi 0), (vi 0), (.slice none ([] : List Int).length 0), (.slice none ([] : List Line).length 0)] 27), (sb b21 (Ak x0) 23)] [] hs32 (fun f w => ∃ (F1 : Mem) (b47 : Nat) (b48 : Nat) (tbt49_0_0 : Nat) (tbt49_0_1 : Nat) (tbt49_0_2 : Nat) (tbt49_0_3 : Nat) (tbt49_0_4 : Nat) (tbt49_0_5 : Nat) (tbt49_0_6 : Nat) (tbt49_0_7 : Nat) (tbt49_0_8 : Nat) (tbt49_0_9 : Nat) (tbt49_0_10 : Nat) (tbt49_0_11 : Nat), HS w0 F0 w F1 [(sb b47 #[(pt b48 0)] 128), (sb b48 #[(.bool x0.Report), (.bool x0.Serial), (.bool x0.Zone), (sv (([] : UQ))), (vi 0), (vi 0), (vi 0), (.slice none ([] : List Int).length 0), (.slice none ([] : List Line).length 0), (fV 153 #[]), (fV 154 #[]), (fV 190 #[(pt tbt49_0_0 0), (pt tbt49_0_1 0), (pt tbt49_0_2 0), (pt tbt49_0_3 0)]), (fV 191 #[(pt tbt49_0_0 0), (pt tbt49_0_3 0)]), (fV 190 #[(pt tbt49_0_4 0), (pt tbt49_0_5 0), (pt tbt49_0_6 0), (pt tbt49_0_7 0)]), (fV 191 #[(pt tbt49_0_4 0), (pt tbt49_0_7 0)]), (fV 190 #[(pt tbt49_0_8 0), (pt tbt49_0_9 0), (pt tbt49_0_10 0), (pt tbt49_0_11 0)]), (fV 191 #[(pt tbt49_0_8 0), (pt tbt49_0_11 0)]), (fV 159 #[]), (fV 160 #[]), (vi 0), (.bool false)] 130), (sb b30 #[(vi 0)] 3), (sb b27 #[(vi 0)] 35), (sb b24 #[(sv (([] : UQ))), (vi 0), (vi 0), (vi 0), (.slice none ([] : List Int).length 0), (.slice none ([] : List Line).length 0)] 27)] /\ Uw F0 F1 /\ FI f [] [(1, (sv x1)), (4, (pt b24 0)), (5, (pt b27 0)), (6, (pt b30 0)), (7, (pt b47 0))] /\ F1 tbt49_0_0 = some (oc #[(sv (([67, 65, 84, 69, 71, 79, 82, 89] : UQ)))] 9) /\ F1 tbt49_0_1 = some (oc #[(vi 1)] 3) /\ F1 tbt49_0_2 = some (oc #[(vi 9)] 3) /\ F1 tbt49_0_3 = some (oc #[(fV 156 #[])] 195) /\ F1 tbt49_0_4 = some (oc #[(sv (([80, 79, 87, 69, 82] : UQ)))] 9) /\ F1 tbt49_0_5 = some (oc #[(vi 1)] 3) /\ F1 tbt49_0_6 = some (oc #[(vi 9999)] 3) /\ F1 tbt49_0_7 = some (oc #[(fV 157 #[])] 195) /\ F1 tbt49_0_8 = some (oc #[(sv (([67, 76, 65, 73, 77, 69, 68] : UQ)))] 9) /\ F1 tbt49_0_9 = some (oc #[(vi 0)] 3) /\ F1 tbt49_0_10 = some (oc #[(vi 1000000)] 3) /\ F1 tbt49_0_11 = some (oc #[(fV 158 #[])] 195)) (fun wd42 hw43 => ?_) ?_
  ·refine Dl 0 (fun _ hq => (hq.1.2 3 _ _ rfl)) ?_
   refine UF (i := 1) (j := 4) (by kernel_rfl) ?_ ?_
   ·refine DCl Eh hw43 (EN wd42 F0 hw43.pers) ?_
    rintro _ F2 w56 hs57 le58 ⟨tbt59_0_0, tbt59_0_1, tbt59_0_2, tbt59_0_3, tbt59_0_4, tbt59_0_5, tbt59_0_6, tbt59_0_7, tbt59_0_8, tbt59_0_9, tbt59_0_10, tbt59_0_11, rfl, htbt59_0_0, htbt59_0_1, htbt59_0_2, htbt59_0_3, htbt59_0_4, htbt59_0_5, htbt59_0_6, htbt59_0_7, htbt59_0_8, htbt59_0_9, htbt59_0_10, htbt59_0_11⟩
    refine Dv [2] <| UF (i := 3) (j := 4) (by kernel_rfl) ?_ ?_
    ·refine DBx 130 #[(.bool x0.Report), (.bool x0.Serial), (.bool x0.Zone), (sv (([] : UQ))), (vi 0), (vi 0), (vi 0), (.slice none ([] : List Int).length 0), (.slice none ([] : List Line).length 0), (fV 153 #[]), (fV 154 #[]), (fV 190 #[(pt tbt59_0_0 0), (pt tbt59_0_1 0), (pt tbt59_0_2 0), (pt tbt59_0_3 0)]), (fV 191 #[(pt tbt59_0_0 0), (pt tbt59_0_3 0)]), (fV 190 #[(pt tbt59_0_4 0), (pt tbt59_0_5 0), (pt tbt59_0_6 0), (pt tbt59_0_7 0)]), (fV 191 #[(pt tbt59_0_4 0), (pt tbt59_0_7 0)]), (fV 190 #[(pt tbt59_0_8 0), (pt tbt59_0_9 0), (pt tbt59_0_10 0), (pt tbt59_0_11 0)]), (fV 191 #[(pt tbt59_0_8 0), (pt tbt59_0_11 0)]), (fV 159 #[]), (fV 160 #[]), (vi 0), (.bool false)] hs57 le58 (fun b60 w61 hs62 => ?_)
     refine D1 4 <| DAl 128 #[(.pointer none)] hs62 le58 (fun b63 w64 hs65 => ?_)
     refine D1 5 <| FG #[(pt b60 0)] hs65 le58 (fun w66 hs67 => ?_)
     exact UJ (by kernel_rfl) ⟨F2, b63, b60, tbt59_0_0, tbt59_0_1, tbt59_0_2, tbt59_0_3, tbt59_0_4, tbt59_0_5, tbt59_0_6, tbt59_0_7, tbt59_0_8, tbt59_0_9, tbt59_0_10, tbt59_0_11, hs67.dr5, le58, fI, htbt59_0_0, htbt59_0_1, htbt59_0_2, htbt59_0_3, htbt59_0_4, htbt59_0_5, htbt59_0_6, htbt59_0_7, htbt59_0_8, htbt59_0_9, htbt59_0_10, htbt59_0_11⟩
    ·refine DAl 128 #[(.pointer none)] hs57 le58 (fun b68 w69 hs70 => ?_)
     refine D1 3 <| DBx 130 #[(.bool x0.Report), (.bool x0.Serial), (.bool x0.Zone), (sv (([] : UQ))), (vi 0), (vi 0), (vi 0), (.slice none ([] : List Int).length 0), (.slice none ([] : List Line).length 0), (fV 153 #[]), (fV 154 #[]), (fV 190 #[(pt tbt59_0_0 0), (pt tbt59_0_1 0), (pt tbt59_0_2 0), (pt tbt59_0_3 0)]), (fV 191 #[(pt tbt59_0_0 0), (pt tbt59_0_3 0)]), (fV 190 #[(pt tbt59_0_4 0), (pt tbt59_0_5 0), (pt tbt59_0_6 0), (pt tbt59_0_7 0)]), (fV 191 #[(pt tbt59_0_4 0), (pt tbt59_0_7 0)]), (fV 190 #[(pt tbt59_0_8 0), (pt tbt59_0_9 0), (pt tbt59_0_10 0), (pt tbt59_0_11 0)]), (fV 191 #[(pt tbt59_0_8 0), (pt tbt59_0_11 0)]), (fV 159 #[]), (fV 160 #[]), (vi 0), (.bool false)] hs70 le58 (fun b71 w72 hs73 => ?_)
     refine D1 5 <| K9 #[(pt b71 0)] hs73 le58 (fun w74 hs75 => ?_)
     have hs76 := hs75.dr5.pk4.pk4.pk4.pk3.pk4
     exact UJ (by kernel_rfl) ⟨F2, b68, b71, tbt59_0_0, tbt59_0_1, tbt59_0_2, tbt59_0_3, tbt59_0_4, tbt59_0_5, tbt59_0_6, tbt59_0_7, tbt59_0_8, tbt59_0_9, tbt59_0_10, tbt59_0_11, hs76, le58, fI, htbt59_0_0, htbt59_0_1, htbt59_0_2, htbt59_0_3, htbt59_0_4, htbt59_0_5, htbt59_0_6, htbt59_0_7, htbt59_0_8, htbt59_0_9, htbt59_0_10, htbt59_0_11⟩
   ·refine DAl 128 #[(.pointer none)] hw43 (Ux _) (fun b77 w78 hs79 => ?_)
    refine D1 1 <| DCl Eh hs79 (EN w78 F0 hs79.pers) ?_
    rintro _ F3 w80 hs81 le82 ⟨tbt83_0_0, tbt83_0_1, tbt83_0_2, tbt83_0_3, tbt83_0_4, tbt83_0_5, tbt83_0_6, tbt83_0_7, tbt83_0_8, tbt83_0_9, tbt83_0_10, tbt83_0_11, rfl, htbt83_0_0, htbt83_0_1, htbt83_0_2, htbt83_0_3, htbt83_0_4, htbt83_0_5, htbt83_0_6, htbt83_0_7, htbt83_0_8, htbt83_0_9, htbt83_0_10, htbt83_0_11⟩
    refine Dv [2] <| D1 3 <| DBx 130 #[(.bool x0.Report), (.bool x0.Serial), (.bool x0.Zone), (sv (([] : UQ))), (vi 0), (vi 0), (vi 0), (.slice none ([] : List Int).length 0), (.slice none ([] : List Line).length 0), (fV 153 #[]), (fV 154 #[]), (fV 190 #[(pt tbt83_0_0 0), (pt tbt83_0_1 0), (pt tbt83_0_2 0), (pt tbt83_0_3 0)]), (fV 191 #[(pt tbt83_0_0 0), (pt tbt83_0_3 0)]), (fV 190 #[(pt tbt83_0_4 0), (pt tbt83_0_5 0), (pt tbt83_0_6 0), (pt tbt83_0_7 0)]), (fV 191 #[(pt tbt83_0_4 0), (pt tbt83_0_7 0)]), (fV 190 #[(pt tbt83_0_8 0), (pt tbt83_0_9 0), (pt tbt83_0_10 0), (pt tbt83_0_11 0)]), (fV 191 #[(pt tbt83_0_8 0), (pt tbt83_0_11 0)]), (fV 159 #[]), (fV 160 #[]), (vi 0), (.bool false)] hs81 le82 (fun b84 w85 hs86 => ?_)
    refine D1 5 <| K9 #[(pt b84 0)] hs86 le82 (fun w87 hs88 => ?_)
    have hs89 := hs88.dr5.pk4.pk4.pk4.pk3.pk4
    exact UJ (by kernel_rfl) ⟨F3, b77, b84, tbt83_0_0, tbt83_0_1, tbt83_0_2, tbt83_0_3, tbt83_0_4, tbt83_0_5, tbt83_0_6, tbt83_0_7, tbt83_0_8, tbt83_0_9, tbt83_0_10, tbt83_0_11, hs89, le82, fI, htbt83_0_0, htbt83_0_1, htbt83_0_2, htbt83_0_3, htbt83_0_4, htbt83_0_5, htbt83_0_6, htbt83_0_7, htbt83_0_8, htbt83_0_9, htbt83_0_10, htbt83_0_11⟩
  ·rintro f w44 ⟨F1, b47, b48, tbt49_0_0, tbt49_0_1, tbt49_0_2, tbt49_0_3, tbt49_0_4, tbt49_0_5, tbt49_0_6, tbt49_0_7, tbt49_0_8, tbt49_0_9, tbt49_0_10, tbt49_0_11, hs45, le46, ⟨_, rfl⟩, htbt49_0_0, htbt49_0_1, htbt49_0_2, htbt49_0_3, htbt49_0_4, htbt49_0_5, htbt49_0_6, htbt49_0_7, htbt49_0_8, htbt49_0_9, htbt49_0_10, htbt49_0_11⟩
   refine Ab <| Sq (Rg [0, 1] ?_)
   refine Al' 3 #[(vi 0)] hs45 (fun b90 w91 hs92 => ?_)
   refine St0 #[(vi 0)] hs92 (fun w93 hs94 => ?_)
   refine Nss <| Sq (Rg [0, 1] ?_)
   refine Vs 1 <| RWP.callO (dst := (some 22)) (ty := 132) (g := none) (by kernel_rfl) rfl (f0 := (.func 105)) (aos := #[(.tmp 21)]) (ats := #[9]) (fid := 105) (first := #[]) (cap := #[]) (args := [(sv x1)]) rfl Iu rfl hs94 (JD w93 F1 hs94.pers x1) ?_
   rintro _ F4 w96 _ hs97 le98 ⟨b95, rfl, rfl⟩
   have hs99 : HS w0 F0 w96 F4 [(sb b95 #[(sv x1)] 9), (sb b90 #[(vi 0)] 3), (sb b47 #[(pt b48 0)] 128), (sb b48 #[(.bool x0.Report), (.bool x0.Serial), (.bool x0.Zone), (sv (([] : UQ))), (vi 0), (vi 0), (vi 0), (.slice none ([] : List Int).length 0), (.slice none ([] : List Line).length 0), (fV 153 #[]), (fV 154 #[]), (fV 190 #[(pt tbt49_0_0 0), (pt tbt49_0_1 0), (pt tbt49_0_2 0), (pt tbt49_0_3 0)]), (fV 191 #[(pt tbt49_0_0 0), (pt tbt49_0_3 0)]), (fV 190 #[(pt tbt49_0_4 0), (pt tbt49_0_5 0), (pt tbt49_0_6 0), (pt tbt49_0_7 0)]), (fV 191 #[(pt tbt49_0_4 0), (pt tbt49_0_7 0)]), (fV 190 #[(pt tbt49_0_8 0), (pt tbt49_0_9 0), (pt tbt49_0_10 0), (pt tbt49_0_11 0)]), (fV 191 #[(pt tbt49_0_8 0), (pt tbt49_0_11 0)]), (fV 159 #[]), (fV 160 #[]), (vi 0), (.bool false)] 130), (sb b30 #[(vi 0)] 3), (sb b27 #[(vi 0)] 35), (sb b24 #[(sv (([] : UQ))), (vi 0), (vi 0), (vi 0), (.slice none ([] : List Int).length 0), (.slice none ([] : List Line).length 0)] 27)] := hs97
   refine Nt <| Bk ?_
   have hs100 := hs99.dummy (oc #[] 0)
   have hs102 := hs100.pk7.pk7.pk7.pk7.pk7
   obtain ⟨r111, hr112, h113⟩ := bind_some h35
   refine CWP.rangeRet (enc := Ps) (ok := Q3) (px := QT) (m := fun {_} y s => C9 N y x1 s) (L := [(none, .cells #[] 0 (0, 0)), (sb b90 #[(vi 0)] 3), (sb b47 #[(pt b48 0)] 128), (sb b48 #[(.bool x0.Report), (.bool x0.Serial), (.bool x0.Zone), (sv (([] : UQ))), (vi 0), (vi 0), (vi 0), (.slice none ([] : List Int).length 0), (.slice none ([] : List Line).length 0), (fV 153 #[]), (fV 154 #[]), (fV 190 #[(pt tbt49_0_0 0), (pt tbt49_0_1 0), (pt tbt49_0_2 0), (pt tbt49_0_3 0)]), (fV 191 #[(pt tbt49_0_0 0), (pt tbt49_0_3 0)]), (fV 190 #[(pt tbt49_0_4 0), (pt tbt49_0_5 0), (pt tbt49_0_6 0), (pt tbt49_0_7 0)]), (fV 191 #[(pt tbt49_0_4 0), (pt tbt49_0_7 0)]), (fV 190 #[(pt tbt49_0_8 0), (pt tbt49_0_9 0), (pt tbt49_0_10 0), (pt tbt49_0_11 0)]), (fV 191 #[(pt tbt49_0_8 0), (pt tbt49_0_11 0)]), (fV 159 #[]), (fV 160 #[]), (vi 0), (.bool false)] 130), (sb b30 #[(vi 0)] 3), (sb b27 #[(vi 0)] 35), (sb b24 #[(sv (([] : UQ))), (vi 0), (vi 0), (vi 0), (.slice none ([] : List Int).length 0), (.slice none ([] : List Line).length 0)] 27)]) (B := [(sb b95 #[(sv x1)] 9)]) (ps := [23, 24]) (by kernel_rfl) (gf := 169) (cap := [(pt b95 0)]) rfl GQ rfl (by kernel_rfl) (by kernel_rfl) (fun _ => rfl) hs102.pk7.pk6.pk7 (HI N F4 (hG.mono (le46.t le98)) x1 b95) (Bb N x0 x1) (fun (s103 : (Int × Int × Bool × Bool × Bool × UQ × Int × Int × Int × List Int × List Line × Int × Bool × Int)) (F5 : Mem) (Lq : Own) => ∃ (as103_9 : UR) (ns103_9 : Nat) (as103_10 : UR) (ns103_10 : Nat) (es103_10 : Option Nat × Obj), Lq = [es103_10, (sb b90 #[(vi s103.2.2.2.2.2.2.2.2.2.2.2.2.2)] 3), (sb b47 #[(pt b48 0)] 128), (sb b48 #[(.bool s103.2.2.1), (.bool s103.2.2.2.1), (.bool s103.2.2.2.2.1), (sv s103.2.2.2.2.2.1), (vi s103.2.2.2.2.2.2.1), (vi s103.2.2.2.2.2.2.2.1), (vi s103.2.2.2.2.2.2.2.2.1), (.slice as103_9 s103.2.2.2.2.2.2.2.2.2.1.length ns103_9), (.slice as103_10 s103.2.2.2.2.2.2.2.2.2.2.1.length ns103_10), (fV 153 #[]), (fV 154 #[]), (fV 190 #[(pt tbt49_0_0 0), (pt tbt49_0_1 0), (pt tbt49_0_2 0), (pt tbt49_0_3 0)]), (fV 191 #[(pt tbt49_0_0 0), (pt tbt49_0_3 0)]), (fV 190 #[(pt tbt49_0_4 0), (pt tbt49_0_5 0), (pt tbt49_0_6 0), (pt tbt49_0_7 0)]), (fV 191 #[(pt tbt49_0_4 0), (pt tbt49_0_7 0)]), (fV 190 #[(pt tbt49_0_8 0), (pt tbt49_0_9 0), (pt tbt49_0_10 0), (pt tbt49_0_11 0)]), (fV 191 #[(pt tbt49_0_8 0), (pt tbt49_0_11 0)]), (fV 159 #[]), (fV 160 #[]), (vi s103.2.2.2.2.2.2.2.2.2.2.2.1), (.bool s103.2.2.2.2.2.2.2.2.2.2.2.2.1)] 130), (sb b30 #[(vi s103.2.1)] 3), (sb b27 #[(vi s103.1)] 35), (sb b24 #[(sv (([] : UQ))), (vi 0), (vi 0), (vi 0), (.slice none ([] : List Int).length 0), (.slice none ([] : List Line).length 0)] 27)] /\ LC s103.2.2.2.2.2.2.2.2.2.1.length ns103_9 /\ SlA AQ F5 as103_9 s103.2.2.2.2.2.2.2.2.2.1 /\ Ap AK 34 F5 as103_10 ns103_10 s103.2.2.2.2.2.2.2.2.2.2.1 es103_10) ?_ (s := (0, 0, x0.Report, x0.Serial, x0.Zone, ([] : UQ), 0, 0, 0, ([] : List Int), ([] : List Line), 0, false, 0)) (r := r111) ?_ hr112 ?_ ?_ ?_
   ·rintro s F F' L ⟨as103_9, ns103_9, as103_10, ns103_10, es103_10, rfl, hbs103_9, hss103_9, hrs103_10⟩ hl
    exact ⟨as103_9, ns103_9, as103_10, ns103_10, es103_10, rfl, hbs103_9, (hss103_9.mono hl), (hrs103_10.mono hl)⟩
   ·exact ⟨none, 0, none, 0, (none, .cells #[] 0 (0, 0)), rfl, UA, (.inl rfl), (UL AK 34 F4 _)⟩
   ·rintro l114 s103 x116 w117 F5 _ Rf119 q120 le121 ok122 ⟨as103_9, ns103_9, as103_10, ns103_10, es103_10, rfl, hbs103_9, hss103_9, hrs103_10⟩ hs123 hy124
    have h125 := hy124
    have hs126 : HS w0 F0 w117 F5 (es103_10 :: (sb b90 #[(vi s103.2.2.2.2.2.2.2.2.2.2.2.2.2)] 3) :: (sb b47 #[(pt b48 0)] 128) :: (sb b48 #[(.bool s103.2.2.1), (.bool s103.2.2.2.1), (.bool s103.2.2.2.2.1), (sv s103.2.2.2.2.2.1), (vi s103.2.2.2.2.2.2.1), (vi s103.2.2.2.2.2.2.2.1), (vi s103.2.2.2.2.2.2.2.2.1), (.slice as103_9 s103.2.2.2.2.2.2.2.2.2.1.length ns103_9), (.slice as103_10 s103.2.2.2.2.2.2.2.2.2.2.1.length ns103_10), (fV 153 #[]), (fV 154 #[]), (fV 190 #[(pt tbt49_0_0 0), (pt tbt49_0_1 0), (pt tbt49_0_2 0), (pt tbt49_0_3 0)]), (fV 191 #[(pt tbt49_0_0 0), (pt tbt49_0_3 0)]), (fV 190 #[(pt tbt49_0_4 0), (pt tbt49_0_5 0), (pt tbt49_0_6 0), (pt tbt49_0_7 0)]), (fV 191 #[(pt tbt49_0_4 0), (pt tbt49_0_7 0)]), (fV 190 #[(pt tbt49_0_8 0), (pt tbt49_0_9 0), (pt tbt49_0_10 0), (pt tbt49_0_11 0)]), (fV 191 #[(pt tbt49_0_8 0), (pt tbt49_0_11 0)]), (fV 159 #[]), (fV 160 #[]), (vi s103.2.2.2.2.2.2.2.2.2.2.2.1), (.bool s103.2.2.2.2.2.2.2.2.2.2.2.2.1)] 130) :: (sb b30 #[(vi s103.2.1)] 3) :: (sb b27 #[(vi s103.1)] 35) :: (sb b24 #[(sv (([] : UQ))), (vi 0), (vi 0), (vi 0), (.slice none ([] : List Int).length 0), (.slice none ([] : List Line).length 0)] 27) :: Rf119) := hs123
    refine Sq (Rg [0] ?_)
    refine Vs 1 <| Nt <| Rg [0] <| Vs 1 <| Us <| ⟨rfl, F5, [es103_10, (sb b90 #[(vi s103.2.2.2.2.2.2.2.2.2.2.2.2.2)] 3), (sb b47 #[(pt b48 0)] 128), (sb b48 #[(.bool s103.2.2.1), (.bool s103.2.2.2.1), (.bool s103.2.2.2.2.1), (sv s103.2.2.2.2.2.1), (vi s103.2.2.2.2.2.2.1), (vi s103.2.2.2.2.2.2.2.1), (vi s103.2.2.2.2.2.2.2.2.1), (.slice as103_9 s103.2.2.2.2.2.2.2.2.2.1.length ns103_9), (.slice as103_10 s103.2.2.2.2.2.2.2.2.2.2.1.length ns103_10), (fV 153 #[]), (fV 154 #[]), (fV 190 #[(pt tbt49_0_0 0), (pt tbt49_0_1 0), (pt tbt49_0_2 0), (pt tbt49_0_3 0)]), (fV 191 #[(pt tbt49_0_0 0), (pt tbt49_0_3 0)]), (fV 190 #[(pt tbt49_0_4 0), (pt tbt49_0_5 0), (pt tbt49_0_6 0), (pt tbt49_0_7 0)]), (fV 191 #[(pt tbt49_0_4 0), (pt tbt49_0_7 0)]), (fV 190 #[(pt tbt49_0_8 0), (pt tbt49_0_9 0), (pt tbt49_0_10 0), (pt tbt49_0_11 0)]), (fV 191 #[(pt tbt49_0_8 0), (pt tbt49_0_11 0)]), (fV 159 #[]), (fV 160 #[]), (vi s103.2.2.2.2.2.2.2.2.2.2.2.1), (.bool s103.2.2.2.2.2.2.2.2.2.2.2.2.1)] 130), (sb b30 #[(vi s103.2.1)] 3), (sb b27 #[(vi s103.1)] 35), (sb b24 #[(sv (([] : UQ))), (vi 0), (vi 0), (vi 0), (.slice none ([] : List Int).length 0), (.slice none ([] : List Line).length 0)] 27)], hs126, fun w127 Rf128 hs129 => ?_⟩
    have hs130 : HS w0 F0 w127 F5 (es103_10 :: (sb b90 #[(vi s103.2.2.2.2.2.2.2.2.2.2.2.2.2)] 3) :: (sb b47 #[(pt b48 0)] 128) :: (sb b48 #[(.bool s103.2.2.1), (.bool s103.2.2.2.1), (.bool s103.2.2.2.2.1), (sv s103.2.2.2.2.2.1), (vi s103.2.2.2.2.2.2.1), (vi s103.2.2.2.2.2.2.2.1), (vi s103.2.2.2.2.2.2.2.2.1), (.slice as103_9 s103.2.2.2.2.2.2.2.2.2.1.length ns103_9), (.slice as103_10 s103.2.2.2.2.2.2.2.2.2.2.1.length ns103_10), (fV 153 #[]), (fV 154 #[]), (fV 190 #[(pt tbt49_0_0 0), (pt tbt49_0_1 0), (pt tbt49_0_2 0), (pt tbt49_0_3 0)]), (fV 191 #[(pt tbt49_0_0 0), (pt tbt49_0_3 0)]), (fV 190 #[(pt tbt49_0_4 0), (pt tbt49_0_5 0), (pt tbt49_0_6 0), (pt tbt49_0_7 0)]), (fV 191 #[(pt tbt49_0_4 0), (pt tbt49_0_7 0)]), (fV 190 #[(pt tbt49_0_8 0), (pt tbt49_0_9 0), (pt tbt49_0_10 0), (pt tbt49_0_11 0)]), (fV 191 #[(pt tbt49_0_8 0), (pt tbt49_0_11 0)]), (fV 159 #[]), (fV 160 #[]), (vi s103.2.2.2.2.2.2.2.2.2.2.2.1), (.bool s103.2.2.2.2.2.2.2.2.2.2.2.2.1)] 130) :: (sb b30 #[(vi s103.2.1)] 3) :: (sb b27 #[(vi s103.1)] 35) :: (sb b24 #[(sv (([] : UQ))), (vi 0), (vi 0), (vi 0), (.slice none ([] : List Int).length 0), (.slice none ([] : List Line).length 0)] 27) :: Rf128) := hs129
    refine Bk <| Sq (Rg [0, 1, 2] ?_)
    refine Ld hs130.at1 <| Vs 1 <| St1 #[(vi (W64 (s103.2.2.2.2.2.2.2.2.2.2.2.2.2 + 1)))] hs130 (fun w131 hs132 => ?_)
    refine Nss (Rg [0, 1] ?_)
    refine Vs 2 <| Nss <| Sq (Rg [0] ?_)
    refine Vs 1 <| Nt ?_
    obtain ⟨j136, hj145, h146⟩ := bind_some h125
    refine UD (fun f w => ∃ (F7 : Mem) (aj136_9 : UR) (nj136_9 : Nat) (aj136_10 : UR) (nj136_10 : Nat) (ej136_10 : Option Nat × Obj), HS w0 F0 w F7 (ej136_10 :: (sb b90 #[(vi (W64 (s103.2.2.2.2.2.2.2.2.2.2.2.2.2 + 1)))] 3) :: (sb b47 #[(pt b48 0)] 128) :: (sb b48 #[(.bool j136.2.2.1), (.bool j136.2.2.2.1), (.bool j136.2.2.2.2.1), (sv j136.2.2.2.2.2.1), (vi j136.2.2.2.2.2.2.1), (vi j136.2.2.2.2.2.2.2.1), (vi j136.2.2.2.2.2.2.2.2.1), (.slice aj136_9 j136.2.2.2.2.2.2.2.2.2.1.length nj136_9), (.slice aj136_10 j136.2.2.2.2.2.2.2.2.2.2.1.length nj136_10), (fV 153 #[]), (fV 154 #[]), (fV 190 #[(pt tbt49_0_0 0), (pt tbt49_0_1 0), (pt tbt49_0_2 0), (pt tbt49_0_3 0)]), (fV 191 #[(pt tbt49_0_0 0), (pt tbt49_0_3 0)]), (fV 190 #[(pt tbt49_0_4 0), (pt tbt49_0_5 0), (pt tbt49_0_6 0), (pt tbt49_0_7 0)]), (fV 191 #[(pt tbt49_0_4 0), (pt tbt49_0_7 0)]), (fV 190 #[(pt tbt49_0_8 0), (pt tbt49_0_9 0), (pt tbt49_0_10 0), (pt tbt49_0_11 0)]), (fV 191 #[(pt tbt49_0_8 0), (pt tbt49_0_11 0)]), (fV 159 #[]), (fV 160 #[]), (vi j136.2.2.2.2.2.2.2.2.2.2.2.1), (.bool j136.2.2.2.2.2.2.2.2.2.2.2.2)] 130) :: (sb b30 #[(vi s103.2.1)] 3) :: (sb b27 #[(vi s103.1)] 35) :: (sb b24 #[(sv (([] : UQ))), (vi 0), (vi 0), (vi 0), (.slice none ([] : List Int).length 0), (.slice none ([] : List Line).length 0)] 27) :: Rf128) /\ Uw F5 F7 /\ FI f [] [(4, (pt b24 0)), (5, (pt b27 0)), (6, (pt b30 0)), (7, (pt b47 0)), (8, (pt b90 0)), (11, (.bool j136.1)), (12, (.bool j136.2.1))] /\ LC j136.2.2.2.2.2.2.2.2.2.1.length nj136_9 /\ SlA AQ F7 aj136_9 j136.2.2.2.2.2.2.2.2.2.1 /\ Ap AK 34 F7 aj136_10 nj136_10 j136.2.2.2.2.2.2.2.2.2.2.1 ej136_10) ?_ ?_
    ·refine Cd hj145 (fun hb147 h148 => ?_) (fun hb147 h149 => ?_)
     ·refine Rg (rG 8) ?_
      refine Ld hs132.at2 <| Vs 1 ?_
      have hs150 := hs132.pk6.pk6.pk6.pk5.pk5
      obtain ⟨r151, hr152, h153⟩ := bind_some h148
      refine CB Hy (H9 N (hG.mono ((le46.t le98).trans le121)) b48 (({ o_ := ({ Report := s103.2.2.1, Serial := s103.2.2.2.1, Zone := s103.2.2.2.2.1 } : Ac), l_ := ({ Call := s103.2.2.2.2.2.1, Category := s103.2.2.2.2.2.2.1, Power := s103.2.2.2.2.2.2.2.1, Claimed := s103.2.2.2.2.2.2.2.2.1, Jumps := s103.2.2.2.2.2.2.2.2.2.1, Lines := s103.2.2.2.2.2.2.2.2.2.2.1 } : Log), done_ := s103.2.2.2.2.2.2.2.2.2.2.2.1, ended_ := s103.2.2.2.2.2.2.2.2.2.2.2.2.1 } : Ah)) as103_9 ns103_9 tbt49_0_0 tbt49_0_1 tbt49_0_2 tbt49_0_3 tbt49_0_4 tbt49_0_5 tbt49_0_6 tbt49_0_7 tbt49_0_8 tbt49_0_9 tbt49_0_10 tbt49_0_11 as103_10 ns103_10 es103_10 hbs103_9 hss103_9 ((le98.t le121) _ _ htbt49_0_0) ((le98.t le121) _ _ htbt49_0_1) ((le98.t le121) _ _ htbt49_0_2) ((le98.t le121) _ _ htbt49_0_3) ((le98.t le121) _ _ htbt49_0_4) ((le98.t le121) _ _ htbt49_0_5) ((le98.t le121) _ _ htbt49_0_6) ((le98.t le121) _ _ htbt49_0_7) ((le98.t le121) _ _ htbt49_0_8) ((le98.t le121) _ _ htbt49_0_9) ((le98.t le121) _ _ htbt49_0_10) ((le98.t le121) _ _ htbt49_0_11) hrs103_10 x116.1 hs150.pk5.pk6 _ hr152) ?_
      rintro _ F8 w154 _ hs155 le156 ⟨ar151_0_7, nr151_0_7, ar151_0_8, nr151_0_8, er151_0_8, rfl, rfl, hbr151_0_7, hsr151_0_7, hrr151_0_8⟩
      refine Vs 5 <| Us ?_
      obtain rfl := Aa h153
      have hs158 := hs155.pk6.pk6.pk6.pk3.pk6
      exact .inl ⟨rfl, F8, ar151_0_7, nr151_0_7, ar151_0_8, nr151_0_8, er151_0_8, hs158.pk6.pk6, le156, fI, hbr151_0_7, hsr151_0_7, hrr151_0_8⟩
     ·refine Sc ?_
      obtain rfl := Aa h149
      exact .inl ⟨rfl, F5, as103_9, ns103_9, as103_10, ns103_10, es103_10, hs132, (Ux _), fI, hbs103_9, hss103_9, hrs103_10⟩
    ·rintro f w133 ⟨F7, aj136_9, nj136_9, aj136_10, nj136_10, ej136_10, hs134, le135, ⟨_, rfl⟩, hbj136_9, hsj136_9, hrj136_10⟩
     refine Ab <| Bk <| Sq (Rg [0, 1] ?_)
     refine Vs 2 <| Nt <| Cd h146 (fun hb159 h160 => ?_) (fun hb159 h161 => ?_)
     ·refine Sq ?_
      refine RD 4 5 [ej136_10, (sb b90 #[(vi (W64 (s103.2.2.2.2.2.2.2.2.2.2.2.2.2 + 1)))] 3), (sb b47 #[(pt b48 0)] 128), (sb b48 #[(.bool j136.2.2.1), (.bool j136.2.2.2.1), (.bool j136.2.2.2.2.1), (sv j136.2.2.2.2.2.1), (vi j136.2.2.2.2.2.2.1), (vi j136.2.2.2.2.2.2.2.1), (vi j136.2.2.2.2.2.2.2.2.1), (.slice aj136_9 j136.2.2.2.2.2.2.2.2.2.1.length nj136_9), (.slice aj136_10 j136.2.2.2.2.2.2.2.2.2.2.1.length nj136_10), (fV 153 #[]), (fV 154 #[]), (fV 190 #[(pt tbt49_0_0 0), (pt tbt49_0_1 0), (pt tbt49_0_2 0), (pt tbt49_0_3 0)]), (fV 191 #[(pt tbt49_0_0 0), (pt tbt49_0_3 0)]), (fV 190 #[(pt tbt49_0_4 0), (pt tbt49_0_5 0), (pt tbt49_0_6 0), (pt tbt49_0_7 0)]), (fV 191 #[(pt tbt49_0_4 0), (pt tbt49_0_7 0)]), (fV 190 #[(pt tbt49_0_8 0), (pt tbt49_0_9 0), (pt tbt49_0_10 0), (pt tbt49_0_11 0)]), (fV 191 #[(pt tbt49_0_8 0), (pt tbt49_0_11 0)]), (fV 159 #[]), (fV 160 #[]), (vi j136.2.2.2.2.2.2.2.2.2.2.2.1), (.bool j136.2.2.2.2.2.2.2.2.2.2.2.2)] 130)] [(sb b30 #[(vi s103.2.1)] 3)] hs134 (fun f w => ∃ (F9 : Mem), HS w0 F0 w F9 (ej136_10 :: (sb b90 #[(vi (W64 (s103.2.2.2.2.2.2.2.2.2.2.2.2.2 + 1)))] 3) :: (sb b47 #[(pt b48 0)] 128) :: (sb b48 #[(.bool j136.2.2.1), (.bool j136.2.2.2.1), (.bool j136.2.2.2.2.1), (sv j136.2.2.2.2.2.1), (vi j136.2.2.2.2.2.2.1), (vi j136.2.2.2.2.2.2.2.1), (vi j136.2.2.2.2.2.2.2.2.1), (.slice aj136_9 j136.2.2.2.2.2.2.2.2.2.1.length nj136_9), (.slice aj136_10 j136.2.2.2.2.2.2.2.2.2.2.1.length nj136_10), (fV 153 #[]), (fV 154 #[]), (fV 190 #[(pt tbt49_0_0 0), (pt tbt49_0_1 0), (pt tbt49_0_2 0), (pt tbt49_0_3 0)]), (fV 191 #[(pt tbt49_0_0 0), (pt tbt49_0_3 0)]), (fV 190 #[(pt tbt49_0_4 0), (pt tbt49_0_5 0), (pt tbt49_0_6 0), (pt tbt49_0_7 0)]), (fV 191 #[(pt tbt49_0_4 0), (pt tbt49_0_7 0)]), (fV 190 #[(pt tbt49_0_8 0), (pt tbt49_0_9 0), (pt tbt49_0_10 0), (pt tbt49_0_11 0)]), (fV 191 #[(pt tbt49_0_8 0), (pt tbt49_0_11 0)]), (fV 159 #[]), (fV 160 #[]), (vi j136.2.2.2.2.2.2.2.2.2.2.2.1), (.bool j136.2.2.2.2.2.2.2.2.2.2.2.2)] 130) :: (sb b30 #[(vi (W64 (s103.2.2.2.2.2.2.2.2.2.2.2.2.2 + 1)))] 3) :: (sb b27 #[(vi 2)] 35) :: (sb b24 #[(sv (([] : UQ))), (vi 0), (vi 0), (vi 0), (.slice none ([] : List Int).length 0), (.slice none ([] : List Line).length 0)] 27) :: Rf128) /\ Uw F7 F9 /\ FI f [] [(4, (pt b24 0)), (5, (pt b27 0)), (6, (pt b30 0)), (7, (pt b47 0)), (8, (pt b90 0))]) (fun wd162 hw163 => ?_) ?_
      ·refine Dv [0] ?_
       refine Dl 1 (fun _ hq => (hq.1.2 1 _ _ rfl)) <| D1 2 <| SR #[(sv (([] : UQ))), (vi 0), (vi 0), (vi 0), (.slice none ([] : List Int).length 0), (.slice none ([] : List Line).length 0)] hw163 (Ux _) (fun w173 hs174 => ?_)
       refine D1 3 <| QH #[(vi 2)] hs174 (Ux _) (fun w175 hs176 => ?_)
       refine D1 4 <| Ud #[(vi (W64 (s103.2.2.2.2.2.2.2.2.2.2.2.2.2 + 1)))] hs176 (Ux _) (fun w177 hs178 => ?_)
       exact UJ (by kernel_rfl) ⟨F7, hs178, (Ux _), fI⟩
      ·rintro f w164 ⟨F9, hs165, le166, ⟨_, rfl⟩⟩
       refine Ab <| Rt <| Az <| Az ?_
       obtain rfl := Aa h160
       exact ⟨.inr ⟨rfl, rfl⟩, F9, [ej136_10, (sb b90 #[(vi (W64 (s103.2.2.2.2.2.2.2.2.2.2.2.2.2 + 1)))] 3), (sb b47 #[(pt b48 0)] 128), (sb b48 #[(.bool j136.2.2.1), (.bool j136.2.2.2.1), (.bool j136.2.2.2.2.1), (sv j136.2.2.2.2.2.1), (vi j136.2.2.2.2.2.2.1), (vi j136.2.2.2.2.2.2.2.1), (vi j136.2.2.2.2.2.2.2.2.1), (.slice aj136_9 j136.2.2.2.2.2.2.2.2.2.1.length nj136_9), (.slice aj136_10 j136.2.2.2.2.2.2.2.2.2.2.1.length nj136_10), (fV 153 #[]), (fV 154 #[]), (fV 190 #[(pt tbt49_0_0 0), (pt tbt49_0_1 0), (pt tbt49_0_2 0), (pt tbt49_0_3 0)]), (fV 191 #[(pt tbt49_0_0 0), (pt tbt49_0_3 0)]), (fV 190 #[(pt tbt49_0_4 0), (pt tbt49_0_5 0), (pt tbt49_0_6 0), (pt tbt49_0_7 0)]), (fV 191 #[(pt tbt49_0_4 0), (pt tbt49_0_7 0)]), (fV 190 #[(pt tbt49_0_8 0), (pt tbt49_0_9 0), (pt tbt49_0_10 0), (pt tbt49_0_11 0)]), (fV 191 #[(pt tbt49_0_8 0), (pt tbt49_0_11 0)]), (fV 159 #[]), (fV 160 #[]), (vi j136.2.2.2.2.2.2.2.2.2.2.2.1), (.bool j136.2.2.2.2.2.2.2.2.2.2.2.2)] 130), (sb b30 #[(vi (W64 (s103.2.2.2.2.2.2.2.2.2.2.2.2.2 + 1)))] 3), (sb b27 #[(vi 2)] 35), (sb b24 #[(sv (([] : UQ))), (vi 0), (vi 0), (vi 0), (.slice none ([] : List Int).length 0), (.slice none ([] : List Line).length 0)] 27)], hs165, (le135.t le166), ⟨aj136_9, nj136_9, aj136_10, nj136_10, ej136_10, rfl, hbj136_9, (Uz hsj136_9 le166), (hrj136_10.mono le166)⟩⟩
     ·refine Sq (Rg [0, 1, 2] ?_)
      refine Vs 3 <| Nt <| Cd h161 (fun hb180 h181 => ?_) (fun hb180 h182 => ?_)
      ·refine Sq ?_
       refine RD 4 5 [ej136_10, (sb b90 #[(vi (W64 (s103.2.2.2.2.2.2.2.2.2.2.2.2.2 + 1)))] 3), (sb b47 #[(pt b48 0)] 128), (sb b48 #[(.bool j136.2.2.1), (.bool j136.2.2.2.1), (.bool j136.2.2.2.2.1), (sv j136.2.2.2.2.2.1), (vi j136.2.2.2.2.2.2.1), (vi j136.2.2.2.2.2.2.2.1), (vi j136.2.2.2.2.2.2.2.2.1), (.slice aj136_9 j136.2.2.2.2.2.2.2.2.2.1.length nj136_9), (.slice aj136_10 j136.2.2.2.2.2.2.2.2.2.2.1.length nj136_10), (fV 153 #[]), (fV 154 #[]), (fV 190 #[(pt tbt49_0_0 0), (pt tbt49_0_1 0), (pt tbt49_0_2 0), (pt tbt49_0_3 0)]), (fV 191 #[(pt tbt49_0_0 0), (pt tbt49_0_3 0)]), (fV 190 #[(pt tbt49_0_4 0), (pt tbt49_0_5 0), (pt tbt49_0_6 0), (pt tbt49_0_7 0)]), (fV 191 #[(pt tbt49_0_4 0), (pt tbt49_0_7 0)]), (fV 190 #[(pt tbt49_0_8 0), (pt tbt49_0_9 0), (pt tbt49_0_10 0), (pt tbt49_0_11 0)]), (fV 191 #[(pt tbt49_0_8 0), (pt tbt49_0_11 0)]), (fV 159 #[]), (fV 160 #[]), (vi j136.2.2.2.2.2.2.2.2.2.2.2.1), (.bool j136.2.2.2.2.2.2.2.2.2.2.2.2)] 130)] [(sb b30 #[(vi s103.2.1)] 3)] hs134 (fun f w => ∃ (F10 : Mem), HS w0 F0 w F10 (ej136_10 :: (sb b90 #[(vi (W64 (s103.2.2.2.2.2.2.2.2.2.2.2.2.2 + 1)))] 3) :: (sb b47 #[(pt b48 0)] 128) :: (sb b48 #[(.bool j136.2.2.1), (.bool j136.2.2.2.1), (.bool j136.2.2.2.2.1), (sv j136.2.2.2.2.2.1), (vi j136.2.2.2.2.2.2.1), (vi j136.2.2.2.2.2.2.2.1), (vi j136.2.2.2.2.2.2.2.2.1), (.slice aj136_9 j136.2.2.2.2.2.2.2.2.2.1.length nj136_9), (.slice aj136_10 j136.2.2.2.2.2.2.2.2.2.2.1.length nj136_10), (fV 153 #[]), (fV 154 #[]), (fV 190 #[(pt tbt49_0_0 0), (pt tbt49_0_1 0), (pt tbt49_0_2 0), (pt tbt49_0_3 0)]), (fV 191 #[(pt tbt49_0_0 0), (pt tbt49_0_3 0)]), (fV 190 #[(pt tbt49_0_4 0), (pt tbt49_0_5 0), (pt tbt49_0_6 0), (pt tbt49_0_7 0)]), (fV 191 #[(pt tbt49_0_4 0), (pt tbt49_0_7 0)]), (fV 190 #[(pt tbt49_0_8 0), (pt tbt49_0_9 0), (pt tbt49_0_10 0), (pt tbt49_0_11 0)]), (fV 191 #[(pt tbt49_0_8 0), (pt tbt49_0_11 0)]), (fV 159 #[]), (fV 160 #[]), (vi j136.2.2.2.2.2.2.2.2.2.2.2.1), (.bool j136.2.2.2.2.2.2.2.2.2.2.2.2)] 130) :: (sb b30 #[(vi (W64 (s103.2.2.2.2.2.2.2.2.2.2.2.2.2 + 1)))] 3) :: (sb b27 #[(vi 20)] 35) :: (sb b24 #[(sv (([] : UQ))), (vi 0), (vi 0), (vi 0), (.slice none ([] : List Int).length 0), (.slice none ([] : List Line).length 0)] 27) :: Rf128) /\ Uw F7 F10 /\ FI f [] [(4, (pt b24 0)), (5, (pt b27 0)), (6, (pt b30 0)), (7, (pt b47 0)), (8, (pt b90 0))]) (fun wd183 hw184 => ?_) ?_
       ·refine Dv [0] ?_
        refine Dl 1 (fun _ hq => (hq.1.2 1 _ _ rfl)) <| D1 2 <| SR #[(sv (([] : UQ))), (vi 0), (vi 0), (vi 0), (.slice none ([] : List Int).length 0), (.slice none ([] : List Line).length 0)] hw184 (Ux _) (fun w194 hs195 => ?_)
        refine D1 3 <| QH #[(vi 20)] hs195 (Ux _) (fun w196 hs197 => ?_)
        refine D1 4 <| Ud #[(vi (W64 (s103.2.2.2.2.2.2.2.2.2.2.2.2.2 + 1)))] hs197 (Ux _) (fun w198 hs199 => ?_)
        exact UJ (by kernel_rfl) ⟨F7, hs199, (Ux _), fI⟩
       ·rintro f w185 ⟨F10, hs186, le187, ⟨_, rfl⟩⟩
        refine Ab <| Rt <| Az <| Az ?_
        obtain rfl := Aa h181
        exact ⟨.inr ⟨rfl, rfl⟩, F10, [ej136_10, (sb b90 #[(vi (W64 (s103.2.2.2.2.2.2.2.2.2.2.2.2.2 + 1)))] 3), (sb b47 #[(pt b48 0)] 128), (sb b48 #[(.bool j136.2.2.1), (.bool j136.2.2.2.1), (.bool j136.2.2.2.2.1), (sv j136.2.2.2.2.2.1), (vi j136.2.2.2.2.2.2.1), (vi j136.2.2.2.2.2.2.2.1), (vi j136.2.2.2.2.2.2.2.2.1), (.slice aj136_9 j136.2.2.2.2.2.2.2.2.2.1.length nj136_9), (.slice aj136_10 j136.2.2.2.2.2.2.2.2.2.2.1.length nj136_10), (fV 153 #[]), (fV 154 #[]), (fV 190 #[(pt tbt49_0_0 0), (pt tbt49_0_1 0), (pt tbt49_0_2 0), (pt tbt49_0_3 0)]), (fV 191 #[(pt tbt49_0_0 0), (pt tbt49_0_3 0)]), (fV 190 #[(pt tbt49_0_4 0), (pt tbt49_0_5 0), (pt tbt49_0_6 0), (pt tbt49_0_7 0)]), (fV 191 #[(pt tbt49_0_4 0), (pt tbt49_0_7 0)]), (fV 190 #[(pt tbt49_0_8 0), (pt tbt49_0_9 0), (pt tbt49_0_10 0), (pt tbt49_0_11 0)]), (fV 191 #[(pt tbt49_0_8 0), (pt tbt49_0_11 0)]), (fV 159 #[]), (fV 160 #[]), (vi j136.2.2.2.2.2.2.2.2.2.2.2.1), (.bool j136.2.2.2.2.2.2.2.2.2.2.2.2)] 130), (sb b30 #[(vi (W64 (s103.2.2.2.2.2.2.2.2.2.2.2.2.2 + 1)))] 3), (sb b27 #[(vi 20)] 35), (sb b24 #[(sv (([] : UQ))), (vi 0), (vi 0), (vi 0), (.slice none ([] : List Int).length 0), (.slice none ([] : List Line).length 0)] 27)], hs186, (le135.t le187), ⟨aj136_9, nj136_9, aj136_10, nj136_10, ej136_10, rfl, hbj136_9, (Uz hsj136_9 le187), (hrj136_10.mono le187)⟩⟩
      ·refine Sc ?_
       refine Av <| Av ?_
       obtain rfl := Aa h182
       exact ⟨.inl ⟨rfl, rfl⟩, F7, [ej136_10, (sb b90 #[(vi (W64 (s103.2.2.2.2.2.2.2.2.2.2.2.2.2 + 1)))] 3), (sb b47 #[(pt b48 0)] 128), (sb b48 #[(.bool j136.2.2.1), (.bool j136.2.2.2.1), (.bool j136.2.2.2.2.1), (sv j136.2.2.2.2.2.1), (vi j136.2.2.2.2.2.2.1), (vi j136.2.2.2.2.2.2.2.1), (vi j136.2.2.2.2.2.2.2.2.1), (.slice aj136_9 j136.2.2.2.2.2.2.2.2.2.1.length nj136_9), (.slice aj136_10 j136.2.2.2.2.2.2.2.2.2.2.1.length nj136_10), (fV 153 #[]), (fV 154 #[]), (fV 190 #[(pt tbt49_0_0 0), (pt tbt49_0_1 0), (pt tbt49_0_2 0), (pt tbt49_0_3 0)]), (fV 191 #[(pt tbt49_0_0 0), (pt tbt49_0_3 0)]), (fV 190 #[(pt tbt49_0_4 0), (pt tbt49_0_5 0), (pt tbt49_0_6 0), (pt tbt49_0_7 0)]), (fV 191 #[(pt tbt49_0_4 0), (pt tbt49_0_7 0)]), (fV 190 #[(pt tbt49_0_8 0), (pt tbt49_0_9 0), (pt tbt49_0_10 0), (pt tbt49_0_11 0)]), (fV 191 #[(pt tbt49_0_8 0), (pt tbt49_0_11 0)]), (fV 159 #[]), (fV 160 #[]), (vi j136.2.2.2.2.2.2.2.2.2.2.2.1), (.bool j136.2.2.2.2.2.2.2.2.2.2.2.2)] 130), (sb b30 #[(vi s103.2.1)] 3), (sb b27 #[(vi s103.1)] 35), (sb b24 #[(sv (([] : UQ))), (vi 0), (vi 0), (vi 0), (.slice none ([] : List Int).length 0), (.slice none ([] : List Line).length 0)] 27)], hs134, le135, ⟨aj136_9, nj136_9, aj136_10, nj136_10, ej136_10, rfl, hbj136_9, hsj136_9, hrj136_10⟩⟩
   ·rintro hg206
    have h207 := NL h113 hg206
    rintro D202 w203 F6 _ hs204 le205 ⟨as107_9, ns107_9, as107_10, ns107_10, es107_10, rfl, hbs107_9, hss107_9, hrs107_10⟩
    have hs208 : HS w0 F0 w203 F6 [(some D202, (.deferred (some []))), es107_10, (sb b90 #[(vi r111.1.2.2.2.2.2.2.2.2.2.2.2.2.2)] 3), (sb b47 #[(pt b48 0)] 128), (sb b48 #[(.bool r111.1.2.2.1), (.bool r111.1.2.2.2.1), (.bool r111.1.2.2.2.2.1), (sv r111.1.2.2.2.2.2.1), (vi r111.1.2.2.2.2.2.2.1), (vi r111.1.2.2.2.2.2.2.2.1), (vi r111.1.2.2.2.2.2.2.2.2.1), (.slice as107_9 r111.1.2.2.2.2.2.2.2.2.2.1.length ns107_9), (.slice as107_10 r111.1.2.2.2.2.2.2.2.2.2.2.1.length ns107_10), (fV 153 #[]), (fV 154 #[]), (fV 190 #[(pt tbt49_0_0 0), (pt tbt49_0_1 0), (pt tbt49_0_2 0), (pt tbt49_0_3 0)]), (fV 191 #[(pt tbt49_0_0 0), (pt tbt49_0_3 0)]), (fV 190 #[(pt tbt49_0_4 0), (pt tbt49_0_5 0), (pt tbt49_0_6 0), (pt tbt49_0_7 0)]), (fV 191 #[(pt tbt49_0_4 0), (pt tbt49_0_7 0)]), (fV 190 #[(pt tbt49_0_8 0), (pt tbt49_0_9 0), (pt tbt49_0_10 0), (pt tbt49_0_11 0)]), (fV 191 #[(pt tbt49_0_8 0), (pt tbt49_0_11 0)]), (fV 159 #[]), (fV 160 #[]), (vi r111.1.2.2.2.2.2.2.2.2.2.2.2.1), (.bool r111.1.2.2.2.2.2.2.2.2.2.2.2.2.1)] 130), (sb b30 #[(vi r111.1.2.1)] 3), (sb b27 #[(vi r111.1.1)] 35), (sb b24 #[(sv (([] : UQ))), (vi 0), (vi 0), (vi 0), (.slice none ([] : List Int).length 0), (.slice none ([] : List Line).length 0)] 27)] := hs204
    refine Av <| Ab <| Sq <| Sq (Rg (rG 5) ?_)
    refine Ld hs208.at3 <| Vs 2 <| Ld hs208.at4 <| Vs 1 <| Nt <| Cd h207 (fun hb209 h210 => ?_) (fun hb209 h211 => ?_)
    ·refine Sq ?_
     refine RD 5 6 [(some D202, (.deferred (some []))), es107_10, (sb b90 #[(vi r111.1.2.2.2.2.2.2.2.2.2.2.2.2.2)] 3), (sb b47 #[(pt b48 0)] 128), (sb b48 #[(.bool r111.1.2.2.1), (.bool r111.1.2.2.2.1), (.bool r111.1.2.2.2.2.1), (sv r111.1.2.2.2.2.2.1), (vi r111.1.2.2.2.2.2.2.1), (vi r111.1.2.2.2.2.2.2.2.1), (vi r111.1.2.2.2.2.2.2.2.2.1), (.slice as107_9 r111.1.2.2.2.2.2.2.2.2.2.1.length ns107_9), (.slice as107_10 r111.1.2.2.2.2.2.2.2.2.2.2.1.length ns107_10), (fV 153 #[]), (fV 154 #[]), (fV 190 #[(pt tbt49_0_0 0), (pt tbt49_0_1 0), (pt tbt49_0_2 0), (pt tbt49_0_3 0)]), (fV 191 #[(pt tbt49_0_0 0), (pt tbt49_0_3 0)]), (fV 190 #[(pt tbt49_0_4 0), (pt tbt49_0_5 0), (pt tbt49_0_6 0), (pt tbt49_0_7 0)]), (fV 191 #[(pt tbt49_0_4 0), (pt tbt49_0_7 0)]), (fV 190 #[(pt tbt49_0_8 0), (pt tbt49_0_9 0), (pt tbt49_0_10 0), (pt tbt49_0_11 0)]), (fV 191 #[(pt tbt49_0_8 0), (pt tbt49_0_11 0)]), (fV 159 #[]), (fV 160 #[]), (vi r111.1.2.2.2.2.2.2.2.2.2.2.2.1), (.bool r111.1.2.2.2.2.2.2.2.2.2.2.2.2.1)] 130)] [(sb b30 #[(vi r111.1.2.1)] 3)] hs208 (fun f w => ∃ (F11 : Mem), HS w0 F0 w F11 [(some D202, (.deferred (some []))), (sb b30 #[(vi (W64 (r111.1.2.2.2.2.2.2.2.2.2.2.2.2.2 + 1)))] 3), (sb b27 #[(vi 20)] 35), (sb b24 #[(sv (([] : UQ))), (vi 0), (vi 0), (vi 0), (.slice none ([] : List Int).length 0), (.slice none ([] : List Line).length 0)] 27)] /\ Uw F6 F11 /\ FI f [{ target := .collected D202, args := #[] }] [(4, (pt b24 0)), (5, (pt b27 0)), (6, (pt b30 0))]) (fun wd212 hw213 => ?_) ?_
     ·refine Dv [0] ?_
      refine Dl 1 (fun _ hq => (hq.1.2 2 _ _ rfl)) <| Dv [2] <| D1 3 <| Up #[(sv (([] : UQ))), (vi 0), (vi 0), (vi 0), (.slice none ([] : List Int).length 0), (.slice none ([] : List Line).length 0)] hw213 (Ux _) (fun w221 hs222 => ?_)
      refine D1 4 <| SR #[(vi 20)] hs222 (Ux _) (fun w223 hs224 => ?_)
      refine D1 5 <| QH #[(vi (W64 (r111.1.2.2.2.2.2.2.2.2.2.2.2.2.2 + 1)))] hs224 (Ux _) (fun w225 hs226 => ?_)
      exact UJ (by kernel_rfl) ⟨F6, hs226.dr1.dr1.dr1.dr1, (Ux _), fI⟩
     ·rintro f w214 ⟨F11, hs215, le216, ⟨_, rfl⟩⟩
      refine Ab <| Rt <| Aj ?_
      have hs227 := hs215.put (k := 0) rfl (.deferred none)
      have hs228 : HS w0 F0 (BT w214 D202 (.deferred none)) F11 [(sb b30 #[(vi (W64 (r111.1.2.2.2.2.2.2.2.2.2.2.2.2.2 + 1)))] 3), (sb b27 #[(vi 20)] 35), (sb b24 #[(sv (([] : UQ))), (vi 0), (vi 0), (vi 0), (.slice none ([] : List Int).length 0), (.slice none ([] : List Line).length 0)] 27)] := hs227.drop 0
      obtain rfl := Aa h210
      exact .inr ⟨D202, rfl, hs215.ownAt (k := 0) rfl, (.tuple #[(.agg #[(sv (([] : UQ))), (vi 0), (vi 0), (vi 0), (.slice none ([] : List Int).length 0), (.slice none ([] : List Line).length 0)]), (vi 20), (vi (W64 (r111.1.2.2.2.2.2.2.2.2.2.2.2.2.2 + 1)))]), AR (l := [.cell 4 27, .cell 5 35, .cell 6 3]) (by kernel_rfl) (vs := [(.agg #[(sv (([] : UQ))), (vi 0), (vi 0), (vi 0), (.slice none ([] : List Int).length 0), (.slice none ([] : List Line).length 0)]), (vi 20), (vi (W64 (r111.1.2.2.2.2.2.2.2.2.2.2.2.2.2 + 1)))]) ⟨b24, 0, rfl, Am (t := 27) (g := true) (s := 6) (by kernel_rfl) hs228.at2 rfl (by decide), ⟨b27, 0, rfl, Am (t := 35) (g := false) (s := 1) (by kernel_rfl) hs228.at1 rfl (by decide), ⟨b30, 0, rfl, Am (t := 3) (g := false) (s := 1) (by kernel_rfl) hs228.at0 rfl (by decide), trivial⟩⟩⟩, (.tuple #[(.agg #[(sv (([] : UQ))), (vi 0), (vi 0), (vi 0), (.slice none ([] : List Int).length 0), (.slice none ([] : List Line).length 0)]), (vi 20), (vi (W64 (r111.1.2.2.2.2.2.2.2.2.2.2.2.2.2 + 1)))]), F11, rfl, hs228.clear, ⟨none, 0, none, 0, rfl, UA, (.inl rfl), UA, (.inl rfl)⟩⟩
    ·refine Sc ?_
     refine Ab <| Sq (Rg (rG 7) ?_)
     refine Ld hs208.at3 <| Vs 2 <| Ld hs208.at4 <| St7 #[(sv r111.1.2.2.2.2.2.1), (vi r111.1.2.2.2.2.2.2.1), (vi r111.1.2.2.2.2.2.2.2.1), (vi r111.1.2.2.2.2.2.2.2.2.1), (.slice as107_9 r111.1.2.2.2.2.2.2.2.2.2.1.length ns107_9), (.slice as107_10 r111.1.2.2.2.2.2.2.2.2.2.2.1.length ns107_10)] hs208 (fun w229 hs230 => ?_)
     refine St6 #[(vi 0)] hs230 (fun w231 hs232 => ?_)
     refine St5 #[(vi 0)] hs232 (fun w233 hs234 => ?_)
     refine Nt <| Rt ?_
     have hb238 := UK hrs107_10
     obtain ⟨F12, hs235, le236, hs237⟩ := hs234.fr1 hrs107_10
     have hs239 := hs235.put (k := 0) rfl (.deferred none)
     have hs240 : HS w0 F0 (BT w233 D202 (.deferred none)) F12 [(sb b90 #[(vi r111.1.2.2.2.2.2.2.2.2.2.2.2.2.2)] 3), (sb b47 #[(pt b48 0)] 128), (sb b48 #[(.bool r111.1.2.2.1), (.bool r111.1.2.2.2.1), (.bool r111.1.2.2.2.2.1), (sv r111.1.2.2.2.2.2.1), (vi r111.1.2.2.2.2.2.2.1), (vi r111.1.2.2.2.2.2.2.2.1), (vi r111.1.2.2.2.2.2.2.2.2.1), (.slice as107_9 r111.1.2.2.2.2.2.2.2.2.2.1.length ns107_9), (.slice as107_10 r111.1.2.2.2.2.2.2.2.2.2.2.1.length ns107_10), (fV 153 #[]), (fV 154 #[]), (fV 190 #[(pt tbt49_0_0 0), (pt tbt49_0_1 0), (pt tbt49_0_2 0), (pt tbt49_0_3 0)]), (fV 191 #[(pt tbt49_0_0 0), (pt tbt49_0_3 0)]), (fV 190 #[(pt tbt49_0_4 0), (pt tbt49_0_5 0), (pt tbt49_0_6 0), (pt tbt49_0_7 0)]), (fV 191 #[(pt tbt49_0_4 0), (pt tbt49_0_7 0)]), (fV 190 #[(pt tbt49_0_8 0), (pt tbt49_0_9 0), (pt tbt49_0_10 0), (pt tbt49_0_11 0)]), (fV 191 #[(pt tbt49_0_8 0), (pt tbt49_0_11 0)]), (fV 159 #[]), (fV 160 #[]), (vi r111.1.2.2.2.2.2.2.2.2.2.2.2.1), (.bool r111.1.2.2.2.2.2.2.2.2.2.2.2.2.1)] 130), (sb b30 #[(vi 0)] 3), (sb b27 #[(vi 0)] 35), (sb b24 #[(sv r111.1.2.2.2.2.2.1), (vi r111.1.2.2.2.2.2.2.1), (vi r111.1.2.2.2.2.2.2.2.1), (vi r111.1.2.2.2.2.2.2.2.2.1), (.slice as107_9 r111.1.2.2.2.2.2.2.2.2.2.1.length ns107_9), (.slice as107_10 r111.1.2.2.2.2.2.2.2.2.2.2.1.length ns107_10)] 27)] := hs239.drop 0
     obtain rfl := Aa h211
     exact .inr ⟨D202, rfl, hs235.ownAt (k := 0) rfl, (.tuple #[(.agg #[(sv r111.1.2.2.2.2.2.1), (vi r111.1.2.2.2.2.2.2.1), (vi r111.1.2.2.2.2.2.2.2.1), (vi r111.1.2.2.2.2.2.2.2.2.1), (.slice as107_9 r111.1.2.2.2.2.2.2.2.2.2.1.length ns107_9), (.slice as107_10 r111.1.2.2.2.2.2.2.2.2.2.2.1.length ns107_10)]), (vi 0), (vi 0)]), AR (l := [.cell 4 27, .cell 5 35, .cell 6 3]) (by kernel_rfl) (vs := [(.agg #[(sv r111.1.2.2.2.2.2.1), (vi r111.1.2.2.2.2.2.2.1), (vi r111.1.2.2.2.2.2.2.2.1), (vi r111.1.2.2.2.2.2.2.2.2.1), (.slice as107_9 r111.1.2.2.2.2.2.2.2.2.2.1.length ns107_9), (.slice as107_10 r111.1.2.2.2.2.2.2.2.2.2.2.1.length ns107_10)]), (vi 0), (vi 0)]) ⟨b24, 0, rfl, Am (t := 27) (g := true) (s := 6) (by kernel_rfl) hs240.at5 rfl (by decide), ⟨b27, 0, rfl, Am (t := 35) (g := false) (s := 1) (by kernel_rfl) hs240.at4 rfl (by decide), ⟨b30, 0, rfl, Am (t := 3) (g := false) (s := 1) (by kernel_rfl) hs240.at3 rfl (by decide), trivial⟩⟩⟩, (.tuple #[(.agg #[(sv r111.1.2.2.2.2.2.1), (vi r111.1.2.2.2.2.2.2.1), (vi r111.1.2.2.2.2.2.2.2.1), (vi r111.1.2.2.2.2.2.2.2.2.1), (.slice as107_9 r111.1.2.2.2.2.2.2.2.2.2.1.length ns107_9), (.slice as107_10 r111.1.2.2.2.2.2.2.2.2.2.2.1.length ns107_10)]), (vi 0), (vi 0)]), F12, rfl, hs240.clear, ⟨as107_9, ns107_9, as107_10, ns107_10, rfl, hbs107_9, (Uz hss107_9 le236), hb238, hs237⟩⟩
   ·rintro hg245
    have h246 := NM h113 hg245
    rintro D241 w242 F6 _ hs243 le244 ⟨as107_9, ns107_9, as107_10, ns107_10, es107_10, rfl, hbs107_9, hss107_9, hrs107_10⟩
    have hs247 : HS w0 F0 w242 F6 [(some D241, (.deferred (some []))), es107_10, (sb b90 #[(vi r111.1.2.2.2.2.2.2.2.2.2.2.2.2.2)] 3), (sb b47 #[(pt b48 0)] 128), (sb b48 #[(.bool r111.1.2.2.1), (.bool r111.1.2.2.2.1), (.bool r111.1.2.2.2.2.1), (sv r111.1.2.2.2.2.2.1), (vi r111.1.2.2.2.2.2.2.1), (vi r111.1.2.2.2.2.2.2.2.1), (vi r111.1.2.2.2.2.2.2.2.2.1), (.slice as107_9 r111.1.2.2.2.2.2.2.2.2.2.1.length ns107_9), (.slice as107_10 r111.1.2.2.2.2.2.2.2.2.2.2.1.length ns107_10), (fV 153 #[]), (fV 154 #[]), (fV 190 #[(pt tbt49_0_0 0), (pt tbt49_0_1 0), (pt tbt49_0_2 0), (pt tbt49_0_3 0)]), (fV 191 #[(pt tbt49_0_0 0), (pt tbt49_0_3 0)]), (fV 190 #[(pt tbt49_0_4 0), (pt tbt49_0_5 0), (pt tbt49_0_6 0), (pt tbt49_0_7 0)]), (fV 191 #[(pt tbt49_0_4 0), (pt tbt49_0_7 0)]), (fV 190 #[(pt tbt49_0_8 0), (pt tbt49_0_9 0), (pt tbt49_0_10 0), (pt tbt49_0_11 0)]), (fV 191 #[(pt tbt49_0_8 0), (pt tbt49_0_11 0)]), (fV 159 #[]), (fV 160 #[]), (vi r111.1.2.2.2.2.2.2.2.2.2.2.2.1), (.bool r111.1.2.2.2.2.2.2.2.2.2.2.2.2.1)] 130), (sb b30 #[(vi r111.1.2.1)] 3), (sb b27 #[(vi r111.1.1)] 35), (sb b24 #[(sv (([] : UQ))), (vi 0), (vi 0), (vi 0), (.slice none ([] : List Int).length 0), (.slice none ([] : List Line).length 0)] 27)] := hs243
    refine Az <| Aj ?_
    have hs248 := hs247.put (k := 0) rfl (.deferred none)
    have hs249 : HS w0 F0 (BT w242 D241 (.deferred none)) F6 [es107_10, (sb b90 #[(vi r111.1.2.2.2.2.2.2.2.2.2.2.2.2.2)] 3), (sb b47 #[(pt b48 0)] 128), (sb b48 #[(.bool r111.1.2.2.1), (.bool r111.1.2.2.2.1), (.bool r111.1.2.2.2.2.1), (sv r111.1.2.2.2.2.2.1), (vi r111.1.2.2.2.2.2.2.1), (vi r111.1.2.2.2.2.2.2.2.1), (vi r111.1.2.2.2.2.2.2.2.2.1), (.slice as107_9 r111.1.2.2.2.2.2.2.2.2.2.1.length ns107_9), (.slice as107_10 r111.1.2.2.2.2.2.2.2.2.2.2.1.length ns107_10), (fV 153 #[]), (fV 154 #[]), (fV 190 #[(pt tbt49_0_0 0), (pt tbt49_0_1 0), (pt tbt49_0_2 0), (pt tbt49_0_3 0)]), (fV 191 #[(pt tbt49_0_0 0), (pt tbt49_0_3 0)]), (fV 190 #[(pt tbt49_0_4 0), (pt tbt49_0_5 0), (pt tbt49_0_6 0), (pt tbt49_0_7 0)]), (fV 191 #[(pt tbt49_0_4 0), (pt tbt49_0_7 0)]), (fV 190 #[(pt tbt49_0_8 0), (pt tbt49_0_9 0), (pt tbt49_0_10 0), (pt tbt49_0_11 0)]), (fV 191 #[(pt tbt49_0_8 0), (pt tbt49_0_11 0)]), (fV 159 #[]), (fV 160 #[]), (vi r111.1.2.2.2.2.2.2.2.2.2.2.2.1), (.bool r111.1.2.2.2.2.2.2.2.2.2.2.2.2.1)] 130), (sb b30 #[(vi r111.1.2.1)] 3), (sb b27 #[(vi r111.1.1)] 35), (sb b24 #[(sv (([] : UQ))), (vi 0), (vi 0), (vi 0), (.slice none ([] : List Int).length 0), (.slice none ([] : List Line).length 0)] 27)] := hs248.drop 0
    obtain rfl := Aa h246
    exact .inr ⟨D241, rfl, hs247.ownAt (k := 0) rfl, (.tuple #[(.agg #[(sv (([] : UQ))), (vi 0), (vi 0), (vi 0), (.slice none ([] : List Int).length 0), (.slice none ([] : List Line).length 0)]), (vi r111.1.1), (vi r111.1.2.1)]), AR (l := [.cell 4 27, .cell 5 35, .cell 6 3]) (by kernel_rfl) (vs := [(.agg #[(sv (([] : UQ))), (vi 0), (vi 0), (vi 0), (.slice none ([] : List Int).length 0), (.slice none ([] : List Line).length 0)]), (vi r111.1.1), (vi r111.1.2.1)]) ⟨b24, 0, rfl, Am (t := 27) (g := true) (s := 6) (by kernel_rfl) hs249.at6 rfl (by decide), ⟨b27, 0, rfl, Am (t := 35) (g := false) (s := 1) (by kernel_rfl) hs249.at5 rfl (by decide), ⟨b30, 0, rfl, Am (t := 3) (g := false) (s := 1) (by kernel_rfl) hs249.at4 rfl (by decide), trivial⟩⟩⟩, (.tuple #[(.agg #[(sv (([] : UQ))), (vi 0), (vi 0), (vi 0), (.slice none ([] : List Int).length 0), (.slice none ([] : List Line).length 0)]), (vi r111.1.1), (vi r111.1.2.1)]), F6, rfl, hs249.clear, ⟨none, 0, none, 0, rfl, UA, (.inl rfl), UA, (.inl rfl)⟩⟩
def Fe (N : Nat) (x0 : (List Int)) (x1 : (List Int)) : Int -> Option (BD Bool Int) := fun s27 =>
 (bif (decide (s27 < (x0.length : Int))) then none else some (.done s27))
def G8 (N : Nat) (x0 : (List Int)) (x1 : (List Int)) : Option Bool :=
 (bif ((x0.length : Int) != (x1.length : Int)) then none else ((A0 (Fe N x0 x1) N 0).bind fun o => o.k (fun r => some r) (fun s35 => some true)))
theorem Jq : Ag Tryz.prog 57 := fun _ _ => by kernel_rfl
theorem Kp (N : Nat) (w0 : World) (F0 : Mem) (hF : US w0 F0) (x0 : (List Int)) (a0_0 : UR) (n0_0 : Nat) (hb0_0 : LC x0.length n0_0) (hs0_0 : SlA AQ F0 a0_0 x0) (x1 : (List Int)) (a1_0 : UR) (n1_0 : Nat) (hb1_0 : LC x1.length n1_0) (hs1_0 : SlA AQ F0 a1_0 x1) (r : Bool) (h : G8 N x0 x1 = some r) :
  Calls Tryz.prog 57 ([(.slice a0_0 x0.length n0_0), (.slice a1_0 x1.length n1_0)] : List Value).toArray w0 (AB w0 F0 fun F' v => v = (.bool r)) := by
 have hs0 := Uy hF
 refine Go 26 Tryz.func57 <| Sq (Rg [0] ?_)
 refine Vs 1 <| Nss <| Sq (Rg (rG 5) ?_)
 refine Vs 5 <| Nt <| Cd h (fun hb21 h22 => ?_) (fun hb21 h23 => ?_)
 ·cases h22
 ·refine Sc ?_
  refine Ab <| Sq <| Sq (Rg [0] ?_)
  refine Vs 1 <| Nt ?_
  obtain ⟨o24, ho25, h26⟩ := bind_some h23
  refine UD (fun f w => ∃ (s35 : Int) (F2 : Mem), o24 = .done s35 /\ HS w0 F0 w F2 [] /\ Uw F0 F2 /\ FI f [] []) ?_ ?_
  ·refine Bk ?_
   refine Uv (by kernel_rfl) (fun m f w => ∃ (s27 : Int) (F1 : Mem), A0 (Fe N x0 x1) m s27 = some o24 /\ HS w0 F0 w F1 [] /\ Uw F0 F1 /\ FI f [] [(0, (.slice a0_0 x0.length n0_0)), (1, (.slice a1_0 x1.length n1_0)), (5, (vi s27))]) N ⟨0, F0, ho25, hs0, (Ux _), fI⟩ ?_
   rintro m40 f w28 ⟨s27, F1, hit41, hs29, le30, ⟨_, rfl⟩⟩
   obtain ⟨m42, fl43, rfl, hb44, hnx45⟩ := AU hit41
   refine Sq <| Sq (Rg (rG 4) ?_)
   refine Vs 4 <| Nt <| Cd hb44 (fun hb46 h47 => ?_) (fun hb46 h48 => ?_)
   ·cases h47
   ·refine Ex ?_
    refine Au <| Au <| AA rfl ?_
    have ho49 := AW h48 hnx45
    exact .inl ⟨rfl, s27, F1, ho49, hs29, le30, fI⟩
  ·rintro f w36 ⟨s35, F2, rfl, hs37, le38, ⟨_, rfl⟩⟩
   have h50 := BL h26
   refine Ab <| Sq (Rg [0] ?_)
   refine Vs 1 <| Nt <| Rt ?_
   obtain rfl := Aa h50
   exact Re [(.bool true)] hs37 rfl
def Ii (N : Nat) (x0 : Log) (x1 : Log) (r39 : Bool) : Int -> Option (BD Bool Int) := fun s56 =>
 (bif (decide (s56 < (x0.Lines.length : Int))) then (((idx x0.Lines s56).bind fun x91 => ((idx x1.Lines s56).bind fun x105 => some (!((x91.Num == x105.Num) && ((x91.Khz == x105.Khz) && ((x91.Mode == x105.Mode) && ((x91.Minute == x105.Minute) && ((x91.Call == x105.Call) && (((x91.Sent.Report == x105.Sent.Report) && ((x91.Sent.Serial == x105.Sent.Serial) && ((x91.Sent.Zone == x105.Sent.Zone) && true))) && (((x91.Got.Report == x105.Got.Report) && ((x91.Got.Serial == x105.Got.Serial) && ((x91.Got.Zone == x105.Got.Zone) && true))) && true)))))))))).bind fun j83 => (bif j83 then none else some (.next (W64 (s56 + 1))))) else some (.done s56))
def LP (N : Nat) (x0 : Log) (x1 : Log) : Option Bool :=
 (bif (x0.Call != x1.Call) then none else (bif (x0.Category != x1.Category) then none else (bif (x0.Power != x1.Power) then none else (bif (x0.Claimed != x1.Claimed) then none else ((G8 N x0.Jumps x1.Jumps).bind fun r39 => (bif (!r39) then none else (bif ((x0.Lines.length : Int) != (x1.Lines.length : Int)) then some false else ((A0 (Ii N x0 x1 r39) N 0).bind fun o => o.k (fun r => some r) (fun s64 => some true)))))))))
theorem MD : Ag Tryz.prog 35 := fun _ _ => by kernel_rfl
theorem NR (N : Nat) (w0 : World) (F0 : Mem) (hF : US w0 F0) (x0 : Log) (a0_4 : UR) (n0_4 : Nat) (hb0_4 : LC x0.Jumps.length n0_4) (hs0_4 : SlA AQ F0 a0_4 x0.Jumps) (a0_5 : UR) (n0_5 : Nat) (hb0_5 : LC x0.Lines.length n0_5) (hs0_5 : SlA AK F0 a0_5 x0.Lines) (x1 : Log) (a1_4 : UR) (n1_4 : Nat) (hb1_4 : LC x1.Jumps.length n1_4) (hs1_4 : SlA AQ F0 a1_4 x1.Jumps) (a1_5 : UR) (n1_5 : Nat) (hb1_5 : LC x1.Lines.length n1_5) (hs1_5 : SlA AK F0 a1_5 x1.Lines) (r : Bool) (h : LP N x0 x1 = some r) :
  Calls Tryz.prog 35 ([(.agg (AL x0 a0_4 n0_4 a0_5 n0_5)), (.agg (AL x1 a1_4 n1_4 a1_5 n1_5))] : List Value).toArray w0 (AB w0 F0 fun F' v => v = (.bool r)) := by
 have hs0 := Uy hF
 refine Go 67 Tryz.func35 <| Sq (Rg [0, 1, 2] ?_)
 refine Bx' 27 (AL x0 a0_4 n0_4 a0_5 n0_5) hs0 (fun b21 w22 hs23 => ?_)
 refine Bx' 27 (AL x1 a1_4 n1_4 a1_5 n1_5) hs23 (fun b24 w25 hs26 => ?_)
 refine Vs 1 <| Nss <| Sq (Rg (rG 43) ?_)
 refine Vs 1 <| Ld hs26.at1 <| Vs 1 <| Ld hs26.at0 <| Vs 2 <| Sp h (fun hb27 h28 => ?_) (fun hb27 h29 => ?_)
 ·cases h28
 ·refine Vgs hb27 1 ?_
  refine Lg hb27 hs26.at1 <| Vgs hb27 1 <| Lg hb27 hs26.at0 <| Vgs hb27 1 <| Pk0 hb27 <| Vs 1 <| Sp h29 (fun hb30 h31 => ?_) (fun hb30 h32 => ?_)
  ·cases h31
  ·refine Vgs hb30 1 ?_
   refine Lg hb30 hs26.at1 <| Vgs hb30 1 <| Lg hb30 hs26.at0 <| Vgs hb30 1 <| Pk0 hb30 <| Vs 1 <| Sp h32 (fun hb33 h34 => ?_) (fun hb33 h35 => ?_)
   ·cases h34
   ·refine Vgs hb33 1 ?_
    refine Lg hb33 hs26.at1 <| Vgs hb33 1 <| Lg hb33 hs26.at0 <| Vgs hb33 1 <| Pk0 hb33 <| Vs 1 <| Sp h35 (fun hb36 h37 => ?_) (fun hb36 h38 => ?_)
    ·cases h37
    ·refine Vgs hb36 1 ?_
     refine Lg hb36 hs26.at1 <| Vgs hb36 1 <| Lg hb36 hs26.at0 ?_
     obtain ⟨r39, hr40, h41⟩ := bind_some h38
     refine Cg hb36 Jq hs26 (Kp N w25 F0 hs26.pers x0.Jumps a0_4 n0_4 hb0_4 hs0_4 x1.Jumps a1_4 n1_4 hb1_4 hs1_4 _ hr40) ?_
     rintro _ F1 w43 hs44 le45 rfl
     refine Vgs hb36 1 <| Pk0 hb36 <| Vs 1 <| Sp h41 (fun hb47 h48 => ?_) (fun hb47 h49 => ?_)
     ·cases h48
     ·refine Vgs hb47 1 ?_
      refine Lg hb47 hs44.at1 <| Vgs hb47 2 <| Lg hb47 hs44.at0 <| Vgs hb47 2 <| Pk0 hb47 <| Nt <| Cd h49 (fun hb50 h51 => ?_) (fun hb50 h52 => ?_)
      ·refine Sq (Rg [0] ?_)
       refine Vs 1 <| Nt <| Rt <| Aj ?_
       obtain rfl := Aa h51
       exact Re [(.bool false)] hs44 rfl
      ·refine Sc ?_
       refine Ab <| Sq <| Sq (Rg [0] ?_)
       refine Vs 1 <| Nt ?_
       obtain ⟨o53, ho54, h55⟩ := bind_some h52
       refine UD (fun f w => ∃ (s64 : Int) (F3 : Mem), o53 = .done s64 /\ HS w0 F0 w F3 [] /\ Uw F1 F3 /\ FI f [] []) ?_ ?_
       ·refine Bk ?_
        refine Uv (by kernel_rfl) (fun m f w => ∃ (s56 : Int) (F2 : Mem), A0 (Ii N x0 x1 r39) m s56 = some o53 /\ HS w0 F0 w F2 [(sb b24 (AL x1 a1_4 n1_4 a1_5 n1_5) 27), (sb b21 (AL x0 a0_4 n0_4 a0_5 n0_5) 27)] /\ Uw F1 F2 /\ FI f [] [(2, (pt b21 0)), (3, (pt b24 0)), (5, (vi s56))]) N ⟨0, F1, ho54, hs44, (Ux _), fI⟩ ?_
        rintro m69 f w57 ⟨s56, F2, hit70, hs58, le59, ⟨_, rfl⟩⟩
        obtain ⟨m71, fl72, rfl, hb73, hnx74⟩ := AU hit70
        refine Sq <| Sq (Rg (rG 5) ?_)
        refine Vs 2 <| Ld hs58.at1 <| Vs 2 <| Nt <| Cd hb73 (fun hb75 h76 => ?_) (fun hb75 h77 => ?_)
        ·refine Sc ?_
         refine Ab <| Sq <| Bk <| Sq ?_
         obtain ⟨j83, hj89, h90⟩ := bind_some h76
         refine RD 11 11 [(sb b24 (AL x1 a1_4 n1_4 a1_5 n1_5) 27), (sb b21 (AL x0 a0_4 n0_4 a0_5 n0_5) 27)] [] hs58 (fun f w => ∃ (F4 : Mem), HS w0 F0 w F4 [(sb b24 (AL x1 a1_4 n1_4 a1_5 n1_5) 27), (sb b21 (AL x0 a0_4 n0_4 a0_5 n0_5) 27)] /\ Uw F2 F4 /\ FI f [] [(2, (pt b21 0)), (3, (pt b24 0)), (5, (vi s56)), (66, (.bool j83))]) (fun wd78 hw79 => ?_) ?_
         ·refine Dv [0] ?_
          refine Dl 1 (fun _ hq => (hq.1.2 1 _ _ rfl)) <| Dv [2] ?_
          obtain ⟨x91, hx92, h94⟩ := bind_some hj89
          obtain ⟨hi93, hx92'⟩ := As hx92
          obtain ⟨b95, o96, C97, E98, fz99, rfl, hF101, hE102⟩ := UE (Uz hs0_5 (le45.t le59)) hx92'
          have hc104 := hE102 _ _ hx92'
          refine Di 3 hi93 <| Dx 4 0 (fun _ hq => hq.1.1 _ _ hF101) hc104 <| Dv [5] <| Dl 6 (fun _ hq => (hq.1.2 0 _ _ rfl)) <| Dv [7] ?_
          obtain ⟨x105, hx106, h108⟩ := bind_some h94
          obtain ⟨hi107, hx106'⟩ := As hx106
          obtain ⟨b109, o110, C111, E112, fz113, rfl, hF115, hE116⟩ := UE (Uz hs1_5 (le45.t le59)) hx106'
          have hc118 := hE116 _ _ hx106'
          refine Di 8 hi107 <| Dx 9 0 (fun _ hq => hq.1.1 _ _ hF115) hc118 <| Dv [10] ?_
          obtain rfl := Aa h108
          exact UJ (by kernel_rfl) ⟨F2, hw79, (Ux _), fI⟩
         ·rintro f w80 ⟨F4, hs81, le82, ⟨_, rfl⟩⟩
          refine Ab <| Cd h90 (fun hb119 h120 => ?_) (fun hb119 h121 => ?_)
          ·cases h120
          ·refine Sc ?_
           refine Av <| Ab <| Rg [0, 1, 2] <| Vs 3 <| Us ?_
           have hn122 := AV h121 hnx74
           exact ⟨m71, Nat.lt_succ_self _, (W64 (s56 + 1)), F4, hn122, hs81, (le59.t le82), fI⟩
        ·refine Ex ?_
         refine Au <| Au <| AA rfl ?_
         have ho123 := AW h77 hnx74
         exact .inl ⟨rfl, s56, F2, ho123, hs58.dr0.dr0, le59, fI⟩
       ·rintro f w65 ⟨s64, F3, rfl, hs66, le67, ⟨_, rfl⟩⟩
        have h124 := BL h55
        refine Ab <| Sq (Rg [0] ?_)
        refine Vs 1 <| Nt <| Rt ?_
        obtain rfl := Aa h124
        exact Re [(.bool true)] hs66 rfl
def Dh (F : Mem) (v : Value) (L : Own) : Option Al -> Prop
 | none => v = .tuple #[.pointer none, .int .i64 2] /\ L = []
 | some m => ∃ (b : Nat) (am_3 : UR) (nm_3 : Nat) (mbm_4 : Nat) (em_4 : Option Nat × Obj) (mbm_5 : Nat) (em_5 : Option Nat × Obj), v = .tuple #[.pointer (some ⟨b, 0, none⟩), .int .i64 0] /\ L = [(sb b #[(.bool m.o_.Report), (.bool m.o_.Serial), (.bool m.o_.Zone), (.slice am_3 m.lines_.length nm_3), (.map (some mbm_4)), (.map (some mbm_5))] 148), em_4, em_5] /\ LC m.lines_.length nm_3 /\ SlA AF F am_3 m.lines_ /\ A8 Ax AQ F mbm_4 m.known_ em_4 /\ A8 AF Ar F mbm_5 m.read_ em_5
theorem E8 {F : Mem} {v : Value} {L : Own} (h : Dh F v L none) : v = .tuple #[.pointer none, .int .i64 2] /\ L = [] := h
theorem E7 {F : Mem} {v : Value} {L : Own} {m : Al} (h : Dh F v L (some m)) : ∃ (b : Nat) (am_3 : UR) (nm_3 : Nat) (mbm_4 : Nat) (em_4 : Option Nat × Obj) (mbm_5 : Nat) (em_5 : Option Nat × Obj), v = .tuple #[.pointer (some ⟨b, 0, none⟩), .int .i64 0] /\ L = [(sb b #[(.bool m.o_.Report), (.bool m.o_.Serial), (.bool m.o_.Zone), (.slice am_3 m.lines_.length nm_3), (.map (some mbm_4)), (.map (some mbm_5))] 148), em_4, em_5] /\ LC m.lines_.length nm_3 /\ SlA AF F am_3 m.lines_ /\ A8 Ax AQ F mbm_4 m.known_ em_4 /\ A8 AF Ar F mbm_5 m.read_ em_5 := h
theorem HL {F : Mem} {v : Value} {L : Own} {m : Al} (h : ∃ (b : Nat) (am_3 : UR) (nm_3 : Nat) (mbm_4 : Nat) (em_4 : Option Nat × Obj) (mbm_5 : Nat) (em_5 : Option Nat × Obj), v = .tuple #[.pointer (some ⟨b, 0, none⟩), .int .i64 0] /\ L = [(sb b #[(.bool m.o_.Report), (.bool m.o_.Serial), (.bool m.o_.Zone), (.slice am_3 m.lines_.length nm_3), (.map (some mbm_4)), (.map (some mbm_5))] 148), em_4, em_5] /\ LC m.lines_.length nm_3 /\ SlA AF F am_3 m.lines_ /\ A8 Ax AQ F mbm_4 m.known_ em_4 /\ A8 AF Ar F mbm_5 m.read_ em_5) : Dh F v L (some m) := h
def GN (N : Nat) (x0 : Ac) (x1 : UQ) : (List UQ) -> (UQ × Bool) -> Option (List UQ) := fun s52 x65 =>
 (((Dr s52 [x65.1]).bind fun r100 => some r100).bind fun j85 => some j85)
def Gt (N : Nat) (x0 : Ac) (x1 : UQ) : Option (Option Al) :=
 ((C9 N (fun st x => ((GN N x0 x1) st x).map fun t => (true, t)) x1 ([] : List UQ)).bind fun r60 => (bif ((decide ((x1.length : Int) > 65536)) || (decide ((r60.length : Int) > 400))) then none else some (some ({ o_ := ({ Report := x0.Report, Serial := x0.Serial, Zone := x0.Zone } : Ac), lines_ := r60, known_ := ([] : List (An × Int)), read_ := ([] : List (UQ × Aq)) } : Al))))
theorem GP : Ag Tryz.prog 108 := fun _ _ => by kernel_rfl
theorem HH (N : Nat) (w0 : World) (F0 : Mem) (hF : US w0 F0) (hG : Br F0) (x0 : Ac) (x1 : UQ) (r : (Option Al)) (h : Gt N x0 x1 = some r) :
  Calls Tryz.prog 108 ([(.agg (Ak x0)), (sv x1)] : List Value).toArray w0 (Ms w0 F0 fun F' v L' => Dh F' v L' r) := by
 have hs0 := Uy hF
 refine Nb (n := 39) (c := Mp Tryz.f108) Tryz.func108 (by kernel_rfl) (by kernel_rfl) (by kernel_rfl) <| Sq (Rg [0, 1, 2] ?_)
 refine Bx' 23 (Ak x0) hs0 (fun b21 w22 hs23 => ?_)
 refine Vs 2 <| Nss (Rg (rG 7) ?_)
 refine Ld hs23.at0 <| RWP.makeMap (t := 145) (K := Ax) (T := AQ) (dst := (some 9)) (ty := 145) (g := none) (by kernel_rfl) rfl hs23 (fun b25 e26 w27 (hs28 : HS w0 F0 w27 F0 [e26, (sb b21 (Ak x0) 23)]) hr29 => ?_)
 refine RWP.makeMap (t := 146) (K := AF) (T := Ar) (dst := (some 10)) (ty := 146) (g := none) (by kernel_rfl) rfl hs28 (fun b31 e32 w33 (hs34 : HS w0 F0 w33 F0 [e32, e26, (sb b21 (Ak x0) 23)]) hr35 => ?_)
 refine Vs 1 <| Bx' 148 #[(.bool x0.Report), (.bool x0.Serial), (.bool x0.Zone), (.slice none ([] : List UQ).length 0), (.map (some b25)), (.map (some b31))] hs34 (fun b36 w37 hs38 => ?_)
 refine Al' 138 #[(.pointer none)] hs38 (fun b39 w40 hs41 => ?_)
 refine St0 #[(pt b36 0)] hs41 (fun w42 hs43 => ?_)
 refine Nss <| Sq (Rg [0, 1] ?_)
 refine Vs 1 <| RWP.callO (dst := (some 14)) (ty := 132) (g := none) (by kernel_rfl) rfl (f0 := (.func 105)) (aos := #[(.tmp 13)]) (ats := #[9]) (fid := 105) (first := #[]) (cap := #[]) (args := [(sv x1)]) rfl Iu rfl hs43 (JD w42 F0 hs43.pers x1) ?_
 rintro _ F1 w45 _ hs46 le47 ⟨b44, rfl, rfl⟩
 have hs48 : HS w0 F0 w45 F1 [(sb b44 #[(sv x1)] 9), (sb b39 #[(pt b36 0)] 138), (sb b36 #[(.bool x0.Report), (.bool x0.Serial), (.bool x0.Zone), (.slice none ([] : List UQ).length 0), (.map (some b25)), (.map (some b31))] 148), e32, e26, (sb b21 (Ak x0) 23)] := hs46
 refine Nt <| Bk ?_
 have hs49 := hs48.dr5.dummy (oc #[] 0)
 have hs51 := hs49.pk5.pk5.pk5.pk5.pk4.pk5
 obtain ⟨r60, hr61, h62⟩ := bind_some h
 refine CWP.rangeFunc (enc := Ps) (ok := Q3) (px := QT) (m := fun {_} y s => C9 N y x1 s) (L := [(none, .cells #[] 0 (0, 0)), (sb b39 #[(pt b36 0)] 138), (sb b36 #[(.bool x0.Report), (.bool x0.Serial), (.bool x0.Zone), (.slice none ([] : List UQ).length 0), (.map (some b25)), (.map (some b31))] 148), e32, e26]) (B := [(sb b44 #[(sv x1)] 9)]) (ps := [15, 16]) (by kernel_rfl) (gf := 169) (cap := [(pt b44 0)]) rfl GQ rfl (by kernel_rfl) (by kernel_rfl) (fun _ => rfl) hs51 (HI N F1 (hG.mono le47) x1 b44) (fun st x => ((GN N x0 x1) st x).map fun t => (true, t)) (fun (s52 : (List UQ)) (F2 : Mem) (Lq : Own) => ∃ (as52_0 : UR) (ns52_0 : Nat) (es52_0 : Option Nat × Obj), Lq = [es52_0, (sb b39 #[(pt b36 0)] 138), (sb b36 #[(.bool x0.Report), (.bool x0.Serial), (.bool x0.Zone), (.slice as52_0 s52.length ns52_0), (.map (some b25)), (.map (some b31))] 148), e32, e26] /\ Ap AF 9 F2 as52_0 ns52_0 s52 es52_0) ?_ (s := ([] : List UQ)) (r := r60) ?_ hr61 (fun _ _ _ h => (Om h).1) ?_ ?_
 ·rintro s F F' L ⟨as52_0, ns52_0, es52_0, rfl, hrs52_0⟩ hl
  exact ⟨as52_0, ns52_0, es52_0, rfl, (hrs52_0.mono hl)⟩
 ·exact ⟨none, 0, (none, .cells #[] 0 (0, 0)), rfl, (UL AF 9 F1 _)⟩
 ·rintro l63 s52 x65 w66 F2 _ Rf68 ⟨_, q69⟩ le70 ok71 ⟨as52_0, ns52_0, es52_0, rfl, hrs52_0⟩ hs72 hy73
  have h74 := (Om hy73).2
  have hs75 : HS w0 F0 w66 F2 (es52_0 :: (sb b39 #[(pt b36 0)] 138) :: (sb b36 #[(.bool x0.Report), (.bool x0.Serial), (.bool x0.Zone), (.slice as52_0 s52.length ns52_0), (.map (some b25)), (.map (some b31))] 148) :: e32 :: e26 :: Rf68) := hs72
  refine Rg [0] <| Vs 1 <| Us <| ⟨rfl, F2, [es52_0, (sb b39 #[(pt b36 0)] 138), (sb b36 #[(.bool x0.Report), (.bool x0.Serial), (.bool x0.Zone), (.slice as52_0 s52.length ns52_0), (.map (some b25)), (.map (some b31))] 148), e32, e26], hs75, fun w76 Rf77 hs78 => ?_⟩
  have hs79 : HS w0 F0 w76 F2 (es52_0 :: (sb b39 #[(pt b36 0)] 138) :: (sb b36 #[(.bool x0.Report), (.bool x0.Serial), (.bool x0.Zone), (.slice as52_0 s52.length ns52_0), (.map (some b25)), (.map (some b31))] 148) :: e32 :: e26 :: Rf77) := hs78
  refine Bk ?_
  obtain ⟨j85, hj93, h94⟩ := bind_some h74
  refine RD 10 11 [(sb b39 #[(pt b36 0)] 138), e32, e26] [(sb b36 #[(.bool x0.Report), (.bool x0.Serial), (.bool x0.Zone), (.slice as52_0 s52.length ns52_0), (.map (some b25)), (.map (some b31))] 148)] hs79 (fun f w => ∃ (F4 : Mem) (aj85_0 : UR) (nj85_0 : Nat) (ej85_0 : Option Nat × Obj), HS w0 F0 w F4 (ej85_0 :: (sb b39 #[(pt b36 0)] 138) :: (sb b36 #[(.bool x0.Report), (.bool x0.Serial), (.bool x0.Zone), (.slice aj85_0 j85.length nj85_0), (.map (some b25)), (.map (some b31))] 148) :: e32 :: e26 :: Rf77) /\ Uw F2 F4 /\ FI f [] [(2, (pt b21 0)), (6, (pt b39 0)), (9, (.map (some b25))), (10, (.map (some b31))), (11, (.agg #[(.bool x0.Report), (.bool x0.Serial), (.bool x0.Zone), (.slice none ([] : List UQ).length 0), (.map (some b25)), (.map (some b31))])), (12, (pt b36 0))] /\ Ap AF 9 F4 aj85_0 nj85_0 j85 ej85_0) (fun wd80 hw81 => ?_) ?_
  ·refine Dl 0 (fun _ hq => (hq.1.2 0 _ _ rfl)) ?_
   refine Dl 1 (fun _ hq => (hq.1.2 0 _ _ rfl)) <| Dv [2, 3] <| Dl 4 (fun _ hq => ((hq.2 rfl).2 0 _ _ rfl)) <| Dv [5] <| D1 6 <| DBs 9 [(sv x65.1)] hw81 (Ux _) (fun b95 w96 hs97 => ?_)
   have hr99 : Ap AF 9 F2 (some ⟨b95, 0, none⟩) 1 [x65.1] (some b95, .cells ([(sv x65.1)] : List Value).toArray 9 (0, 0)) := UM ⟨rfl, rfl⟩ (by simp)
   refine D1 7 ?_
   obtain ⟨r100, hap101, h102⟩ := bind_some hj93
   refine Ur So hs97 hrs52_0 (hs97.rd0 hr99) hap101 (Ux _) (fun a103 n104 e105 w106 hs107 hr108 => ?_)
   refine D1 8 <| UG (l' := [true, true, true, true, true, true, true, true, true, false, false]) (zd := false) (by kernel_rfl) (by kernel_rfl) (dst := (some 25)) (ty := 0) (g := none) (by kernel_rfl) rfl (DR (x := (.tmp 17)) (a := ⟨b36, 0, none⟩) rfl) (Ba hs107 (Ux _) (by simp) (fun _ => by simp)) <| Dv [9] <| D1 10 <| SS #[(.bool x0.Report), (.bool x0.Serial), (.bool x0.Zone), (.slice a103 r100.length n104), (.map (some b25)), (.map (some b31))] hs107 (Ux _) (fun w109 hs110 => ?_)
   obtain rfl := Aa h102
   exact UJ (by kernel_rfl) ⟨F2, a103, n104, e105, hs110.dr0, (Ux _), fI, hr108⟩
  ·rintro f w82 ⟨F4, aj85_0, nj85_0, ej85_0, hs83, le84, ⟨_, rfl⟩, hrj85_0⟩
   refine Av ?_
   obtain rfl := Aa h94
   exact ⟨rfl, F4, [ej85_0, (sb b39 #[(pt b36 0)] 138), (sb b36 #[(.bool x0.Report), (.bool x0.Serial), (.bool x0.Zone), (.slice aj85_0 j85.length nj85_0), (.map (some b25)), (.map (some b31))] 148), e32, e26], hs83, le84, ⟨aj85_0, nj85_0, ej85_0, rfl, hrj85_0⟩⟩
 ·rintro D112 w113 F3 _ hs114 le115 ⟨as56_0, ns56_0, es56_0, rfl, hrs56_0⟩
  have hs116 : HS w0 F0 w113 F3 [(some D112, (.deferred (some []))), es56_0, (sb b39 #[(pt b36 0)] 138), (sb b36 #[(.bool x0.Report), (.bool x0.Serial), (.bool x0.Zone), (.slice as56_0 r60.length ns56_0), (.map (some b25)), (.map (some b31))] 148), e32, e26] := hs114
  refine Av <| Ab <| Sq <| Sq (Rg (rG 11) ?_)
  refine UC (fun f w => ∃ (F5 : Mem), HS w0 F0 w F5 [(some D112, (.deferred (some []))), es56_0, (sb b39 #[(pt b36 0)] 138), (sb b36 #[(.bool x0.Report), (.bool x0.Serial), (.bool x0.Zone), (.slice as56_0 r60.length ns56_0), (.map (some b25)), (.map (some b31))] 148), e32, e26] /\ Uw F3 F5 /\ FI f [{ target := .collected D112, args := #[] }] [(6, (pt b39 0)), (37, (.bool ((decide ((x1.length : Int) > 65536)) || (decide ((r60.length : Int) > 400)))))]) ?_ ?_
  ·refine Vs 4 ?_
   refine UB (decide ((x1.length : Int) > 65536)) (fun hb123 => ?_) (fun hb123 => ?_)
   ·refine Ss hb123 6 ?_
    refine Pk1 hb123 ?_
    exact Us ⟨rfl, F3, hs116, (Ux _), (fJ ⟨rfl, (congrArg Value.bool (FN hb123 rfl)), trivial⟩)⟩
   ·refine Lg hb123 hs116.at2 ?_
    refine Vgs hb123 2 <| Lg hb123 hs116.at3 <| Vgs hb123 2 <| Pk0 hb123 ?_
    exact Us ⟨rfl, F3, hs116, (Ux _), (fJ ⟨rfl, (congrArg Value.bool (Ct hb123 rfl)), trivial⟩)⟩
  ·rintro f w117 ⟨F5, hs118, le119, ⟨_, rfl⟩⟩
   refine Ab <| Cd h62 (fun hb124 h125 => ?_) (fun hb124 h126 => ?_)
   ·cases h125
   ·refine Sc ?_
    refine Ab <| Sq (Rg [0, 1, 2] ?_)
    refine Ld hs118.at2 <| Vs 2 <| Nt <| Rt ?_
    have hb130 := UK (hrs56_0.mono le119)
    obtain ⟨F6, hs127, le128, hs129⟩ := hs118.fr1 (hrs56_0.mono le119)
    have hs131 := hs127.dr1.pk2.pk3.pk3.pk3
    have hs132 := hs131.put (k := 0) rfl (.deferred none)
    have hs133 : HS w0 F0 (BT w117 D112 (.deferred none)) F6 [(sb b36 #[(.bool x0.Report), (.bool x0.Serial), (.bool x0.Zone), (.slice as56_0 r60.length ns56_0), (.map (some b25)), (.map (some b31))] 148), e26, e32] := hs132.drop 0
    obtain rfl := Aa h126
    exact .inr ⟨D112, rfl, hs131.ownAt (k := 0) rfl, (.tuple #[(pt b36 0), (vi 0)]), AR (l := [.tmp 4, .tmp 5]) (by kernel_rfl) (vs := [(pt b36 0), (vi 0)]) ⟨rfl, ⟨rfl, trivial⟩⟩, (.tuple #[(pt b36 0), (vi 0)]), F6, _, rfl, hs133, (HL ⟨b36, as56_0, ns56_0, b25, e26, b31, e32, rfl, rfl, hb130, hs129, (hr29.mono (((le47.t le115).trans le119).trans le128)), (hr35.mono (((le47.t le115).trans le119).trans le128))⟩)⟩
def II (N : Nat)  : Option An :=
 some ({ at_ := 0, stage_ := 0, num_ := 0, minute_ := (-1) } : An)
theorem It : Ag Tryz.prog 110 := fun _ _ => by kernel_rfl
theorem JB (N : Nat) (w0 : World) (F0 : Mem) (hF : US w0 F0)  (r : An) (h : II N  = some r) :
  Calls Tryz.prog 110 ([] : List Value).toArray w0 (AB w0 F0 fun F' v => v = (.agg (Af r))) := by
 have hs0 := Uy hF
 refine Go 2 Tryz.func110 <| Sq (Rg [0] ?_)
 refine Al' 143 #[(vi 0), (vi 0), (vi 0), (vi 0)] hs0 (fun b21 w22 hs23 => ?_)
 refine Nss (Rg [0, 1] ?_)
 refine Vs 1 <| St0 #[(vi 0), (vi 0), (vi 0), (vi (-1))] hs23 (fun w24 hs25 => ?_)
 refine Nt <| Rt ?_
 obtain rfl := Aa h
 exact ⟨rfl, (.agg #[(vi 0), (vi 0), (vi 0), (vi (-1))]), AR (l := [.cell 0 143]) (by kernel_rfl) (vs := [(.agg #[(vi 0), (vi 0), (vi 0), (vi (-1))])]) ⟨b21, 0, rfl, Am (t := 143) (g := true) (s := 4) (by kernel_rfl) hs25.at0 rfl (by decide), trivial⟩, (.agg #[(vi 0), (vi 0), (vi 0), (vi (-1))]), F0, rfl, hs25.clear, rfl⟩
def Ca (N : Nat) (x0 : Int) : Option UQ :=
 ((idx ([([] : UQ), ([67, 65, 84, 69, 71, 79, 82, 89, 32, 49] : UQ), ([80, 79, 87, 69, 82, 32, 49] : UQ), ([67, 76, 65, 73, 77, 69, 68, 32, 48] : UQ), ([74, 85, 77, 80, 83] : UQ), ([69, 78, 68] : UQ)] : List UQ) x0).bind fun c21 => some c21)
theorem BQ : Ag Tryz.prog 121 := fun _ _ => by kernel_rfl
theorem B1 (N : Nat) (w0 : World) (F0 : Mem) (hF : US w0 F0) (x0 : Int) (r : UQ) (h : Ca N x0 = some r) :
  Calls Tryz.prog 121 ([(vi x0)] : List Value).toArray w0 (AB w0 F0 fun F' v => v = (sv r)) := by
 have hs0 := Uy hF
 refine Go 6 Tryz.func121 <| Sq (Rg [0] ?_)
 refine Vs 1 <| Nss (Rg (rG 4) ?_)
 refine V 3 219 (IC (t := 219) (parts := #[(1, (.const (sv ([67, 65, 84, 69, 71, 79, 82, 89, 32, 49] : UQ)))), (2, (.const (sv ([80, 79, 87, 69, 82, 32, 49] : UQ)))), (3, (.const (sv ([67, 76, 65, 73, 77, 69, 68, 32, 48] : UQ)))), (4, (.const (sv ([74, 85, 77, 80, 83] : UQ)))), (5, (.const (sv ([69, 78, 68] : UQ))))]) (vs := [(1, (sv (([67, 65, 84, 69, 71, 79, 82, 89, 32, 49] : UQ)))), (2, (sv (([80, 79, 87, 69, 82, 32, 49] : UQ)))), (3, (sv (([67, 76, 65, 73, 77, 69, 68, 32, 48] : UQ)))), (4, (sv (([74, 85, 77, 80, 83] : UQ)))), (5, (sv (([69, 78, 68] : UQ))))]) rfl (cs := [(sv (([] : UQ))), (sv (([67, 65, 84, 69, 71, 79, 82, 89, 32, 49] : UQ))), (sv (([80, 79, 87, 69, 82, 32, 49] : UQ))), (sv (([67, 76, 65, 73, 77, 69, 68, 32, 48] : UQ))), (sv (([74, 85, 77, 80, 83] : UQ))), (sv (([69, 78, 68] : UQ)))]) (by kernel_rfl)) <| Vs 1 ?_
 obtain ⟨c21, hr22, h23⟩ := bind_some h
 refine V 5 9 (PH (t := 219) (E := 9) (len := 6) (x := (.tmp 3)) (y := (.tmp 4)) (k := .i64) (i := x0) (cs := (([([] : UQ), ([67, 65, 84, 69, 71, 79, 82, 89, 32, 49] : UQ), ([80, 79, 87, 69, 82, 32, 49] : UQ), ([67, 76, 65, 73, 77, 69, 68, 32, 48] : UQ), ([74, 85, 77, 80, 83] : UQ), ([69, 78, 68] : UQ)] : List UQ)).map (fun x : UQ => Value.string ⟨x.toArray⟩)) (v := (sv c21)) rfl rfl (by kernel_rfl) (by kernel_rfl) rfl (Oz (f := (fun x : UQ => Value.string ⟨x.toArray⟩)) hr22)) <| Vs 1 <| Nt <| Rt ?_
 obtain rfl := Aa h23
 exact Re [(sv c21)] hs0 rfl
def Ij (N : Nat) (x0 : Log) (x1 : UQ) : Option (Log × Bool) :=
 ((strings_CutPrefix N x1 ([67, 65, 76, 76, 32] : UQ)).bind fun r21 => ((bif r21.2 then ((El N r21.1).bind fun r42 => some r42) else some false).bind fun j34 => some (({ Call := r21.1, Category := x0.Category, Power := x0.Power, Claimed := x0.Claimed, Jumps := x0.Jumps, Lines := x0.Lines } : Log), j34)))
theorem Kk : Ag Tryz.prog 153 := fun _ _ => by kernel_rfl
theorem K5 (N : Nat) {wb w0 : World} {Fb F0 : Mem} {Lf : Own} (hG : Br F0) (bp0 : Nat) (x0 : Log) (a0_4 : UR) (n0_4 : Nat) (a0_5 : UR) (n0_5 : Nat) (hb0_4 : LC x0.Jumps.length n0_4) (hs0_4 : SlA AQ F0 a0_4 x0.Jumps) (hb0_5 : LC x0.Lines.length n0_5) (hs0_5 : SlA AK F0 a0_5 x0.Lines) (x1 : UQ) (hs0 : HS wb Fb w0 F0 ((sb bp0 (AL x0 a0_4 n0_4 a0_5 n0_5) 27) :: Lf)) (r : (Log × Bool)) (h : Ij N x0 x1 = some r) :
  Calls Tryz.prog 153 ([(pt bp0 0), (sv x1)] : List Value).toArray w0 (Ed wb Fb F0 fun F' v L' => ∃ (aq0_4 : UR) (nq0_4 : Nat) (aq0_5 : UR) (nq0_5 : Nat), v = (.bool r.2) /\ L' = (sb bp0 (AL r.1 aq0_4 nq0_4 aq0_5 nq0_5) 27) :: Lf /\ LC r.1.Jumps.length nq0_4 /\ SlA AQ F' aq0_4 r.1.Jumps /\ LC r.1.Lines.length nq0_5 /\ SlA AK F' aq0_5 r.1.Lines) := by
 refine Go 21 Tryz.func153 <| Sq (Rg [0] ?_)
 refine Vs 1 <| Nss (Rg (rG 7) ?_)
 refine Vs 1 ?_
 obtain ⟨r21, hr22, h23⟩ := bind_some h
 refine Cl' AZ hs0 (A5 N w0 F0 hs0.pers x1 (([67, 65, 76, 76, 32] : UQ)) _ hr22) ?_
 rintro _ F1 w25 hs26 le27 rfl
 refine Vs 5 <| Nss (Rg (rG 5) ?_)
 refine Vs 4 <| St0 #[(sv r21.1), (vi x0.Category), (vi x0.Power), (vi x0.Claimed), (.slice a0_4 x0.Jumps.length n0_4), (.slice a0_5 x0.Lines.length n0_5)] hs26 (fun w29 hs30 => ?_)
 refine Nss (Rg (rG 6) ?_)
 obtain ⟨j34, hj37, h38⟩ := bind_some h23
 refine UC (fun f w => ∃ (F2 : Mem), HS wb Fb w F2 ((sb bp0 #[(sv r21.1), (vi x0.Category), (vi x0.Power), (vi x0.Claimed), (.slice a0_4 x0.Jumps.length n0_4), (.slice a0_5 x0.Lines.length n0_5)] 27) :: Lf) /\ Uw F1 F2 /\ FI f [] [(4, (.bool j34))]) ?_ ?_
 ·refine Vs 2 ?_
  refine Sp hj37 (fun hb39 h40 => ?_) (fun hb39 h41 => ?_)
  ·refine Vgs hb39 1 ?_
   obtain ⟨r42, hr43, h44⟩ := bind_some h40
   refine Cg hb39 Eb hs30 (EB N w29 F1 hs30.pers (hG.mono le27) r21.1 _ hr43) ?_
   rintro _ F3 w46 hs47 le48 rfl
   refine Pk1 hb39 <| Vs 1 ?_
   obtain rfl := Aa h44
   exact Us ⟨rfl, F3, hs47, le48, fI⟩
  ·refine Ss hb39 2 ?_
   refine Pk0 hb39 <| Vs 1 ?_
   obtain rfl := Aa h41
   exact Us ⟨rfl, F1, hs30, (Ux _), fI⟩
 ·rintro f w31 ⟨F2, hs32, le33, ⟨_, rfl⟩⟩
  refine Ab <| Rt ?_
  obtain rfl := Aa h38
  exact ReB [(.bool j34)] hs32 (le27.t le33) ⟨a0_4, n0_4, a0_5, n0_5, rfl, rfl, hb0_4, (Uz hs0_4 (le27.t le33)), hb0_5, (Uz hs0_5 (le27.t le33))⟩
def Fj (N : Nat) (x0 : Log) (x1 : UQ) (r21 : (List UQ)) (r29 : List UQ) : (List Int × Int) -> Option (BD (Log × Bool) (List Int × Int)) := fun s42 =>
 (bif (decide (s42.2 < (r29.length : Int))) then ((idx r29 s42.2).bind fun x70 => ((AD N x70).bind fun r84 => (bif (!r84.2) then some (.ret (x0, false)) else ((Dr s42.1 [r84.1]).bind fun r100 => some (.next (r100, (W64 (s42.2 + 1)))))))) else some (.done (s42.1, s42.2)))
def Hc (N : Nat) (x0 : Log) (x1 : UQ) : Option (Log × Bool) :=
 ((strings_Split N x1 ([32] : UQ)).bind fun r21 => ((sub r21 1 (r21.length : Int)).bind fun r29 => ((A0 (Fj N x0 x1 r21 r29) N (([] : List Int), 0)).bind fun o => o.k (fun r => some r) (fun s53 => (((idx r21 0).bind fun x126 => (bif (x126 == ([74, 85, 77, 80, 83] : UQ)) then ((CU N s53.1).bind fun r143 => some r143) else some false)).bind fun j121 => some (({ Call := x0.Call, Category := x0.Category, Power := x0.Power, Claimed := x0.Claimed, Jumps := s53.1, Lines := x0.Lines } : Log), j121))))))
theorem Jr : Ag Tryz.prog 159 := fun _ _ => by kernel_rfl
theorem Kq (N : Nat) {wb w0 : World} {Fb F0 : Mem} {Lf : Own} (hG : Br F0) (bp0 : Nat) (x0 : Log) (a0_4 : UR) (n0_4 : Nat) (a0_5 : UR) (n0_5 : Nat) (hb0_4 : LC x0.Jumps.length n0_4) (hs0_4 : SlA AQ F0 a0_4 x0.Jumps) (hb0_5 : LC x0.Lines.length n0_5) (hs0_5 : SlA AK F0 a0_5 x0.Lines) (x1 : UQ) (hs0 : HS wb Fb w0 F0 ((sb bp0 (AL x0 a0_4 n0_4 a0_5 n0_5) 27) :: Lf)) (r : (Log × Bool)) (h : Hc N x0 x1 = some r) :
  Calls Tryz.prog 159 ([(pt bp0 0), (sv x1)] : List Value).toArray w0 (Ed wb Fb F0 fun F' v L' => ∃ (aq0_4 : UR) (nq0_4 : Nat) (aq0_5 : UR) (nq0_5 : Nat), v = (.bool r.2) /\ L' = (sb bp0 (AL r.1 aq0_4 nq0_4 aq0_5 nq0_5) 27) :: Lf /\ LC r.1.Jumps.length nq0_4 /\ SlA AQ F' aq0_4 r.1.Jumps /\ LC r.1.Lines.length nq0_5 /\ SlA AK F' aq0_5 r.1.Lines) := by
 refine Go 44 Tryz.func159 <| Sq (Rg [0] ?_)
 refine Vs 1 <| Nss (Rg [0, 1, 2] ?_)
 refine Vs 1 ?_
 obtain ⟨r21, hr22, h23⟩ := bind_some h
 refine Cl' Ch hs0 (Cy N w0 F0 hs0.pers hG x1 (([32] : UQ)) _ hr22) ?_
 rintro _ F1 w25 hs26 le27 ⟨ar21_0_0, nr21_0_0, rfl, hbr21_0_0, hsr21_0_0⟩
 refine Vs 1 <| Nss (Rg [0] ?_)
 refine Vs 1 <| Nss <| Sq (Rg (rG 4) ?_)
 refine Vs 1 ?_
 obtain ⟨r29, hr30, h31⟩ := bind_some h23
 obtain ⟨a32, n33, hb34, hs35, hrun36⟩ := EU (P := Tryz.prog) (T := AF) (lo := (some (.const (vi 1)))) (hi := none) (mx := none) (t := 55) (E := 9) (by_ := 16) (c := nr21_0_0) (a := ar21_0_0) (l := r21) (r := r29) (il := 1) (ih := (r21.length : Int)) (im := 0) (by kernel_rfl) (by kernel_rfl) hbr21_0_0 hsr21_0_0 (fun h => by first | rfl | cases h) hr30
 refine V 14 55 (hrun36 (x := (.tmp 13)) rfl rfl rfl trivial) <| Vs 2 <| Nt ?_
 have hs37 := hs26.dummy (oc #[] 0)
 obtain ⟨o39, ho40, h41⟩ := bind_some h31
 refine UD (fun f w => ∃ (s53 : (List Int × Int)) (F3 : Mem) (as53_0 : UR) (ns53_0 : Nat) (es53_0 : Option Nat × Obj), o39 = .done s53 /\ HS wb Fb w F3 (es53_0 :: (sb bp0 (AL x0 a0_4 n0_4 a0_5 n0_5) 27) :: Lf) /\ Uw F1 F3 /\ FI f [] [(0, (pt bp0 0)), (5, (.slice ar21_0_0 r21.length nr21_0_0)), (6, (.slice as53_0 s53.1.length ns53_0))] /\ Ap AQ 3 F3 as53_0 ns53_0 s53.1 es53_0) ?_ ?_
 ·refine Bk ?_
  refine Uv (by kernel_rfl) (fun m f w => ∃ (s42 : (List Int × Int)) (F2 : Mem) (as42_0 : UR) (ns42_0 : Nat) (es42_0 : Option Nat × Obj), A0 (Fj N x0 x1 r21 r29) m s42 = some o39 /\ HS wb Fb w F2 (es42_0 :: (sb bp0 (AL x0 a0_4 n0_4 a0_5 n0_5) 27) :: Lf) /\ Uw F1 F2 /\ FI f [] [(0, (pt bp0 0)), (5, (.slice ar21_0_0 r21.length nr21_0_0)), (6, (.slice as42_0 s42.1.length ns42_0)), (14, (.slice a32 r29.length n33)), (15, (vi (r29.length : Int))), (16, (vi s42.2))] /\ Ap AQ 3 F2 as42_0 ns42_0 s42.1 es42_0) N ⟨(([] : List Int), 0), F1, none, 0, (none, .cells #[] 0 (0, 0)), ho40, hs37, (Ux _), fI, (UL AQ 3 F1 _)⟩ ?_
  rintro m61 f w43 ⟨s42, F2, as42_0, ns42_0, es42_0, hit62, hs44, le45, ⟨_, rfl⟩, hrs42_0⟩
  obtain ⟨m63, fl64, rfl, hb65, hnx66⟩ := AU hit62
  refine Sq (Rg [0] ?_)
  refine Vs 1 <| Nss <| Cd hb65 (fun hb67 h68 => ?_) (fun hb67 h69 => ?_)
  ·refine Sc ?_
   refine Ab <| Sq <| Bk <| Sq (Rg [0, 1, 2] ?_)
   obtain ⟨x70, hx71, h73⟩ := bind_some h68
   obtain ⟨hi72, hx71'⟩ := As hx71
   obtain ⟨b74, o75, C76, E77, fz78, rfl, hF80, hE81⟩ := UE (Uz hs35 le45) hx71'
   have hc83 := hE81 _ _ hx71'
   refine Ix hi72 <| Lx 0 (hs44.pers _ _ hF80) hc83 <| Vs 1 <| Nss (Rg (rG 7) ?_)
   refine Vs 1 ?_
   obtain ⟨r84, hr85, h86⟩ := bind_some h73
   refine Cl' Bc hs44 (Bl N w43 F2 hs44.pers (hG.mono (le27.t le45)) x70 _ hr85) ?_
   rintro _ F4 w88 hs89 le90 rfl
   refine Vs 5 <| Nss <| Sq (Rg [0, 1] ?_)
   refine Vs 2 <| Nt <| Cd h86 (fun hb92 h93 => ?_) (fun hb92 h94 => ?_)
   ·refine Sq (Rg [0] ?_)
    refine Vs 1 <| Nt <| Rt <| Aj <| Az <| Aj <| Aj <| Az ?_
    have hret := DV h93 hnx66
    subst hret
    refine .inr <| Aj ?_
    obtain rfl := Aa h41
    exact ReB [(.bool false)] hs89.dr0 ((le27.t le45).trans le90) ⟨a0_4, n0_4, a0_5, n0_5, rfl, rfl, hb0_4, (Uz hs0_4 ((le27.t le45).trans le90)), hb0_5, (Uz hs0_5 ((le27.t le45).trans le90))⟩
   ·refine Sc ?_
    refine Ab <| Rg (rG 5) <| Vs 2 <| Bs 3 [(vi r84.1)] hs89 (fun b95 w96 hs97 => ?_)
    have hr99 : Ap AQ 3 F4 (some ⟨b95, 0, none⟩) 1 [r84.1] (some b95, .cells ([(vi r84.1)] : List Value).toArray 3 (0, 0)) := UM ⟨rfl, rfl⟩ (by simp)
    obtain ⟨r100, hap101, h102⟩ := bind_some h94
    refine Ap1 Td hs97 (hrs42_0.mono le90) (hs97.rd0 hr99) hap101 (fun a103 n104 e105 w106 hs107 hr108 => ?_)
    refine Vs 1 <| Us <| Av <| Ab <| Rg [0, 1] <| Vs 2 <| Us ?_
    have hn109 := AV h102 hnx66
    exact ⟨m63, Nat.lt_succ_self _, (r100, (W64 (s42.2 + 1))), F4, a103, n104, e105, hn109, hs107.dr0, (le45.t le90), fI, hr108⟩
  ·refine Ex ?_
   refine Au <| Au <| AA rfl ?_
   have ho110 := AW h69 hnx66
   exact .inl ⟨rfl, (s42.1, s42.2), F2, as42_0, ns42_0, es42_0, ho110, hs44, le45, fI, hrs42_0⟩
 ·rintro f w54 ⟨s53, F3, as53_0, ns53_0, es53_0, rfl, hs55, le56, ⟨_, rfl⟩, hrs53_0⟩
  have h111 := BL h41
  refine Ab <| Sq (Rg (rG 5) ?_)
  refine Vs 4 ?_
  have hb115 := UK hrs53_0
  obtain ⟨F5, hs112, le113, hs114⟩ := hs55.fr0 hrs53_0
  refine St0 #[(sv x0.Call), (vi x0.Category), (vi x0.Power), (vi x0.Claimed), (.slice as53_0 s53.1.length ns53_0), (.slice a0_5 x0.Lines.length n0_5)] hs112 (fun w116 hs117 => ?_)
  refine Nss (Rg (rG 9) ?_)
  obtain ⟨j121, hj124, h125⟩ := bind_some h111
  refine UC (fun f w => ∃ (F6 : Mem), HS wb Fb w F6 ((sb bp0 #[(sv x0.Call), (vi x0.Category), (vi x0.Power), (vi x0.Claimed), (.slice as53_0 s53.1.length ns53_0), (.slice a0_5 x0.Lines.length n0_5)] 27) :: Lf) /\ Uw F5 F6 /\ FI f [] [(4, (.bool j121))]) ?_ ?_
  ·refine Vs 1 ?_
   obtain ⟨x126, hx127, h129⟩ := bind_some hj124
   obtain ⟨hi128, hx127'⟩ := As hx127
   obtain ⟨b130, o131, C132, E133, fz134, rfl, hF136, hE137⟩ := UE (Uz hsr21_0_0 (le56.t le113)) hx127'
   have hc139 := hE137 _ _ hx127'
   refine Ix hi128 <| Lx 0 (hs117.pers _ _ hF136) hc139 <| Vs 2 <| Sp h129 (fun hb140 h141 => ?_) (fun hb140 h142 => ?_)
   ·refine Vgs hb140 1 ?_
    obtain ⟨r143, hr144, h145⟩ := bind_some h141
    refine Cg hb140 FA hs117 (GE N w116 F5 hs117.pers s53.1 as53_0 ns53_0 hb115 hs114 _ hr144) ?_
    rintro _ F7 w147 hs148 le149 rfl
    refine Pk1 hb140 <| Vs 1 ?_
    obtain rfl := Aa h145
    exact Us ⟨rfl, F7, hs148, le149, fI⟩
   ·refine Ss hb140 2 ?_
    refine Pk0 hb140 <| Vs 1 ?_
    obtain rfl := Aa h142
    exact Us ⟨rfl, F5, hs117, (Ux _), fI⟩
  ·rintro f w118 ⟨F6, hs119, le120, ⟨_, rfl⟩⟩
   refine Ab <| Rt ?_
   obtain rfl := Aa h125
   exact ReB [(.bool j121)] hs119 (((le27.t le56).trans le113).trans le120) ⟨as53_0, ns53_0, a0_5, n0_5, rfl, rfl, hb115, (Uz hs114 le120), hb0_5, (Uz hs0_5 (((le27.t le56).trans le113).trans le120))⟩
def EF (N : Nat) (x0 : Al) (x1 : UQ) : Option (Al × Aq) :=
 ((bif (!(Nz x0.read_ x1)) then ((CW N ({ Report := x0.o_.Report, Serial := x0.o_.Serial, Zone := x0.o_.Zone } : Ac) x1).bind fun r41 => ((some (Mu x0.read_ x1 ({ x_ := r41.1, ok_ := (r41.2 == 0) } : Aq))).bind fun j61 => some (r41.1.Num, r41.1.Khz, r41.1.Mode, r41.1.Minute, r41.1.Call, r41.1.Sent.Report, r41.1.Sent.Serial, r41.1.Sent.Zone, r41.1.Got.Report, r41.1.Got.Serial, r41.1.Got.Zone, (r41.2 == 0), j61))) else some (((Dm x0.read_ x1 ({ x_ := ({ Num := 0, Khz := 0, Mode := 0, Minute := 0, Call := ([] : UQ), Sent := ({ Report := 0, Serial := 0, Zone := 0 } : Ad), Got := ({ Report := 0, Serial := 0, Zone := 0 } : Ad) } : Line), ok_ := false } : Aq))).x_.Num, ((Dm x0.read_ x1 ({ x_ := ({ Num := 0, Khz := 0, Mode := 0, Minute := 0, Call := ([] : UQ), Sent := ({ Report := 0, Serial := 0, Zone := 0 } : Ad), Got := ({ Report := 0, Serial := 0, Zone := 0 } : Ad) } : Line), ok_ := false } : Aq))).x_.Khz, ((Dm x0.read_ x1 ({ x_ := ({ Num := 0, Khz := 0, Mode := 0, Minute := 0, Call := ([] : UQ), Sent := ({ Report := 0, Serial := 0, Zone := 0 } : Ad), Got := ({ Report := 0, Serial := 0, Zone := 0 } : Ad) } : Line), ok_ := false } : Aq))).x_.Mode, ((Dm x0.read_ x1 ({ x_ := ({ Num := 0, Khz := 0, Mode := 0, Minute := 0, Call := ([] : UQ), Sent := ({ Report := 0, Serial := 0, Zone := 0 } : Ad), Got := ({ Report := 0, Serial := 0, Zone := 0 } : Ad) } : Line), ok_ := false } : Aq))).x_.Minute, ((Dm x0.read_ x1 ({ x_ := ({ Num := 0, Khz := 0, Mode := 0, Minute := 0, Call := ([] : UQ), Sent := ({ Report := 0, Serial := 0, Zone := 0 } : Ad), Got := ({ Report := 0, Serial := 0, Zone := 0 } : Ad) } : Line), ok_ := false } : Aq))).x_.Call, ((Dm x0.read_ x1 ({ x_ := ({ Num := 0, Khz := 0, Mode := 0, Minute := 0, Call := ([] : UQ), Sent := ({ Report := 0, Serial := 0, Zone := 0 } : Ad), Got := ({ Report := 0, Serial := 0, Zone := 0 } : Ad) } : Line), ok_ := false } : Aq))).x_.Sent.Report, ((Dm x0.read_ x1 ({ x_ := ({ Num := 0, Khz := 0, Mode := 0, Minute := 0, Call := ([] : UQ), Sent := ({ Report := 0, Serial := 0, Zone := 0 } : Ad), Got := ({ Report := 0, Serial := 0, Zone := 0 } : Ad) } : Line), ok_ := false } : Aq))).x_.Sent.Serial, ((Dm x0.read_ x1 ({ x_ := ({ Num := 0, Khz := 0, Mode := 0, Minute := 0, Call := ([] : UQ), Sent := ({ Report := 0, Serial := 0, Zone := 0 } : Ad), Got := ({ Report := 0, Serial := 0, Zone := 0 } : Ad) } : Line), ok_ := false } : Aq))).x_.Sent.Zone, ((Dm x0.read_ x1 ({ x_ := ({ Num := 0, Khz := 0, Mode := 0, Minute := 0, Call := ([] : UQ), Sent := ({ Report := 0, Serial := 0, Zone := 0 } : Ad), Got := ({ Report := 0, Serial := 0, Zone := 0 } : Ad) } : Line), ok_ := false } : Aq))).x_.Got.Report, ((Dm x0.read_ x1 ({ x_ := ({ Num := 0, Khz := 0, Mode := 0, Minute := 0, Call := ([] : UQ), Sent := ({ Report := 0, Serial := 0, Zone := 0 } : Ad), Got := ({ Report := 0, Serial := 0, Zone := 0 } : Ad) } : Line), ok_ := false } : Aq))).x_.Got.Serial, ((Dm x0.read_ x1 ({ x_ := ({ Num := 0, Khz := 0, Mode := 0, Minute := 0, Call := ([] : UQ), Sent := ({ Report := 0, Serial := 0, Zone := 0 } : Ad), Got := ({ Report := 0, Serial := 0, Zone := 0 } : Ad) } : Line), ok_ := false } : Aq))).x_.Got.Zone, ((Dm x0.read_ x1 ({ x_ := ({ Num := 0, Khz := 0, Mode := 0, Minute := 0, Call := ([] : UQ), Sent := ({ Report := 0, Serial := 0, Zone := 0 } : Ad), Got := ({ Report := 0, Serial := 0, Zone := 0 } : Ad) } : Line), ok_ := false } : Aq))).ok_, x0.read_)).bind fun j32 => some (({ o_ := ({ Report := x0.o_.Report, Serial := x0.o_.Serial, Zone := x0.o_.Zone } : Ac), lines_ := x0.lines_, known_ := x0.known_, read_ := j32.2.2.2.2.2.2.2.2.2.2.2.2 } : Al), ({ x_ := ({ Num := j32.1, Khz := j32.2.1, Mode := j32.2.2.1, Minute := j32.2.2.2.1, Call := j32.2.2.2.2.1, Sent := ({ Report := j32.2.2.2.2.2.1, Serial := j32.2.2.2.2.2.2.1, Zone := j32.2.2.2.2.2.2.2.1 } : Ad), Got := ({ Report := j32.2.2.2.2.2.2.2.2.1, Serial := j32.2.2.2.2.2.2.2.2.2.1, Zone := j32.2.2.2.2.2.2.2.2.2.2.1 } : Ad) } : Line), ok_ := j32.2.2.2.2.2.2.2.2.2.2.2.1 } : Aq)))
theorem Gy : Ag Tryz.prog 205 := fun _ _ => by kernel_rfl
theorem GZ (N : Nat) {wb w0 : World} {Fb F0 : Mem} {Lf : Own} (hG : Br F0) (bp0 : Nat) (x0 : Al) (a0_3 : UR) (n0_3 : Nat) (mb0_4 : Nat) (e0_4 : Option Nat × Obj) (mb0_5 : Nat) (e0_5 : Option Nat × Obj) (hb0_3 : LC x0.lines_.length n0_3) (hs0_3 : SlA AF F0 a0_3 x0.lines_) (hr0_4 : A8 Ax AQ F0 mb0_4 x0.known_ e0_4) (hr0_5 : A8 AF Ar F0 mb0_5 x0.read_ e0_5) (x1 : UQ) (hs0 : HS wb Fb w0 F0 ((sb bp0 #[(.bool x0.o_.Report), (.bool x0.o_.Serial), (.bool x0.o_.Zone), (.slice a0_3 x0.lines_.length n0_3), (.map (some mb0_4)), (.map (some mb0_5))] 148) :: e0_4 :: e0_5 :: Lf)) (r : (Al × Aq)) (h : EF N x0 x1 = some r) :
  Calls Tryz.prog 205 ([(pt bp0 0), (sv x1)] : List Value).toArray w0 (Ed wb Fb F0 fun F' v L' => ∃ (aq0_3 : UR) (nq0_3 : Nat) (eq0_4 : Option Nat × Obj) (eq0_5 : Option Nat × Obj), v = (.agg (Eg r.2)) /\ L' = (sb bp0 #[(.bool r.1.o_.Report), (.bool r.1.o_.Serial), (.bool r.1.o_.Zone), (.slice aq0_3 r.1.lines_.length nq0_3), (.map (some mb0_4)), (.map (some mb0_5))] 148) :: eq0_4 :: eq0_5 :: Lf /\ LC r.1.lines_.length nq0_3 /\ SlA AF F' aq0_3 r.1.lines_ /\ A8 Ax AQ F' mb0_4 r.1.known_ eq0_4 /\ A8 AF Ar F' mb0_5 r.1.read_ eq0_5) := by
 refine Go 40 Tryz.func205 <| Sq (Rg [0] ?_)
 refine Al' 243 #[(vi 0), (vi 0), (vi 0), (vi 0), (sv (([] : UQ))), (vi 0), (vi 0), (vi 0), (vi 0), (vi 0), (vi 0), (.bool false)] hs0 (fun b21 w22 hs23 => ?_)
 refine Nss (Rg (rG 12) ?_)
 refine Vs 3 <| Ld hs23.at1 <| Vs 1 <| V 15 279 (LJ (mt := 146) (k := 9) (vt := 243) (m := (.tmp 13)) (x := (.tmp 14)) (kv := (sv x1)) (kx := x1) (z := (.agg #[(vi 0), (vi 0), (vi 0), (vi 0), (sv (([] : UQ))), (vi 0), (vi 0), (vi 0), (vi 0), (vi 0), (vi 0), (.bool false)])) (zx := ({ x_ := ({ Num := 0, Khz := 0, Mode := 0, Minute := 0, Call := ([] : UQ), Sent := ({ Report := 0, Serial := 0, Zone := 0 } : Ad), Got := ({ Report := 0, Serial := 0, Zone := 0 } : Ad) } : Line), ok_ := false } : Aq)) (K := AF) (T := Ar) kl9 rfl rfl ⟨_, rfl, rfl⟩ (by kernel_rfl) (by kernel_rfl) ⟨_, rfl, rfl⟩ (A8.mpw hs23 (i := 3) rfl hr0_5) (fun h => by obtain ⟨_, rfl, rfl⟩ := h; rfl)) <| Vs 3 <| Al' 243 #[(vi 0), (vi 0), (vi 0), (vi 0), (sv (([] : UQ))), (vi 0), (vi 0), (vi 0), (vi 0), (vi 0), (vi 0), (.bool false)] hs23 (fun b24 w25 hs26 => ?_)
 refine St0 (Eg ((Dm x0.read_ x1 ({ x_ := ({ Num := 0, Khz := 0, Mode := 0, Minute := 0, Call := ([] : UQ), Sent := ({ Report := 0, Serial := 0, Zone := 0 } : Ad), Got := ({ Report := 0, Serial := 0, Zone := 0 } : Ad) } : Line), ok_ := false } : Aq)))) hs26 (fun w27 hs28 => ?_)
 refine Vs 1 <| Nss <| Sq (Rg [0, 1] ?_)
 refine Vs 2 <| Nt ?_
 obtain ⟨j32, hj36, h37⟩ := bind_some h
 refine UD (fun f w => ∃ (F1 : Mem) (ej32_12 : Option Nat × Obj), HS wb Fb w F1 ((sb b24 #[(vi j32.1), (vi j32.2.1), (vi j32.2.2.1), (vi j32.2.2.2.1), (sv j32.2.2.2.2.1), (vi j32.2.2.2.2.2.1), (vi j32.2.2.2.2.2.2.1), (vi j32.2.2.2.2.2.2.2.1), (vi j32.2.2.2.2.2.2.2.2.1), (vi j32.2.2.2.2.2.2.2.2.2.1), (vi j32.2.2.2.2.2.2.2.2.2.2.1), (.bool j32.2.2.2.2.2.2.2.2.2.2.2.1)] 243) :: (sb b21 #[(vi 0), (vi 0), (vi 0), (vi 0), (sv (([] : UQ))), (vi 0), (vi 0), (vi 0), (vi 0), (vi 0), (vi 0), (.bool false)] 243) :: (sb bp0 #[(.bool x0.o_.Report), (.bool x0.o_.Serial), (.bool x0.o_.Zone), (.slice a0_3 x0.lines_.length n0_3), (.map (some mb0_4)), (.map (some mb0_5))] 148) :: e0_4 :: ej32_12 :: Lf) /\ Uw F0 F1 /\ FI f [] [(4, (pt b21 0)), (5, (pt b24 0))] /\ A8 AF Ar F1 mb0_5 j32.2.2.2.2.2.2.2.2.2.2.2.2 ej32_12) ?_ ?_
 ·refine Cd hj36 (fun hb38 h39 => ?_) (fun hb38 h40 => ?_)
  ·refine Sq (Rg (rG 12) ?_)
   refine Vs 3 <| Ld hs28.at2 <| Vs 1 ?_
   obtain ⟨r41, hr42, h43⟩ := bind_some h39
   refine Cl' Fu hs28 (Gh N w27 F0 hs28.pers hG (({ Report := x0.o_.Report, Serial := x0.o_.Serial, Zone := x0.o_.Zone } : Ac)) x1 _ hr42) ?_
   rintro _ F2 w45 hs46 le47 rfl
   refine Vs 3 <| Al' 34 #[(vi 0), (vi 0), (vi 0), (vi 0), (sv (([] : UQ))), (vi 0), (vi 0), (vi 0), (vi 0), (vi 0), (vi 0)] hs46 (fun b49 w50 hs51 => ?_)
   refine St0 (B6 r41.1) hs51 (fun w52 hs53 => ?_)
   refine Vs 1 <| Nss (Rg (rG 5) ?_)
   refine Ld hs53.at0 <| Vs 3 <| St1 #[(vi r41.1.Num), (vi r41.1.Khz), (vi r41.1.Mode), (vi r41.1.Minute), (sv r41.1.Call), (vi r41.1.Sent.Report), (vi r41.1.Sent.Serial), (vi r41.1.Sent.Zone), (vi r41.1.Got.Report), (vi r41.1.Got.Serial), (vi r41.1.Got.Zone), (.bool (r41.2 == 0))] hs53 (fun w54 hs55 => ?_)
   refine Nt ?_
   obtain ⟨j61, hj65, h66⟩ := bind_some h43
   refine RD 7 7 [(sb b49 (B6 r41.1) 34), (sb b24 #[(vi r41.1.Num), (vi r41.1.Khz), (vi r41.1.Mode), (vi r41.1.Minute), (sv r41.1.Call), (vi r41.1.Sent.Report), (vi r41.1.Sent.Serial), (vi r41.1.Sent.Zone), (vi r41.1.Got.Report), (vi r41.1.Got.Serial), (vi r41.1.Got.Zone), (.bool (r41.2 == 0))] 243), (sb b21 #[(vi 0), (vi 0), (vi 0), (vi 0), (sv (([] : UQ))), (vi 0), (vi 0), (vi 0), (vi 0), (vi 0), (vi 0), (.bool false)] 243), (sb bp0 #[(.bool x0.o_.Report), (.bool x0.o_.Serial), (.bool x0.o_.Zone), (.slice a0_3 x0.lines_.length n0_3), (.map (some mb0_4)), (.map (some mb0_5))] 148), e0_4] [] hs55 (fun f w => ∃ (F3 : Mem) (ej61_0 : Option Nat × Obj), HS wb Fb w F3 ((sb b24 #[(vi r41.1.Num), (vi r41.1.Khz), (vi r41.1.Mode), (vi r41.1.Minute), (sv r41.1.Call), (vi r41.1.Sent.Report), (vi r41.1.Sent.Serial), (vi r41.1.Sent.Zone), (vi r41.1.Got.Report), (vi r41.1.Got.Serial), (vi r41.1.Got.Zone), (.bool (r41.2 == 0))] 243) :: (sb b21 #[(vi 0), (vi 0), (vi 0), (vi 0), (sv (([] : UQ))), (vi 0), (vi 0), (vi 0), (vi 0), (vi 0), (vi 0), (.bool false)] 243) :: (sb bp0 #[(.bool x0.o_.Report), (.bool x0.o_.Serial), (.bool x0.o_.Zone), (.slice a0_3 x0.lines_.length n0_3), (.map (some mb0_4)), (.map (some mb0_5))] 148) :: e0_4 :: ej61_0 :: Lf) /\ Uw F2 F3 /\ FI f [] [(4, (pt b21 0)), (5, (pt b24 0))] /\ A8 AF Ar F3 mb0_5 j61 ej61_0) (fun wd56 hw57 => ?_) ?_
   ·refine Dv [0, 1, 2] ?_
    refine Dl 3 (fun _ hq => (hq.1.2 3 _ _ rfl)) <| Dv [4] <| Dl 5 (fun _ hq => (hq.1.2 1 _ _ rfl)) <| D1 6 <| Aw.mapPut (l' := [true, true, true, true, true, true, true]) (zd := true) (by kernel_rfl) (by kernel_rfl) kl9 (ty := 0) (g := none) (mt := 146) (k := 9) (vt := 243) (m := (.tmp 36)) (x := (.tmp 37)) (y := (.tmp 38)) (b := mb0_5) (kx := x1) (u := ({ x_ := r41.1, ok_ := (r41.2 == 0) } : Aq)) (kv := (sv x1)) (v := (.agg #[(vi r41.1.Num), (vi r41.1.Khz), (vi r41.1.Mode), (vi r41.1.Minute), (sv r41.1.Call), (vi r41.1.Sent.Report), (vi r41.1.Sent.Serial), (vi r41.1.Sent.Zone), (vi r41.1.Got.Report), (vi r41.1.Got.Serial), (vi r41.1.Got.Zone), (.bool (r41.2 == 0))])) (K := AF) (T := Ar) (by kernel_rfl) rfl rfl rfl rfl ⟨_, rfl, rfl⟩ ⟨_, rfl, rfl⟩ (by kernel_rfl) hw57 (q := 5) rfl (hr0_5.mono le47) (Ux _) (fun _ => by simp) (fun e => by cases e) (fun e67 w68 (hs69 : HS wb Fb w68 F2 ((sb b49 (B6 r41.1) 34) :: (sb b24 #[(vi r41.1.Num), (vi r41.1.Khz), (vi r41.1.Mode), (vi r41.1.Minute), (sv r41.1.Call), (vi r41.1.Sent.Report), (vi r41.1.Sent.Serial), (vi r41.1.Sent.Zone), (vi r41.1.Got.Report), (vi r41.1.Got.Serial), (vi r41.1.Got.Zone), (.bool (r41.2 == 0))] 243) :: (sb b21 #[(vi 0), (vi 0), (vi 0), (vi 0), (sv (([] : UQ))), (vi 0), (vi 0), (vi 0), (vi 0), (vi 0), (vi 0), (.bool false)] 243) :: (sb bp0 #[(.bool x0.o_.Report), (.bool x0.o_.Serial), (.bool x0.o_.Zone), (.slice a0_3 x0.lines_.length n0_3), (.map (some mb0_4)), (.map (some mb0_5))] 148) :: e0_4 :: e67 :: Lf)) hr70 => ?_)
    obtain rfl := Aa hj65
    exact UJ (by kernel_rfl) ⟨F2, e67, hs69.dr0, (Ux _), fI, hr70⟩
   ·rintro f w58 ⟨F3, ej61_0, hs59, le60, ⟨_, rfl⟩, hrj61_0⟩
    obtain rfl := Aa h66
    exact .inl ⟨rfl, F3, ej61_0, hs59, (le47.t le60), fI, hrj61_0⟩
  ·refine Sc ?_
   obtain rfl := Aa h40
   exact .inl ⟨rfl, F0, e0_5, hs28, (Ux _), fI, hr0_5⟩
 ·rintro f w29 ⟨F1, ej32_12, hs30, le31, ⟨_, rfl⟩, hrj32_12⟩
  refine Ab <| Sq (Rg [0, 1] ?_)
  refine Ld hs30.at0 <| St1 #[(vi j32.1), (vi j32.2.1), (vi j32.2.2.1), (vi j32.2.2.2.1), (sv j32.2.2.2.2.1), (vi j32.2.2.2.2.2.1), (vi j32.2.2.2.2.2.2.1), (vi j32.2.2.2.2.2.2.2.1), (vi j32.2.2.2.2.2.2.2.2.1), (vi j32.2.2.2.2.2.2.2.2.2.1), (vi j32.2.2.2.2.2.2.2.2.2.2.1), (.bool j32.2.2.2.2.2.2.2.2.2.2.2.1)] hs30 (fun w71 hs72 => ?_)
  refine Nt <| Rt ?_
  obtain rfl := Aa h37
  exact ⟨rfl, (.agg #[(vi j32.1), (vi j32.2.1), (vi j32.2.2.1), (vi j32.2.2.2.1), (sv j32.2.2.2.2.1), (vi j32.2.2.2.2.2.1), (vi j32.2.2.2.2.2.2.1), (vi j32.2.2.2.2.2.2.2.1), (vi j32.2.2.2.2.2.2.2.2.1), (vi j32.2.2.2.2.2.2.2.2.2.1), (vi j32.2.2.2.2.2.2.2.2.2.2.1), (.bool j32.2.2.2.2.2.2.2.2.2.2.2.1)]), AR (l := [.cell 4 243]) (by kernel_rfl) (vs := [(.agg #[(vi j32.1), (vi j32.2.1), (vi j32.2.2.1), (vi j32.2.2.2.1), (sv j32.2.2.2.2.1), (vi j32.2.2.2.2.2.1), (vi j32.2.2.2.2.2.2.1), (vi j32.2.2.2.2.2.2.2.1), (vi j32.2.2.2.2.2.2.2.2.1), (vi j32.2.2.2.2.2.2.2.2.2.1), (vi j32.2.2.2.2.2.2.2.2.2.2.1), (.bool j32.2.2.2.2.2.2.2.2.2.2.2.1)])]) ⟨b21, 0, rfl, Am (t := 243) (g := true) (s := 12) (by kernel_rfl) hs72.at1 rfl (by decide), trivial⟩, F1, _, _, rfl, hs72.dr0.dr0, le31, ⟨a0_3, n0_3, e0_4, ej32_12, rfl, rfl, hb0_3, (Uz hs0_3 le31), (hr0_4.mono le31), hrj32_12⟩⟩
def FV (N : Nat) (x0 : Log) (x1 : UQ) (z0 : UQ) (z1 : Int) (z2 : Int) : Option (Log × Bool) :=
 ((CQ z0 ([32] : UQ)).bind fun r21 => ((strings_CutPrefix N x1 r21).bind fun r24 => ((AD N r24.1).bind fun r32 => ((bif (!r24.2) then some true else (bif (!r32.2) then some true else ((AP N r32.1 z1 z2).bind fun r57 => some (!r57)))).bind fun j43 => (bif j43 then some (x0, false) else some (({ Call := x0.Call, Category := r32.1, Power := x0.Power, Claimed := x0.Claimed, Jumps := x0.Jumps, Lines := x0.Lines } : Log), true))))))
theorem H7 : Ag Tryz.prog 190 := fun _ _ => by kernel_rfl
theorem IV (N : Nat) {wb w0 : World} {Fb F0 : Mem} {Lf : Own} (hG : Br F0) (bp0 : Nat) (x0 : Log) (a0_4 : UR) (n0_4 : Nat) (a0_5 : UR) (n0_5 : Nat) (hb0_4 : LC x0.Jumps.length n0_4) (hs0_4 : SlA AQ F0 a0_4 x0.Jumps) (hb0_5 : LC x0.Lines.length n0_5) (hs0_5 : SlA AK F0 a0_5 x0.Lines) (x1 : UQ) (bz0 : Nat) (z0 : UQ) (hz0 : F0 bz0 = some (oc #[(sv z0)] 9)) (bz1 : Nat) (z1 : Int) (hz1 : F0 bz1 = some (oc #[(vi z1)] 3)) (bz2 : Nat) (z2 : Int) (hz2 : F0 bz2 = some (oc #[(vi z2)] 3)) (bz3 : Nat) (hz3 : F0 bz3 = some (oc #[(fV 156 #[])] 195)) (hs0 : HS wb Fb w0 F0 ((sb bp0 (AL x0 a0_4 n0_4 a0_5 n0_5) 27) :: Lf)) (r : (Log × Bool)) (h : FV N x0 x1 z0 z1 z2 = some r) :
  Calls Tryz.prog 190 ([(pt bp0 0), (sv x1), (pt bz0 0), (pt bz1 0), (pt bz2 0), (pt bz3 0)] : List Value).toArray w0 (Ed wb Fb F0 fun F' v L' => ∃ (aq0_4 : UR) (nq0_4 : Nat) (aq0_5 : UR) (nq0_5 : Nat), v = (.bool r.2) /\ L' = (sb bp0 (AL r.1 aq0_4 nq0_4 aq0_5 nq0_5) 27) :: Lf /\ LC r.1.Jumps.length nq0_4 /\ SlA AQ F' aq0_4 r.1.Jumps /\ LC r.1.Lines.length nq0_5 /\ SlA AK F' aq0_5 r.1.Lines) := by
 refine Go 43 Tryz.func190 <| Sq (Rg [0] ?_)
 refine Vs 1 <| Nss (Rg (rG 9) ?_)
 refine Vs 1 <| Ld (hs0.pers _ _ hz0) ?_
 obtain ⟨r21, hr22, h23⟩ := bind_some h
 refine V 16 9 (AO (t := 9) (t' := 9) (x := (.tmp 15)) (y := (.const (sv ([32] : UQ)))) (a := z0) (b := ([32] : UQ)) (v := r21) rfl rfl hr22) ?_
 obtain ⟨r24, hr25, h26⟩ := bind_some h23
 refine Cl' AZ hs0 (A5 N w0 F0 hs0.pers x1 r21 _ hr25) ?_
 rintro _ F1 w28 hs29 le30 rfl
 refine Vs 5 <| Nss (Rg (rG 7) ?_)
 refine Vs 1 ?_
 obtain ⟨r32, hr33, h34⟩ := bind_some h26
 refine Cl' Bc hs29 (Bl N w28 F1 hs29.pers (hG.mono le30) r24.1 _ hr33) ?_
 rintro _ F2 w36 hs37 le38 rfl
 refine Vs 5 <| Nss <| Sq (Rg (rG 13) ?_)
 obtain ⟨j43, hj49, h50⟩ := bind_some h34
 refine UC (fun f w => ∃ (F3 : Mem), HS wb Fb w F3 ((sb bp0 (AL x0 a0_4 n0_4 a0_5 n0_5) 27) :: Lf) /\ Uw F2 F3 /\ FI f [] [(0, (pt bp0 0)), (5, (pt bz3 0)), (11, (vi r32.1)), (37, (.bool j43))]) ?_ ?_
 ·refine Vs 3 ?_
  refine Sp hj49 (fun hb51 h52 => ?_) (fun hb51 h53 => ?_)
  ·refine Ss hb51 2 ?_
   refine Pk1 hb51 <| Vs 1 <| Ss (rfl : true = true) 5 <| Pk1 (rfl : true = true) ?_
   obtain rfl := Aa h52
   exact Us ⟨rfl, F2, hs37, (Ux _), fI⟩
  ·refine Vgs hb51 2 ?_
   refine Pk0 hb51 <| Vs 1 <| Sp h53 (fun hb54 h55 => ?_) (fun hb54 h56 => ?_)
   ·refine Ss hb54 5 ?_
    refine Pk1 hb54 ?_
    obtain rfl := Aa h55
    exact Us ⟨rfl, F2, hs37, (Ux _), fI⟩
   ·refine Vgs hb54 1 ?_
    refine Lg hb54 (hs37.pers _ _ ((le30.t le38) _ _ hz1)) <| Lg hb54 (hs37.pers _ _ ((le30.t le38) _ _ hz2)) ?_
    obtain ⟨r57, hr58, h59⟩ := bind_some h56
    refine Cg hb54 AC hs37 (AJ N w36 F2 hs37.pers r32.1 z1 z2 _ hr58) ?_
    rintro _ F4 w61 hs62 le63 rfl
    refine Vgs hb54 1 <| Pk0 hb54 ?_
    obtain rfl := Aa h59
    exact Us ⟨rfl, F4, hs62, le63, fI⟩
 ·rintro f w40 ⟨F3, hs41, le42, ⟨_, rfl⟩⟩
  refine Ab <| Cd h50 (fun hb65 h66 => ?_) (fun hb65 h67 => ?_)
  ·refine Sq (Rg [0] ?_)
   refine Vs 1 <| Nt <| Rt <| Aj ?_
   obtain rfl := Aa h66
   exact ReB [(.bool false)] hs41 ((le30.t le38).trans le42) ⟨a0_4, n0_4, a0_5, n0_5, rfl, rfl, hb0_4, (Uz hs0_4 ((le30.t le38).trans le42)), hb0_5, (Uz hs0_5 ((le30.t le38).trans le42))⟩
  ·refine Sc ?_
   refine Ab <| Sq (Rg (rG 6) ?_)
   refine Ld (hs41.pers _ _ (((le30.t le38).trans le42) _ _ hz3)) <| Vs 1 <| Cl' Kj hs41 (Mm w40 F3 hs41.pers bp0 0) ?_
   rintro _ F5 w68 hs69 le70 rfl
   refine Vs 2 <| St0 #[(sv x0.Call), (vi r32.1), (vi x0.Power), (vi x0.Claimed), (.slice a0_4 x0.Jumps.length n0_4), (.slice a0_5 x0.Lines.length n0_5)] hs69 (fun w71 hs72 => ?_)
   refine Nss (Rg [0] ?_)
   refine Vs 1 <| Nt <| Rt ?_
   obtain rfl := Aa h67
   exact ReB [(.bool true)] hs72 (((le30.t le38).trans le42).trans le70) ⟨a0_4, n0_4, a0_5, n0_5, rfl, rfl, hb0_4, (Uz hs0_4 (((le30.t le38).trans le42).trans le70)), hb0_5, (Uz hs0_5 (((le30.t le38).trans le42).trans le70))⟩
def FT (N : Nat) (x0 : Log) (x1 : UQ) (z0 : UQ) (z1 : Int) (z2 : Int) : Option (Log × Bool) :=
 ((CQ z0 ([32] : UQ)).bind fun r21 => ((strings_CutPrefix N x1 r21).bind fun r24 => ((AD N r24.1).bind fun r32 => ((bif (!r24.2) then some true else (bif (!r32.2) then some true else ((AP N r32.1 z1 z2).bind fun r57 => some (!r57)))).bind fun j43 => (bif j43 then some (x0, false) else some (({ Call := x0.Call, Category := x0.Category, Power := r32.1, Claimed := x0.Claimed, Jumps := x0.Jumps, Lines := x0.Lines } : Log), true))))))
theorem H1 : Ag Tryz.prog 190 := fun _ _ => by kernel_rfl
theorem IR (N : Nat) {wb w0 : World} {Fb F0 : Mem} {Lf : Own} (hG : Br F0) (bp0 : Nat) (x0 : Log) (a0_4 : UR) (n0_4 : Nat) (a0_5 : UR) (n0_5 : Nat) (hb0_4 : LC x0.Jumps.length n0_4) (hs0_4 : SlA AQ F0 a0_4 x0.Jumps) (hb0_5 : LC x0.Lines.length n0_5) (hs0_5 : SlA AK F0 a0_5 x0.Lines) (x1 : UQ) (bz0 : Nat) (z0 : UQ) (hz0 : F0 bz0 = some (oc #[(sv z0)] 9)) (bz1 : Nat) (z1 : Int) (hz1 : F0 bz1 = some (oc #[(vi z1)] 3)) (bz2 : Nat) (z2 : Int) (hz2 : F0 bz2 = some (oc #[(vi z2)] 3)) (bz3 : Nat) (hz3 : F0 bz3 = some (oc #[(fV 157 #[])] 195)) (hs0 : HS wb Fb w0 F0 ((sb bp0 (AL x0 a0_4 n0_4 a0_5 n0_5) 27) :: Lf)) (r : (Log × Bool)) (h : FT N x0 x1 z0 z1 z2 = some r) :
  Calls Tryz.prog 190 ([(pt bp0 0), (sv x1), (pt bz0 0), (pt bz1 0), (pt bz2 0), (pt bz3 0)] : List Value).toArray w0 (Ed wb Fb F0 fun F' v L' => ∃ (aq0_4 : UR) (nq0_4 : Nat) (aq0_5 : UR) (nq0_5 : Nat), v = (.bool r.2) /\ L' = (sb bp0 (AL r.1 aq0_4 nq0_4 aq0_5 nq0_5) 27) :: Lf /\ LC r.1.Jumps.length nq0_4 /\ SlA AQ F' aq0_4 r.1.Jumps /\ LC r.1.Lines.length nq0_5 /\ SlA AK F' aq0_5 r.1.Lines) := by
 refine Go 43 Tryz.func190 <| Sq (Rg [0] ?_)
 refine Vs 1 <| Nss (Rg (rG 9) ?_)
 refine Vs 1 <| Ld (hs0.pers _ _ hz0) ?_
 obtain ⟨r21, hr22, h23⟩ := bind_some h
 refine V 16 9 (AO (t := 9) (t' := 9) (x := (.tmp 15)) (y := (.const (sv ([32] : UQ)))) (a := z0) (b := ([32] : UQ)) (v := r21) rfl rfl hr22) ?_
 obtain ⟨r24, hr25, h26⟩ := bind_some h23
 refine Cl' AZ hs0 (A5 N w0 F0 hs0.pers x1 r21 _ hr25) ?_
 rintro _ F1 w28 hs29 le30 rfl
 refine Vs 5 <| Nss (Rg (rG 7) ?_)
 refine Vs 1 ?_
 obtain ⟨r32, hr33, h34⟩ := bind_some h26
 refine Cl' Bc hs29 (Bl N w28 F1 hs29.pers (hG.mono le30) r24.1 _ hr33) ?_
 rintro _ F2 w36 hs37 le38 rfl
 refine Vs 5 <| Nss <| Sq (Rg (rG 13) ?_)
 obtain ⟨j43, hj49, h50⟩ := bind_some h34
 refine UC (fun f w => ∃ (F3 : Mem), HS wb Fb w F3 ((sb bp0 (AL x0 a0_4 n0_4 a0_5 n0_5) 27) :: Lf) /\ Uw F2 F3 /\ FI f [] [(0, (pt bp0 0)), (5, (pt bz3 0)), (11, (vi r32.1)), (37, (.bool j43))]) ?_ ?_
 ·refine Vs 3 ?_
  refine Sp hj49 (fun hb51 h52 => ?_) (fun hb51 h53 => ?_)
  ·refine Ss hb51 2 ?_
   refine Pk1 hb51 <| Vs 1 <| Ss (rfl : true = true) 5 <| Pk1 (rfl : true = true) ?_
   obtain rfl := Aa h52
   exact Us ⟨rfl, F2, hs37, (Ux _), fI⟩
  ·refine Vgs hb51 2 ?_
   refine Pk0 hb51 <| Vs 1 <| Sp h53 (fun hb54 h55 => ?_) (fun hb54 h56 => ?_)
   ·refine Ss hb54 5 ?_
    refine Pk1 hb54 ?_
    obtain rfl := Aa h55
    exact Us ⟨rfl, F2, hs37, (Ux _), fI⟩
   ·refine Vgs hb54 1 ?_
    refine Lg hb54 (hs37.pers _ _ ((le30.t le38) _ _ hz1)) <| Lg hb54 (hs37.pers _ _ ((le30.t le38) _ _ hz2)) ?_
    obtain ⟨r57, hr58, h59⟩ := bind_some h56
    refine Cg hb54 AC hs37 (AJ N w36 F2 hs37.pers r32.1 z1 z2 _ hr58) ?_
    rintro _ F4 w61 hs62 le63 rfl
    refine Vgs hb54 1 <| Pk0 hb54 ?_
    obtain rfl := Aa h59
    exact Us ⟨rfl, F4, hs62, le63, fI⟩
 ·rintro f w40 ⟨F3, hs41, le42, ⟨_, rfl⟩⟩
  refine Ab <| Cd h50 (fun hb65 h66 => ?_) (fun hb65 h67 => ?_)
  ·refine Sq (Rg [0] ?_)
   refine Vs 1 <| Nt <| Rt <| Aj ?_
   obtain rfl := Aa h66
   exact ReB [(.bool false)] hs41 ((le30.t le38).trans le42) ⟨a0_4, n0_4, a0_5, n0_5, rfl, rfl, hb0_4, (Uz hs0_4 ((le30.t le38).trans le42)), hb0_5, (Uz hs0_5 ((le30.t le38).trans le42))⟩
  ·refine Sc ?_
   refine Ab <| Sq (Rg (rG 6) ?_)
   refine Ld (hs41.pers _ _ (((le30.t le38).trans le42) _ _ hz3)) <| Vs 1 <| Cl' Ki hs41 (Ml w40 F3 hs41.pers bp0 0) ?_
   rintro _ F5 w68 hs69 le70 rfl
   refine Vs 2 <| St0 #[(sv x0.Call), (vi x0.Category), (vi r32.1), (vi x0.Claimed), (.slice a0_4 x0.Jumps.length n0_4), (.slice a0_5 x0.Lines.length n0_5)] hs69 (fun w71 hs72 => ?_)
   refine Nss (Rg [0] ?_)
   refine Vs 1 <| Nt <| Rt ?_
   obtain rfl := Aa h67
   exact ReB [(.bool true)] hs72 (((le30.t le38).trans le42).trans le70) ⟨a0_4, n0_4, a0_5, n0_5, rfl, rfl, hb0_4, (Uz hs0_4 (((le30.t le38).trans le42).trans le70)), hb0_5, (Uz hs0_5 (((le30.t le38).trans le42).trans le70))⟩
def FU (N : Nat) (x0 : Log) (x1 : UQ) (z0 : UQ) (z1 : Int) (z2 : Int) : Option (Log × Bool) :=
 ((CQ z0 ([32] : UQ)).bind fun r21 => ((strings_CutPrefix N x1 r21).bind fun r24 => ((AD N r24.1).bind fun r32 => ((bif (!r24.2) then some true else (bif (!r32.2) then some true else ((AP N r32.1 z1 z2).bind fun r57 => some (!r57)))).bind fun j43 => (bif j43 then some (x0, false) else some (({ Call := x0.Call, Category := x0.Category, Power := x0.Power, Claimed := r32.1, Jumps := x0.Jumps, Lines := x0.Lines } : Log), true))))))
theorem H6 : Ag Tryz.prog 190 := fun _ _ => by kernel_rfl
theorem IU (N : Nat) {wb w0 : World} {Fb F0 : Mem} {Lf : Own} (hG : Br F0) (bp0 : Nat) (x0 : Log) (a0_4 : UR) (n0_4 : Nat) (a0_5 : UR) (n0_5 : Nat) (hb0_4 : LC x0.Jumps.length n0_4) (hs0_4 : SlA AQ F0 a0_4 x0.Jumps) (hb0_5 : LC x0.Lines.length n0_5) (hs0_5 : SlA AK F0 a0_5 x0.Lines) (x1 : UQ) (bz0 : Nat) (z0 : UQ) (hz0 : F0 bz0 = some (oc #[(sv z0)] 9)) (bz1 : Nat) (z1 : Int) (hz1 : F0 bz1 = some (oc #[(vi z1)] 3)) (bz2 : Nat) (z2 : Int) (hz2 : F0 bz2 = some (oc #[(vi z2)] 3)) (bz3 : Nat) (hz3 : F0 bz3 = some (oc #[(fV 158 #[])] 195)) (hs0 : HS wb Fb w0 F0 ((sb bp0 (AL x0 a0_4 n0_4 a0_5 n0_5) 27) :: Lf)) (r : (Log × Bool)) (h : FU N x0 x1 z0 z1 z2 = some r) :
  Calls Tryz.prog 190 ([(pt bp0 0), (sv x1), (pt bz0 0), (pt bz1 0), (pt bz2 0), (pt bz3 0)] : List Value).toArray w0 (Ed wb Fb F0 fun F' v L' => ∃ (aq0_4 : UR) (nq0_4 : Nat) (aq0_5 : UR) (nq0_5 : Nat), v = (.bool r.2) /\ L' = (sb bp0 (AL r.1 aq0_4 nq0_4 aq0_5 nq0_5) 27) :: Lf /\ LC r.1.Jumps.length nq0_4 /\ SlA AQ F' aq0_4 r.1.Jumps /\ LC r.1.Lines.length nq0_5 /\ SlA AK F' aq0_5 r.1.Lines) := by
 refine Go 43 Tryz.func190 <| Sq (Rg [0] ?_)
 refine Vs 1 <| Nss (Rg (rG 9) ?_)
 refine Vs 1 <| Ld (hs0.pers _ _ hz0) ?_
 obtain ⟨r21, hr22, h23⟩ := bind_some h
 refine V 16 9 (AO (t := 9) (t' := 9) (x := (.tmp 15)) (y := (.const (sv ([32] : UQ)))) (a := z0) (b := ([32] : UQ)) (v := r21) rfl rfl hr22) ?_
 obtain ⟨r24, hr25, h26⟩ := bind_some h23
 refine Cl' AZ hs0 (A5 N w0 F0 hs0.pers x1 r21 _ hr25) ?_
 rintro _ F1 w28 hs29 le30 rfl
 refine Vs 5 <| Nss (Rg (rG 7) ?_)
 refine Vs 1 ?_
 obtain ⟨r32, hr33, h34⟩ := bind_some h26
 refine Cl' Bc hs29 (Bl N w28 F1 hs29.pers (hG.mono le30) r24.1 _ hr33) ?_
 rintro _ F2 w36 hs37 le38 rfl
 refine Vs 5 <| Nss <| Sq (Rg (rG 13) ?_)
 obtain ⟨j43, hj49, h50⟩ := bind_some h34
 refine UC (fun f w => ∃ (F3 : Mem), HS wb Fb w F3 ((sb bp0 (AL x0 a0_4 n0_4 a0_5 n0_5) 27) :: Lf) /\ Uw F2 F3 /\ FI f [] [(0, (pt bp0 0)), (5, (pt bz3 0)), (11, (vi r32.1)), (37, (.bool j43))]) ?_ ?_
 ·refine Vs 3 ?_
  refine Sp hj49 (fun hb51 h52 => ?_) (fun hb51 h53 => ?_)
  ·refine Ss hb51 2 ?_
   refine Pk1 hb51 <| Vs 1 <| Ss (rfl : true = true) 5 <| Pk1 (rfl : true = true) ?_
   obtain rfl := Aa h52
   exact Us ⟨rfl, F2, hs37, (Ux _), fI⟩
  ·refine Vgs hb51 2 ?_
   refine Pk0 hb51 <| Vs 1 <| Sp h53 (fun hb54 h55 => ?_) (fun hb54 h56 => ?_)
   ·refine Ss hb54 5 ?_
    refine Pk1 hb54 ?_
    obtain rfl := Aa h55
    exact Us ⟨rfl, F2, hs37, (Ux _), fI⟩
   ·refine Vgs hb54 1 ?_
    refine Lg hb54 (hs37.pers _ _ ((le30.t le38) _ _ hz1)) <| Lg hb54 (hs37.pers _ _ ((le30.t le38) _ _ hz2)) ?_
    obtain ⟨r57, hr58, h59⟩ := bind_some h56
    refine Cg hb54 AC hs37 (AJ N w36 F2 hs37.pers r32.1 z1 z2 _ hr58) ?_
    rintro _ F4 w61 hs62 le63 rfl
    refine Vgs hb54 1 <| Pk0 hb54 ?_
    obtain rfl := Aa h59
    exact Us ⟨rfl, F4, hs62, le63, fI⟩
 ·rintro f w40 ⟨F3, hs41, le42, ⟨_, rfl⟩⟩
  refine Ab <| Cd h50 (fun hb65 h66 => ?_) (fun hb65 h67 => ?_)
  ·refine Sq (Rg [0] ?_)
   refine Vs 1 <| Nt <| Rt <| Aj ?_
   obtain rfl := Aa h66
   exact ReB [(.bool false)] hs41 ((le30.t le38).trans le42) ⟨a0_4, n0_4, a0_5, n0_5, rfl, rfl, hb0_4, (Uz hs0_4 ((le30.t le38).trans le42)), hb0_5, (Uz hs0_5 ((le30.t le38).trans le42))⟩
  ·refine Sc ?_
   refine Ab <| Sq (Rg (rG 6) ?_)
   refine Ld (hs41.pers _ _ (((le30.t le38).trans le42) _ _ hz3)) <| Vs 1 <| Cl' Kh hs41 (Mk w40 F3 hs41.pers bp0 0) ?_
   rintro _ F5 w68 hs69 le70 rfl
   refine Vs 2 <| St0 #[(sv x0.Call), (vi x0.Category), (vi x0.Power), (vi r32.1), (.slice a0_4 x0.Jumps.length n0_4), (.slice a0_5 x0.Lines.length n0_5)] hs69 (fun w71 hs72 => ?_)
   refine Nss (Rg [0] ?_)
   refine Vs 1 <| Nt <| Rt ?_
   obtain rfl := Aa h67
   exact ReB [(.bool true)] hs72 (((le30.t le38).trans le42).trans le70) ⟨a0_4, n0_4, a0_5, n0_5, rfl, rfl, hb0_4, (Uz hs0_4 (((le30.t le38).trans le42).trans le70)), hb0_5, (Uz hs0_5 (((le30.t le38).trans le42).trans le70))⟩
def Cu (N : Nat) (x0 : Al) (x1 : An) (x2 : UQ) : Option (Al × An × Bool) :=
 (bif (x1.stage_ == 6) then some (x0, x1, false) else (bif (decide (x1.stage_ < 5)) then ((bif (decide (x1.stage_ = 0)) then ((Ij N ({ Call := ([] : UQ), Category := 0, Power := 0, Claimed := 0, Jumps := ([] : List Int), Lines := ([] : List Line) } : Log) x2).bind fun r57 => some r57.2) else (bif (decide (x1.stage_ = 1)) then ((FV N ({ Call := ([] : UQ), Category := 0, Power := 0, Claimed := 0, Jumps := ([] : List Int), Lines := ([] : List Line) } : Log) x2 ([67, 65, 84, 69, 71, 79, 82, 89] : UQ) 1 9).bind fun r67 => some r67.2) else (bif (decide (x1.stage_ = 2)) then ((FT N ({ Call := ([] : UQ), Category := 0, Power := 0, Claimed := 0, Jumps := ([] : List Int), Lines := ([] : List Line) } : Log) x2 ([80, 79, 87, 69, 82] : UQ) 1 9999).bind fun r77 => some r77.2) else (bif (decide (x1.stage_ = 3)) then ((FU N ({ Call := ([] : UQ), Category := 0, Power := 0, Claimed := 0, Jumps := ([] : List Int), Lines := ([] : List Line) } : Log) x2 ([67, 76, 65, 73, 77, 69, 68] : UQ) 0 1000000).bind fun r87 => some r87.2) else (bif (decide (x1.stage_ = 4)) then ((Hc N ({ Call := ([] : UQ), Category := 0, Power := 0, Claimed := 0, Jumps := ([] : List Int), Lines := ([] : List Line) } : Log) x2).bind fun r97 => some r97.2) else none))))).bind fun j43 => some (x0, ({ at_ := x1.at_, stage_ := (W64 (x1.stage_ + 1)), num_ := x1.num_, minute_ := x1.minute_ } : An), j43)) else (bif (x2 == ([69, 78, 68] : UQ)) then some (x0, ({ at_ := x1.at_, stage_ := 6, num_ := 0, minute_ := 0 } : An), true) else ((EF N x0 x2).bind fun r114 => ((bif r114.2.ok_ then (bif (decide (r114.2.x_.Num > x1.num_)) then some ((decide (r114.2.x_.Minute >= x1.minute_)), x1.at_, x1.stage_, r114.2.x_.Num, r114.2.x_.Minute) else none) else some (false, x1.at_, x1.stage_, r114.2.x_.Num, r114.2.x_.Minute)).bind fun j131 => some (r114.1, ({ at_ := j131.2.1, stage_ := j131.2.2.1, num_ := j131.2.2.2.1, minute_ := j131.2.2.2.2 } : An), j131.1))))))
theorem CK : Ag Tryz.prog 170 := fun _ _ => by kernel_rfl
theorem C2 (N : Nat) {wb w0 : World} {Fb F0 : Mem} {Lf : Own} (hG : Br F0) (bp0 : Nat) (x0 : Al) (a0_3 : UR) (n0_3 : Nat) (mb0_4 : Nat) (e0_4 : Option Nat × Obj) (mb0_5 : Nat) (e0_5 : Option Nat × Obj) (hb0_3 : LC x0.lines_.length n0_3) (hs0_3 : SlA AF F0 a0_3 x0.lines_) (hr0_4 : A8 Ax AQ F0 mb0_4 x0.known_ e0_4) (hr0_5 : A8 AF Ar F0 mb0_5 x0.read_ e0_5) (x1 : An) (x2 : UQ) (hs0 : HS wb Fb w0 F0 ((sb bp0 #[(.bool x0.o_.Report), (.bool x0.o_.Serial), (.bool x0.o_.Zone), (.slice a0_3 x0.lines_.length n0_3), (.map (some mb0_4)), (.map (some mb0_5))] 148) :: e0_4 :: e0_5 :: Lf)) (r : (Al × An × Bool)) (h : Cu N x0 x1 x2 = some r) :
  Calls Tryz.prog 170 ([(pt bp0 0), (.agg (Af x1)), (sv x2)] : List Value).toArray w0 (Ed wb Fb F0 fun F' v L' => ∃ (aq0_3 : UR) (nq0_3 : Nat) (eq0_4 : Option Nat × Obj) (eq0_5 : Option Nat × Obj), v = (.tuple #[(.agg (Af r.2.1)), (.bool r.2.2)]) /\ L' = (sb bp0 #[(.bool r.1.o_.Report), (.bool r.1.o_.Serial), (.bool r.1.o_.Zone), (.slice aq0_3 r.1.lines_.length nq0_3), (.map (some mb0_4)), (.map (some mb0_5))] 148) :: eq0_4 :: eq0_5 :: Lf /\ LC r.1.lines_.length nq0_3 /\ SlA AF F' aq0_3 r.1.lines_ /\ A8 Ax AQ F' mb0_4 r.1.known_ eq0_4 /\ A8 AF Ar F' mb0_5 r.1.read_ eq0_5) := by
 refine Go 71 Tryz.func170 <| Sq (Rg [0, 1, 2] ?_)
 refine Bx' 143 (Af x1) hs0 (fun b21 w22 hs23 => ?_)
 refine Al' 143 #[(vi 0), (vi 0), (vi 0), (vi 0)] hs23 (fun b24 w25 hs26 => ?_)
 refine Vs 1 <| Nss (Rg [0] ?_)
 refine Al' 27 #[(sv (([] : UQ))), (vi 0), (vi 0), (vi 0), (.slice none ([] : List Int).length 0), (.slice none ([] : List Line).length 0)] hs26 (fun b27 w28 hs29 => ?_)
 refine Nss <| Bk <| Sq (Rg (rG 4) ?_)
 refine Vs 1 <| Ld hs29.at2 <| Vs 2 <| Nt <| Cd h (fun hb30 h31 => ?_) (fun hb30 h32 => ?_)
 ·refine Sq (Rg [0, 1, 2] ?_)
  refine Ld hs29.at2 <| St1 (Af x1) hs29 (fun w33 hs34 => ?_)
  refine Vs 1 <| Nt <| Rt <| Az <| Aj ?_
  obtain rfl := Aa h31
  exact ⟨rfl, (.tuple #[(.agg (Af x1)), (.bool false)]), AR (l := [.cell 6 143, .tmp 7]) (by kernel_rfl) (vs := [(.agg (Af x1)), (.bool false)]) ⟨b24, 0, rfl, Am (t := 143) (g := true) (s := 4) (by kernel_rfl) hs34.at1 rfl (by decide), ⟨rfl, trivial⟩⟩, F0, _, _, rfl, hs34.dr0.dr0.dr0, (Ux _), ⟨a0_3, n0_3, e0_4, e0_5, rfl, rfl, hb0_3, hs0_3, hr0_4, hr0_5⟩⟩
 ·refine Sq (Rg (rG 4) ?_)
  refine Vs 1 <| Ld hs29.at2 <| Vs 2 <| Nt <| Cd h32 (fun hb35 h36 => ?_) (fun hb35 h37 => ?_)
  ·refine Sq ?_
   obtain ⟨j43, hj48, h49⟩ := bind_some h36
   refine RD 8 8 [(sb b24 #[(vi 0), (vi 0), (vi 0), (vi 0)] 143), (sb b21 (Af x1) 143), (sb bp0 #[(.bool x0.o_.Report), (.bool x0.o_.Serial), (.bool x0.o_.Zone), (.slice a0_3 x0.lines_.length n0_3), (.map (some mb0_4)), (.map (some mb0_5))] 148), e0_4, e0_5] [] hs29 (fun f w => ∃ (F1 : Mem), HS wb Fb w F1 ((sb b24 #[(vi 0), (vi 0), (vi 0), (vi 0)] 143) :: (sb b21 (Af x1) 143) :: (sb bp0 #[(.bool x0.o_.Report), (.bool x0.o_.Serial), (.bool x0.o_.Zone), (.slice a0_3 x0.lines_.length n0_3), (.map (some mb0_4)), (.map (some mb0_5))] 148) :: e0_4 :: e0_5 :: Lf) /\ Uw F0 F1 /\ FI f [] [(4, (pt b21 0)), (6, (pt b24 0)), (9, (.bool j43))]) (fun wd38 hw39 => ?_) ?_
   ·refine Dv [1] ?_
    refine Dl 2 (fun _ hq => (hq.1.2 1 _ _ rfl)) <| Dv [5] <| D1 0 <| DCl Eh hw39 (EN wd38 F0 hw39.pers) ?_
    rintro _ F2 w50 hs51 le52 ⟨tbt53_0_0, tbt53_0_1, tbt53_0_2, tbt53_0_3, tbt53_0_4, tbt53_0_5, tbt53_0_6, tbt53_0_7, tbt53_0_8, tbt53_0_9, tbt53_0_10, tbt53_0_11, rfl, htbt53_0_0, htbt53_0_1, htbt53_0_2, htbt53_0_3, htbt53_0_4, htbt53_0_5, htbt53_0_6, htbt53_0_7, htbt53_0_8, htbt53_0_9, htbt53_0_10, htbt53_0_11⟩
    refine Sd hj48 (fun hb54 h55 => ?_) (fun hb54 h56 => ?_)
    ·refine Dt 3 23 109 (.agg #[(fV 153 #[]), (fV 154 #[])]) (fun _ hq => FK (t := 110) (E := 109) (len := 5) (s := 2) (x := (.tmp 20)) (y := (.tmp 22)) (k := .i64) (i := x1.stage_) (n := 0) (cs := [(fV 153 #[]), (fV 154 #[]), (fV 190 #[(pt tbt53_0_0 0), (pt tbt53_0_1 0), (pt tbt53_0_2 0), (pt tbt53_0_3 0)]), (fV 191 #[(pt tbt53_0_0 0), (pt tbt53_0_3 0)]), (fV 190 #[(pt tbt53_0_4 0), (pt tbt53_0_5 0), (pt tbt53_0_6 0), (pt tbt53_0_7 0)]), (fV 191 #[(pt tbt53_0_4 0), (pt tbt53_0_7 0)]), (fV 190 #[(pt tbt53_0_8 0), (pt tbt53_0_9 0), (pt tbt53_0_10 0), (pt tbt53_0_11 0)]), (fV 191 #[(pt tbt53_0_8 0), (pt tbt53_0_11 0)]), (fV 159 #[]), (fV 160 #[])]) (C := [(fV 153 #[]), (fV 154 #[])]) rfl rfl (by kernel_rfl) (by kernel_rfl) hb54 (by decide) rfl rfl) ?_
     refine Dv [4] <| D1 6 ?_
     obtain ⟨r57, hr58, h59⟩ := bind_some h55
     refine DCB Kk (K5 N (hG.mono le52) b27 (({ Call := ([] : UQ), Category := 0, Power := 0, Claimed := 0, Jumps := ([] : List Int), Lines := ([] : List Line) } : Log)) none 0 none 0 UA (.inl rfl) UA (.inl rfl) x2 hs51 _ hr58) ?_
     rintro _ F3 w60 _ hs61 le62 ⟨ar57_0_4, nr57_0_4, ar57_0_5, nr57_0_5, rfl, rfl, hbr57_0_4, hsr57_0_4, hbr57_0_5, hsr57_0_5⟩
     refine ⟨Ba hs61 (le52.t le62) (by simp) (zdT (by kernel_rfl)), ?_⟩
     refine Dv [7] ?_
     obtain rfl := Aa h59
     exact UJ (by kernel_rfl) ⟨F3, hs61.dr0, (le52.t le62), fI⟩
    ·refine Sd h56 (fun hb64 h65 => ?_) (fun hb64 h66 => ?_)
     ·refine Dt 3 23 109 (.agg #[(fV 190 #[(pt tbt53_0_0 0), (pt tbt53_0_1 0), (pt tbt53_0_2 0), (pt tbt53_0_3 0)]), (fV 191 #[(pt tbt53_0_0 0), (pt tbt53_0_3 0)])]) (fun _ hq => FK (t := 110) (E := 109) (len := 5) (s := 2) (x := (.tmp 20)) (y := (.tmp 22)) (k := .i64) (i := x1.stage_) (n := 1) (cs := [(fV 153 #[]), (fV 154 #[]), (fV 190 #[(pt tbt53_0_0 0), (pt tbt53_0_1 0), (pt tbt53_0_2 0), (pt tbt53_0_3 0)]), (fV 191 #[(pt tbt53_0_0 0), (pt tbt53_0_3 0)]), (fV 190 #[(pt tbt53_0_4 0), (pt tbt53_0_5 0), (pt tbt53_0_6 0), (pt tbt53_0_7 0)]), (fV 191 #[(pt tbt53_0_4 0), (pt tbt53_0_7 0)]), (fV 190 #[(pt tbt53_0_8 0), (pt tbt53_0_9 0), (pt tbt53_0_10 0), (pt tbt53_0_11 0)]), (fV 191 #[(pt tbt53_0_8 0), (pt tbt53_0_11 0)]), (fV 159 #[]), (fV 160 #[])]) (C := [(fV 190 #[(pt tbt53_0_0 0), (pt tbt53_0_1 0), (pt tbt53_0_2 0), (pt tbt53_0_3 0)]), (fV 191 #[(pt tbt53_0_0 0), (pt tbt53_0_3 0)])]) rfl rfl (by kernel_rfl) (by kernel_rfl) hb64 (by decide) rfl rfl) ?_
      refine Dv [4] <| D1 6 ?_
      obtain ⟨r67, hr68, h69⟩ := bind_some h65
      refine DCB H7 (IV N (hG.mono le52) b27 (({ Call := ([] : UQ), Category := 0, Power := 0, Claimed := 0, Jumps := ([] : List Int), Lines := ([] : List Line) } : Log)) none 0 none 0 UA (.inl rfl) UA (.inl rfl) x2 tbt53_0_0 ([67, 65, 84, 69, 71, 79, 82, 89] : UQ) htbt53_0_0 tbt53_0_1 1 htbt53_0_1 tbt53_0_2 9 htbt53_0_2 tbt53_0_3 htbt53_0_3 hs51 _ hr68) ?_
      rintro _ F4 w70 _ hs71 le72 ⟨ar67_0_4, nr67_0_4, ar67_0_5, nr67_0_5, rfl, rfl, hbr67_0_4, hsr67_0_4, hbr67_0_5, hsr67_0_5⟩
      refine ⟨Ba hs71 (le52.t le72) (by simp) (zdT (by kernel_rfl)), ?_⟩
      refine Dv [7] ?_
      obtain rfl := Aa h69
      exact UJ (by kernel_rfl) ⟨F4, hs71.dr0, (le52.t le72), fI⟩
     ·refine Sd h66 (fun hb74 h75 => ?_) (fun hb74 h76 => ?_)
      ·refine Dt 3 23 109 (.agg #[(fV 190 #[(pt tbt53_0_4 0), (pt tbt53_0_5 0), (pt tbt53_0_6 0), (pt tbt53_0_7 0)]), (fV 191 #[(pt tbt53_0_4 0), (pt tbt53_0_7 0)])]) (fun _ hq => FK (t := 110) (E := 109) (len := 5) (s := 2) (x := (.tmp 20)) (y := (.tmp 22)) (k := .i64) (i := x1.stage_) (n := 2) (cs := [(fV 153 #[]), (fV 154 #[]), (fV 190 #[(pt tbt53_0_0 0), (pt tbt53_0_1 0), (pt tbt53_0_2 0), (pt tbt53_0_3 0)]), (fV 191 #[(pt tbt53_0_0 0), (pt tbt53_0_3 0)]), (fV 190 #[(pt tbt53_0_4 0), (pt tbt53_0_5 0), (pt tbt53_0_6 0), (pt tbt53_0_7 0)]), (fV 191 #[(pt tbt53_0_4 0), (pt tbt53_0_7 0)]), (fV 190 #[(pt tbt53_0_8 0), (pt tbt53_0_9 0), (pt tbt53_0_10 0), (pt tbt53_0_11 0)]), (fV 191 #[(pt tbt53_0_8 0), (pt tbt53_0_11 0)]), (fV 159 #[]), (fV 160 #[])]) (C := [(fV 190 #[(pt tbt53_0_4 0), (pt tbt53_0_5 0), (pt tbt53_0_6 0), (pt tbt53_0_7 0)]), (fV 191 #[(pt tbt53_0_4 0), (pt tbt53_0_7 0)])]) rfl rfl (by kernel_rfl) (by kernel_rfl) hb74 (by decide) rfl rfl) ?_
       refine Dv [4] <| D1 6 ?_
       obtain ⟨r77, hr78, h79⟩ := bind_some h75
       refine DCB H1 (IR N (hG.mono le52) b27 (({ Call := ([] : UQ), Category := 0, Power := 0, Claimed := 0, Jumps := ([] : List Int), Lines := ([] : List Line) } : Log)) none 0 none 0 UA (.inl rfl) UA (.inl rfl) x2 tbt53_0_4 ([80, 79, 87, 69, 82] : UQ) htbt53_0_4 tbt53_0_5 1 htbt53_0_5 tbt53_0_6 9999 htbt53_0_6 tbt53_0_7 htbt53_0_7 hs51 _ hr78) ?_
       rintro _ F5 w80 _ hs81 le82 ⟨ar77_0_4, nr77_0_4, ar77_0_5, nr77_0_5, rfl, rfl, hbr77_0_4, hsr77_0_4, hbr77_0_5, hsr77_0_5⟩
       refine ⟨Ba hs81 (le52.t le82) (by simp) (zdT (by kernel_rfl)), ?_⟩
       refine Dv [7] ?_
       obtain rfl := Aa h79
       exact UJ (by kernel_rfl) ⟨F5, hs81.dr0, (le52.t le82), fI⟩
      ·refine Sd h76 (fun hb84 h85 => ?_) (fun hb84 h86 => ?_)
       ·refine Dt 3 23 109 (.agg #[(fV 190 #[(pt tbt53_0_8 0), (pt tbt53_0_9 0), (pt tbt53_0_10 0), (pt tbt53_0_11 0)]), (fV 191 #[(pt tbt53_0_8 0), (pt tbt53_0_11 0)])]) (fun _ hq => FK (t := 110) (E := 109) (len := 5) (s := 2) (x := (.tmp 20)) (y := (.tmp 22)) (k := .i64) (i := x1.stage_) (n := 3) (cs := [(fV 153 #[]), (fV 154 #[]), (fV 190 #[(pt tbt53_0_0 0), (pt tbt53_0_1 0), (pt tbt53_0_2 0), (pt tbt53_0_3 0)]), (fV 191 #[(pt tbt53_0_0 0), (pt tbt53_0_3 0)]), (fV 190 #[(pt tbt53_0_4 0), (pt tbt53_0_5 0), (pt tbt53_0_6 0), (pt tbt53_0_7 0)]), (fV 191 #[(pt tbt53_0_4 0), (pt tbt53_0_7 0)]), (fV 190 #[(pt tbt53_0_8 0), (pt tbt53_0_9 0), (pt tbt53_0_10 0), (pt tbt53_0_11 0)]), (fV 191 #[(pt tbt53_0_8 0), (pt tbt53_0_11 0)]), (fV 159 #[]), (fV 160 #[])]) (C := [(fV 190 #[(pt tbt53_0_8 0), (pt tbt53_0_9 0), (pt tbt53_0_10 0), (pt tbt53_0_11 0)]), (fV 191 #[(pt tbt53_0_8 0), (pt tbt53_0_11 0)])]) rfl rfl (by kernel_rfl) (by kernel_rfl) hb84 (by decide) rfl rfl) ?_
        refine Dv [4] <| D1 6 ?_
        obtain ⟨r87, hr88, h89⟩ := bind_some h85
        refine DCB H6 (IU N (hG.mono le52) b27 (({ Call := ([] : UQ), Category := 0, Power := 0, Claimed := 0, Jumps := ([] : List Int), Lines := ([] : List Line) } : Log)) none 0 none 0 UA (.inl rfl) UA (.inl rfl) x2 tbt53_0_8 ([67, 76, 65, 73, 77, 69, 68] : UQ) htbt53_0_8 tbt53_0_9 0 htbt53_0_9 tbt53_0_10 1000000 htbt53_0_10 tbt53_0_11 htbt53_0_11 hs51 _ hr88) ?_
        rintro _ F6 w90 _ hs91 le92 ⟨ar87_0_4, nr87_0_4, ar87_0_5, nr87_0_5, rfl, rfl, hbr87_0_4, hsr87_0_4, hbr87_0_5, hsr87_0_5⟩
        refine ⟨Ba hs91 (le52.t le92) (by simp) (zdT (by kernel_rfl)), ?_⟩
        refine Dv [7] ?_
        obtain rfl := Aa h89
        exact UJ (by kernel_rfl) ⟨F6, hs91.dr0, (le52.t le92), fI⟩
       ·refine Sd h86 (fun hb94 h95 => ?_) (fun hb94 h96 => ?_)
        ·refine Dt 3 23 109 (.agg #[(fV 159 #[]), (fV 160 #[])]) (fun _ hq => FK (t := 110) (E := 109) (len := 5) (s := 2) (x := (.tmp 20)) (y := (.tmp 22)) (k := .i64) (i := x1.stage_) (n := 4) (cs := [(fV 153 #[]), (fV 154 #[]), (fV 190 #[(pt tbt53_0_0 0), (pt tbt53_0_1 0), (pt tbt53_0_2 0), (pt tbt53_0_3 0)]), (fV 191 #[(pt tbt53_0_0 0), (pt tbt53_0_3 0)]), (fV 190 #[(pt tbt53_0_4 0), (pt tbt53_0_5 0), (pt tbt53_0_6 0), (pt tbt53_0_7 0)]), (fV 191 #[(pt tbt53_0_4 0), (pt tbt53_0_7 0)]), (fV 190 #[(pt tbt53_0_8 0), (pt tbt53_0_9 0), (pt tbt53_0_10 0), (pt tbt53_0_11 0)]), (fV 191 #[(pt tbt53_0_8 0), (pt tbt53_0_11 0)]), (fV 159 #[]), (fV 160 #[])]) (C := [(fV 159 #[]), (fV 160 #[])]) rfl rfl (by kernel_rfl) (by kernel_rfl) hb94 (by decide) rfl rfl) ?_
         refine Dv [4] <| D1 6 ?_
         obtain ⟨r97, hr98, h99⟩ := bind_some h95
         refine DCB Jr (Kq N (hG.mono le52) b27 (({ Call := ([] : UQ), Category := 0, Power := 0, Claimed := 0, Jumps := ([] : List Int), Lines := ([] : List Line) } : Log)) none 0 none 0 UA (.inl rfl) UA (.inl rfl) x2 hs51 _ hr98) ?_
         rintro _ F7 w100 _ hs101 le102 ⟨ar97_0_4, nr97_0_4, ar97_0_5, nr97_0_5, rfl, rfl, hbr97_0_4, hsr97_0_4, hbr97_0_5, hsr97_0_5⟩
         refine ⟨Ba hs101 (le52.t le102) (by simp) (zdT (by kernel_rfl)), ?_⟩
         refine Dv [7] ?_
         obtain rfl := Aa h99
         exact UJ (by kernel_rfl) ⟨F7, hs101.dr0, (le52.t le102), fI⟩
        ·cases h96
   ·rintro f w40 ⟨F1, hs41, le42, ⟨_, rfl⟩⟩
    refine Ab <| Sq (Rg (rG 5) ?_)
    refine Vs 1 <| Ld hs41.at1 <| Vs 2 <| St1 #[(vi x1.at_), (vi (W64 (x1.stage_ + 1))), (vi x1.num_), (vi x1.minute_)] hs41 (fun w104 hs105 => ?_)
    refine Nss (Rg (rG 4) ?_)
    refine Ld hs105.at1 <| Vs 1 <| St0 #[(vi x1.at_), (vi (W64 (x1.stage_ + 1))), (vi x1.num_), (vi x1.minute_)] hs105 (fun w106 hs107 => ?_)
    refine Vs 1 <| Nt <| Rt <| Az <| Aj ?_
    obtain rfl := Aa h49
    exact ⟨rfl, (.tuple #[(.agg #[(vi x1.at_), (vi (W64 (x1.stage_ + 1))), (vi x1.num_), (vi x1.minute_)]), (.bool j43)]), AR (l := [.cell 6 143, .tmp 7]) (by kernel_rfl) (vs := [(.agg #[(vi x1.at_), (vi (W64 (x1.stage_ + 1))), (vi x1.num_), (vi x1.minute_)]), (.bool j43)]) ⟨b24, 0, rfl, Am (t := 143) (g := true) (s := 4) (by kernel_rfl) hs107.at0 rfl (by decide), ⟨rfl, trivial⟩⟩, F1, _, _, rfl, hs107.dr0.dr0, le42, ⟨a0_3, n0_3, e0_4, e0_5, rfl, rfl, hb0_3, (Uz hs0_3 le42), (hr0_4.mono le42), (hr0_5.mono le42)⟩⟩
  ·refine Sq (Rg [0, 1, 2] ?_)
   refine Vs 3 <| Nt <| Cd h37 (fun hb108 h109 => ?_) (fun hb108 h110 => ?_)
   ·refine Sq (Rg (rG 5) ?_)
    refine Vs 1 <| Ld hs29.at2 <| Vs 1 <| St1 #[(vi x1.at_), (vi 6), (vi 0), (vi 0)] hs29 (fun w111 hs112 => ?_)
    refine Vs 1 <| Nt <| Rt <| Az <| Aj ?_
    obtain rfl := Aa h109
    exact ⟨rfl, (.tuple #[(.agg #[(vi x1.at_), (vi 6), (vi 0), (vi 0)]), (.bool true)]), AR (l := [.cell 6 143, .tmp 7]) (by kernel_rfl) (vs := [(.agg #[(vi x1.at_), (vi 6), (vi 0), (vi 0)]), (.bool true)]) ⟨b24, 0, rfl, Am (t := 143) (g := true) (s := 4) (by kernel_rfl) hs112.at1 rfl (by decide), ⟨rfl, trivial⟩⟩, F0, _, _, rfl, hs112.dr0.dr0.dr0, (Ux _), ⟨a0_3, n0_3, e0_4, e0_5, rfl, rfl, hb0_3, hs0_3, hr0_4, hr0_5⟩⟩
   ·refine Sc ?_
    refine Av <| Ab <| Sq (Rg (rG 5) ?_)
    refine Vs 2 ?_
    have hs113 := hs29.pk2.pk2.pk2.pk5.pk5.pk5
    obtain ⟨r114, hr115, h116⟩ := bind_some h110
    refine CB Gy (GZ N hG bp0 x0 a0_3 n0_3 mb0_4 e0_4 mb0_5 e0_5 hb0_3 hs0_3 hr0_4 hr0_5 x2 hs113 _ hr115) ?_
    rintro _ F8 w117 _ hs118 le119 ⟨ar114_0_3, nr114_0_3, er114_0_4, er114_0_5, rfl, rfl, hbr114_0_3, hsr114_0_3, hrr114_0_4, hrr114_0_5⟩
    refine Al' 243 #[(vi 0), (vi 0), (vi 0), (vi 0), (sv (([] : UQ))), (vi 0), (vi 0), (vi 0), (vi 0), (vi 0), (vi 0), (.bool false)] hs118 (fun b121 w122 hs123 => ?_)
    refine St0 (Eg r114.2) hs123 (fun w124 hs125 => ?_)
    refine Nss ?_
    obtain ⟨j131, hj135, h136⟩ := bind_some h116
    refine RD 31 31 [(sb b121 (Eg r114.2) 243), (sb bp0 #[(.bool r114.1.o_.Report), (.bool r114.1.o_.Serial), (.bool r114.1.o_.Zone), (.slice ar114_0_3 r114.1.lines_.length nr114_0_3), (.map (some mb0_4)), (.map (some mb0_5))] 148), er114_0_4, er114_0_5, (sb b27 #[(sv (([] : UQ))), (vi 0), (vi 0), (vi 0), (.slice none ([] : List Int).length 0), (.slice none ([] : List Line).length 0)] 27), (sb b21 (Af x1) 143)] [] hs125 (fun f w => ∃ (F9 : Mem), HS wb Fb w F9 ((sb bp0 #[(.bool r114.1.o_.Report), (.bool r114.1.o_.Serial), (.bool r114.1.o_.Zone), (.slice ar114_0_3 r114.1.lines_.length nr114_0_3), (.map (some mb0_4)), (.map (some mb0_5))] 148) :: er114_0_4 :: er114_0_5 :: (sb b24 #[(vi j131.2.1), (vi j131.2.2.1), (vi j131.2.2.2.1), (vi j131.2.2.2.2)] 143) :: Lf) /\ Uw F8 F9 /\ FI f [] [(6, (pt b24 0)), (7, (.bool j131.1))]) (fun wd126 hw127 => ?_) ?_
    ·refine Dvl [0] (tf 1 30) ?_
     refine Dl 1 (fun _ hq => (hq.1.2 5 _ _ rfl)) <| Dvl [2] (tf 3 28) <| Dl 3 (fun _ hq => (hq.1.2 5 _ _ rfl)) <| Dvl [4, 5] (tf 6 25) <| Dl 6 (fun _ hq => (hq.1.2 0 _ _ rfl)) <| Dvl [7, 8] (tf 9 22) <| Dl 9 (fun _ hq => (hq.1.2 0 _ _ rfl)) <| Dvl [10, 11] (tf 12 19) <| Dl 12 (fun _ hq => (hq.1.2 0 _ _ rfl)) <| Dvl [13] (tf 14 17) <| Sd hj135 (fun hb137 h138 => ?_) (fun hb137 h139 => ?_)
     ·refine Dgl 14 56 0 (pt b121 0) (tf 15 16) 13 true 55 hb137 (fun _ hq => fa 243 10 0 0 11 b121 0 0) ?_
      refine Dgl 15 57 0 (pt b121 0) (tf 16 15) 13 true 55 hb137 (fun _ hq => fa 34 56 0 0 1 b121 0 0) <| Dgl 16 58 3 _ (tf 17 14) 13 true 55 hb137 (fun _ hq => ld 3 57 b121 0 false 1 (vi r114.2.x_.Num) (hq.1.2 0 _ _ rfl)) <| Dgl 17 59 0 (pt b21 2) (tf 18 13) 13 true 55 hb137 (fun _ hq => fa 143 4 2 2 1 b21 0 2) <| Dgl 18 60 3 _ (tf 19 12) 13 true 55 hb137 (fun _ hq => ld 3 59 b21 2 false 1 (vi x1.num_) (hq.1.2 5 _ _ rfl)) <| Dgl 19 61 4 (.bool (decide (r114.2.x_.Num > x1.num_))) (tf 20 11) 13 true 55 hb137 (fun _ hq => Nq (t := 3) (t' := 3) (x := (.tmp 58)) (y := (.tmp 60)) (k := .i64) (a := r114.2.x_.Num) (b := x1.num_) rfl rfl) <| Dtl 20 62 4 _ (tf 21 10) (fun _ hq => p1 55 (.tmp 61) (.const (.bool false)) (.bool (decide (r114.2.x_.Num > x1.num_))) hb137) <| Dvl [21] (tf 22 9) <| Sd h138 (fun hb140 h141 => ?_) (fun hb140 h142 => ?_)
      ·refine Dgl 22 64 0 (pt b121 0) (tf 23 8) 21 true 63 hb140 (fun _ hq => fa 243 10 0 0 11 b121 0 0) ?_
       refine Dgl 23 65 0 (pt b121 3) (tf 24 7) 21 true 63 hb140 (fun _ hq => fa 34 64 3 3 1 b121 0 3) <| Dgl 24 66 3 _ (tf 25 6) 21 true 63 hb140 (fun _ hq => ld 3 65 b121 3 false 1 (vi r114.2.x_.Minute) (hq.1.2 0 _ _ rfl)) <| Dgl 25 67 0 (pt b21 3) (tf 26 5) 21 true 63 hb140 (fun _ hq => fa 143 4 3 3 1 b21 0 3) <| Dgl 26 68 3 _ (tf 27 4) 21 true 63 hb140 (fun _ hq => ld 3 67 b21 3 false 1 (vi x1.minute_) (hq.1.2 5 _ _ rfl)) <| Dgl 27 69 4 (.bool (decide (r114.2.x_.Minute >= x1.minute_))) (tf 28 3) 21 true 63 hb140 (fun _ hq => PE (t := 3) (t' := 3) (x := (.tmp 66)) (y := (.tmp 68)) (k := .i64) (a := r114.2.x_.Minute) (b := x1.minute_) rfl rfl) <| Dtl 28 70 4 _ (tf 29 2) (fun _ hq => p1 63 (.tmp 69) (.const (.bool false)) (.bool (decide (r114.2.x_.Minute >= x1.minute_))) hb140) <| D1 29 <| QH #[(vi x1.at_), (vi x1.stage_), (vi r114.2.x_.Num), (vi r114.2.x_.Minute)] hw127 (Ux _) (fun w143 hs144 => ?_)
       refine Dvl [30] (tf 31 0) ?_
       obtain rfl := Aa h141
       exact UJ (by kernel_rfl) ⟨F8, hs144.dr0.dr3.dr4, (Ux _), fI⟩
      ·cases h142
     ·refine Dkl [(14, 56), (15, 57), (16, 58), (17, 59), (18, 60), (19, 61)] 13 true 55 hb137 (tf 20 11) ?_
      refine Dtl 20 62 4 _ (tf 21 10) (fun _ hq => p0 55 (.tmp 61) (.const (.bool false)) (.bool false) hb137) <| Dvl [21] (tf 22 9) <| Dkl [(22, 64), (23, 65), (24, 66), (25, 67), (26, 68), (27, 69)] 21 true 63 rfl (tf 28 3) <| Dtl 28 70 4 _ (tf 29 2) (fun _ hq => p0 63 (.tmp 69) (.const (.bool false)) (.bool false) rfl) <| D1 29 <| QH #[(vi x1.at_), (vi x1.stage_), (vi r114.2.x_.Num), (vi r114.2.x_.Minute)] hw127 (Ux _) (fun w145 hs146 => ?_)
      refine Dvl [30] (tf 31 0) ?_
      obtain rfl := Aa h139
      exact UJ (by kernel_rfl) ⟨F8, hs146.dr0.dr3.dr4, (Ux _), fI⟩
    ·rintro f w128 ⟨F9, hs129, le130, ⟨_, rfl⟩⟩
     refine Ab <| Rt ?_
     obtain rfl := Aa h136
     exact ⟨rfl, (.tuple #[(.agg #[(vi j131.2.1), (vi j131.2.2.1), (vi j131.2.2.2.1), (vi j131.2.2.2.2)]), (.bool j131.1)]), AR (l := [.cell 6 143, .tmp 7]) (by kernel_rfl) (vs := [(.agg #[(vi j131.2.1), (vi j131.2.2.1), (vi j131.2.2.2.1), (vi j131.2.2.2.2)]), (.bool j131.1)]) ⟨b24, 0, rfl, Am (t := 143) (g := true) (s := 4) (by kernel_rfl) hs129.at3 rfl (by decide), ⟨rfl, trivial⟩⟩, F9, _, _, rfl, hs129.dr3, (le119.t le130), ⟨ar114_0_3, nr114_0_3, er114_0_4, er114_0_5, rfl, rfl, hbr114_0_3, (Uz hsr114_0_3 le130), (hrr114_0_4.mono le130), (hrr114_0_5.mono le130)⟩⟩
def Jh (N : Nat) (x0 : UQ) : (List Int × Int) -> Option (BD UQ (List Int × Int)) := fun s26 =>
 (bif (decide (s26.2 < (x0.length : Int))) then ((OZ x0 s26.2).bind fun c50 => ((AP N (W64 c50) 97 122).bind fun r53 => ((bif ((bif r53 then (IntKind.u8.wrap (c50 - 32)) else (bif ((c50 == 9) || (c50 == 13)) then 32 else c50)) != 32) then some true else (bif (decide ((s26.1.length : Int) > 0)) then ((idx s26.1 (W64 ((s26.1.length : Int) - 1))).bind fun x102 => some (x102 != 32)) else none)).bind fun j86 => (bif j86 then ((Dr s26.1 [(bif r53 then (IntKind.u8.wrap (c50 - 32)) else (bif ((c50 == 9) || (c50 == 13)) then 32 else c50))]).bind fun r122 => some (.next (r122, (W64 (s26.2 + 1))))) else none)))) else some (.done (s26.1, s26.2)))
def JS (N : Nat) (x0 : UQ) : Option UQ :=
 ((A0 (Jh N x0) N (([] : List Int), 0)).bind fun o => o.k (fun r => some r) (fun s35 => ((strings_TrimSuffix N (toB s35.1) ([32] : UQ)).bind fun r134 => some r134)))
theorem Jv : Ag Tryz.prog 38 := fun _ _ => by kernel_rfl
theorem KN (N : Nat) (w0 : World) (F0 : Mem) (hF : US w0 F0) (x0 : UQ) (r : UQ) (h : JS N x0 = some r) :
  Calls Tryz.prog 38 ([(sv x0)] : List Value).toArray w0 (AB w0 F0 fun F' v => v = (sv r)) := by
 have hs0 := Uy hF
 refine Go 51 Tryz.func38 <| Sq (Rg [0] ?_)
 refine Vs 1 <| Nss (Rg [0] ?_)
 refine Vs 1 <| Nss <| Sq (Rg [0, 1, 2] ?_)
 refine Vs 3 <| Nt ?_
 have hs21 := hs0.dummy (oc #[] 0)
 obtain ⟨o23, ho24, h25⟩ := bind_some h
 refine UD (fun f w => ∃ (s35 : (List Int × Int)) (F2 : Mem) (as35_0 : UR) (ns35_0 : Nat) (es35_0 : Option Nat × Obj), o23 = .done s35 /\ HS w0 F0 w F2 [es35_0] /\ Uw F0 F2 /\ FI f [] [(3, (.slice as35_0 s35.1.length ns35_0))] /\ Ap tU8 5 F2 as35_0 ns35_0 s35.1 es35_0) ?_ ?_
 ·refine Bk ?_
  refine Uv (by kernel_rfl) (fun m f w => ∃ (s26 : (List Int × Int)) (F1 : Mem) (as26_0 : UR) (ns26_0 : Nat) (es26_0 : Option Nat × Obj), A0 (Jh N x0) m s26 = some o23 /\ HS w0 F0 w F1 [es26_0] /\ Uw F0 F1 /\ FI f [] [(0, (sv x0)), (3, (.slice as26_0 s26.1.length ns26_0)), (7, (vi (x0.length : Int))), (8, (vi s26.2))] /\ Ap tU8 5 F1 as26_0 ns26_0 s26.1 es26_0) N ⟨(([] : List Int), 0), F0, none, 0, (none, .cells #[] 0 (0, 0)), ho24, hs21, (Ux _), fI, (UL tU8 5 F0 _)⟩ ?_
  rintro m41 f w27 ⟨s26, F1, as26_0, ns26_0, es26_0, hit42, hs28, le29, ⟨_, rfl⟩, hrs26_0⟩
  obtain ⟨m43, fl44, rfl, hb45, hnx46⟩ := AU hit42
  refine Sq (Rg [0] ?_)
  refine Vs 1 <| Nss <| Cd hb45 (fun hb47 h48 => ?_) (fun hb47 h49 => ?_)
  ·refine Sc ?_
   refine Ab <| Sq <| Bk <| Sq (Rg [0, 1] ?_)
   refine Vs 2 <| Nss (Rg (rG 4) ?_)
   refine Vs 2 ?_
   obtain ⟨c50, hr51, h52⟩ := bind_some h48
   refine V 13 5 (LI (t := 9) (x := (.tmp 11)) (y := (.tmp 12)) (a := x0) (k := .i64) (i := s26.2) (v := c50) rfl rfl (by kernel_rfl) hr51) <| Vs 1 <| Nss <| Bk <| Sq (Rg (rG 4) ?_)
   refine Vs 2 ?_
   obtain ⟨r53, hr54, h55⟩ := bind_some h52
   refine Cl' AC hs28 (AJ N w27 F1 hs28.pers ((W64 c50)) 97 122 _ hr54) ?_
   rintro _ F3 w57 hs58 le59 rfl
   refine Vs 1 <| Nt <| UD (fun f w => ∃ (F4 : Mem), HS w0 F0 w F4 [es26_0] /\ Uw F3 F4 /\ FI f [] [(0, (sv x0)), (3, (.slice as26_0 s26.1.length ns26_0)), (5, (.int .u8 (bif r53 then (IntKind.u8.wrap (c50 - 32)) else (bif ((c50 == 9) || (c50 == 13)) then 32 else c50)))), (7, (vi (x0.length : Int))), (8, (vi s26.2))]) ?_ ?_
   ·refine Cp r53 (fun hb70 => ?_) (fun hb70 => ?_)
    ·refine Rg [0, 1, 2] ?_
     refine Vs 3 <| Us ?_
     exact .inl ⟨rfl, F3, hs58, (Ux _), (fJ ⟨rfl, rfl, (congrArg (Value.int .u8) (S1 hb70 rfl)), rfl, rfl, trivial⟩)⟩
    ·refine Sq (Rg (rG 7) ?_)
     refine UC (fun f w => ∃ (F5 : Mem), HS w0 F0 w F5 [es26_0] /\ Uw F3 F5 /\ FI f [] [(0, (sv x0)), (3, (.slice as26_0 s26.1.length ns26_0)), (5, (.int .u8 c50)), (7, (vi (x0.length : Int))), (8, (vi s26.2)), (20, (.bool ((c50 == 9) || (c50 == 13))))]) ?_ ?_
     ·refine Vs 3 ?_
      refine UB (c50 == 9) (fun hb81 => ?_) (fun hb81 => ?_)
      ·refine Ss hb81 2 ?_
       refine Pk1 hb81 <| Vs 1 ?_
       exact Us ⟨rfl, F3, hs58, (Ux _), (fJ ⟨rfl, rfl, rfl, rfl, rfl, (congrArg Value.bool (FN hb81 rfl)), trivial⟩)⟩
      ·refine Vgs hb81 2 ?_
       refine Pk0 hb81 <| Vs 1 ?_
       exact Us ⟨rfl, F3, hs58, (Ux _), (fJ ⟨rfl, rfl, rfl, rfl, rfl, (congrArg Value.bool (Ct hb81 rfl)), trivial⟩)⟩
     ·rintro f w71 ⟨F5, hs72, le73, ⟨_, rfl⟩⟩
      refine Ab <| Cp ((c50 == 9) || (c50 == 13)) (fun hb82 => ?_) (fun hb82 => ?_)
      ·refine Rg [0] ?_
       refine Vs 1 <| Us ?_
       exact .inl ⟨rfl, F5, hs72, le73, (fJ ⟨rfl, rfl, (congrArg (Value.int .u8) (RK hb70 (S1 hb82 rfl))), rfl, rfl, trivial⟩)⟩
      ·refine Sc ?_
       exact .inl ⟨rfl, F5, hs72, le73, (fJ ⟨rfl, rfl, (congrArg (Value.int .u8) (RK hb70 (RK hb82 rfl))), rfl, rfl, trivial⟩)⟩
   ·rintro f w61 ⟨F4, hs62, le63, ⟨_, rfl⟩⟩
    refine Av <| Ab <| Sq (Rg (rG 16) ?_)
    obtain ⟨j86, hj94, h95⟩ := bind_some h55
    refine UC (fun f w => ∃ (F6 : Mem), HS w0 F0 w F6 [es26_0] /\ Uw F4 F6 /\ FI f [] [(0, (sv x0)), (3, (.slice as26_0 s26.1.length ns26_0)), (5, (.int .u8 (bif r53 then (IntKind.u8.wrap (c50 - 32)) else (bif ((c50 == 9) || (c50 == 13)) then 32 else c50)))), (7, (vi (x0.length : Int))), (8, (vi s26.2)), (42, (.bool j86))]) ?_ ?_
    ·refine Vs 3 ?_
     refine Sp hj94 (fun hb96 h97 => ?_) (fun hb96 h98 => ?_)
     ·refine Ss hb96 4 ?_
      refine Su' 7 <| Ss hb96 1 <| Pk1 hb96 ?_
      obtain rfl := Aa h97
      exact Us ⟨rfl, F4, hs62, (Ux _), fI⟩
     ·refine Vgs hb96 4 ?_
      refine Sp h98 (fun hb99 h100 => ?_) (fun hb99 h101 => ?_)
      ·refine Vgs hb99 4 ?_
       obtain ⟨x102, hx103, h105⟩ := bind_some h100
       obtain ⟨hi104, hx103'⟩ := As hx103
       obtain ⟨b106, C107, rfl, rfl, hE110⟩ := Ap.open (hrs26_0.mono (le59.t le63)) hx103'
       have hr111 := (hrs26_0.mono (le59.t le63))
       have hc113 := hE110 _ _ hx103'
       refine Uo hb99 hi104 <| Lxg hb99 0 hs62.at0 hc113 <| Vgs hb99 1 <| Pg1 hb96 hb99 <| Pk0 hb96 ?_
       obtain rfl := Aa h105
       exact Us ⟨rfl, F4, hs62, (Ux _), fI⟩
      ·cases h101
    ·rintro f w83 ⟨F6, hs84, le85, ⟨_, rfl⟩⟩
     refine Ab <| Cd h95 (fun hb114 h115 => ?_) (fun hb114 h116 => ?_)
     ·refine Rg (rG 5) ?_
      refine Vs 2 <| Bs 5 [(.int .u8 (bif r53 then (IntKind.u8.wrap (c50 - 32)) else (bif ((c50 == 9) || (c50 == 13)) then 32 else c50)))] hs84 (fun b117 w118 hs119 => ?_)
      have hr121 : Ap tU8 5 F6 (some ⟨b117, 0, none⟩) 1 [(bif r53 then (IntKind.u8.wrap (c50 - 32)) else (bif ((c50 == 9) || (c50 == 13)) then 32 else c50))] (some b117, .cells ([(.int .u8 (bif r53 then (IntKind.u8.wrap (c50 - 32)) else (bif ((c50 == 9) || (c50 == 13)) then 32 else c50)))] : List Value).toArray 5 (0, 0)) := UM ⟨rfl, rfl⟩ (by simp)
      obtain ⟨r122, hap123, h124⟩ := bind_some h115
      refine Ap1 oU8 hs119 (hrs26_0.mono ((le59.t le63).trans le85)) (hs119.rd0 hr121) hap123 (fun a125 n126 e127 w128 hs129 hr130 => ?_)
      refine Vs 1 <| Us <| Av <| Ab <| Rg [0, 1] <| Vs 2 <| Us ?_
      have hn131 := AV h124 hnx46
      exact ⟨m43, Nat.lt_succ_self _, (r122, (W64 (s26.2 + 1))), F6, a125, n126, e127, hn131, hs129.dr0, (((le29.t le59).trans le63).trans le85), fI, hr130⟩
     ·cases h116
  ·refine Ex ?_
   refine Au <| Au <| AA rfl ?_
   have ho132 := AW h49 hnx46
   exact .inl ⟨rfl, (s26.1, s26.2), F1, as26_0, ns26_0, es26_0, ho132, hs28, le29, fI, hrs26_0⟩
 ·rintro f w36 ⟨s35, F2, as35_0, ns35_0, es35_0, rfl, hs37, le38, ⟨_, rfl⟩, hrs35_0⟩
  have h133 := BL h25
  refine Ab <| Sq (Rg (rG 4) ?_)
  refine Vs 1 <| V 49 9 (Se (s := 103) (d := 9) (E := 5) (x := (.tmp 48)) (a := as35_0) (cap := ns35_0) (q := 0) (l := s35.1) rfl (by kernel_rfl) (by kernel_rfl) (by kernel_rfl) hs37 rfl hrs35_0) ?_
  obtain ⟨r134, hr135, h136⟩ := bind_some h133
  refine Cl' GX hs37 (HF N w36 F2 hs37.pers ((toB s35.1)) (([32] : UQ)) _ hr135) ?_
  rintro _ F7 w138 hs139 le140 rfl
  refine Vs 1 <| Nt <| Rt ?_
  obtain rfl := Aa h136
  exact Re [(sv r134)] hs139 rfl
def Ea (N : Nat) (x0 : Al) (x1 : An) (x2 : Int) : Option (Al × An × D5 × Bool) :=
 (bif (x2 == 4) then (bif ((x1.stage_ == 0) || (x1.stage_ == 6)) then some (x0, x1, ({ Kind := x2, At := x1.at_, Text := ([] : UQ) } : D5), false) else ((Ca N x1.stage_).bind fun r65 => ((Cu N x0 x1 r65).bind fun r76 => ((some (r76.2.1.at_, r76.2.1.stage_, r76.2.1.num_, r76.2.1.minute_, x2, x1.at_, r65)).bind fun j93 => some (r76.1, ({ at_ := j93.1, stage_ := j93.2.1, num_ := j93.2.2.1, minute_ := j93.2.2.2.1 } : An), ({ Kind := j93.2.2.2.2.1, At := j93.2.2.2.2.2.1, Text := j93.2.2.2.2.2.2 } : D5), r76.2.2))))) else (bif (x1.at_ == (x0.lines_.length : Int)) then some (x0, x1, ({ Kind := x2, At := x1.at_, Text := ([] : UQ) } : D5), false) else ((bif (x2 == 1) then (((idx x0.lines_ x1.at_).bind fun x169 => ((Cu N x0 x1 x169).bind fun r184 => some (r184.2.2, r184.2.1.at_, r184.2.1.stage_, r184.2.1.num_, r184.2.1.minute_, r184.1.o_.Report, r184.1.o_.Serial, r184.1.o_.Zone, r184.1.lines_, r184.1.known_, r184.1.read_))).bind fun j159 => some (j159.1, j159.2.1, j159.2.2.1, j159.2.2.2.1, j159.2.2.2.2.1, j159.2.2.2.2.2.1, j159.2.2.2.2.2.2.1, j159.2.2.2.2.2.2.2.1, j159.2.2.2.2.2.2.2.2.1, j159.2.2.2.2.2.2.2.2.2.1, j159.2.2.2.2.2.2.2.2.2.2)) else ((bif (x2 == 2) then (((idx x0.lines_ x1.at_).bind fun x225 => ((JS N x225).bind fun r239 => ((Cu N x0 x1 r239).bind fun r248 => some (r248.2.2, r248.2.1.at_, r248.2.1.stage_, r248.2.1.num_, r248.2.1.minute_, r248.1.o_.Report, r248.1.o_.Serial, r248.1.o_.Zone, r248.1.lines_, r248.1.known_, r248.1.read_)))).bind fun j215 => some (j215.1, j215.2.1, j215.2.2.1, j215.2.2.2.1, j215.2.2.2.2.1, j215.2.2.2.2.2.1, j215.2.2.2.2.2.2.1, j215.2.2.2.2.2.2.2.1, j215.2.2.2.2.2.2.2.2.1, j215.2.2.2.2.2.2.2.2.2.1, j215.2.2.2.2.2.2.2.2.2.2)) else some (true, x1.at_, x1.stage_, x1.num_, x1.minute_, x0.o_.Report, x0.o_.Serial, x0.o_.Zone, x0.lines_, x0.known_, x0.read_)).bind fun j197 => some (j197.1, j197.2.1, j197.2.2.1, j197.2.2.2.1, j197.2.2.2.2.1, j197.2.2.2.2.2.1, j197.2.2.2.2.2.2.1, j197.2.2.2.2.2.2.2.1, j197.2.2.2.2.2.2.2.2.1, j197.2.2.2.2.2.2.2.2.2.1, j197.2.2.2.2.2.2.2.2.2.2))).bind fun j141 => some (({ o_ := ({ Report := j141.2.2.2.2.2.1, Serial := j141.2.2.2.2.2.2.1, Zone := j141.2.2.2.2.2.2.2.1 } : Ac), lines_ := j141.2.2.2.2.2.2.2.2.1, known_ := j141.2.2.2.2.2.2.2.2.2.1, read_ := j141.2.2.2.2.2.2.2.2.2.2 } : Al), ({ at_ := (W64 (x1.at_ + 1)), stage_ := j141.2.2.1, num_ := j141.2.2.2.1, minute_ := j141.2.2.2.2.1 } : An), ({ Kind := x2, At := x1.at_, Text := ([] : UQ) } : D5), j141.1))))
theorem EJ : Ag Tryz.prog 111 := fun _ _ => by kernel_rfl
theorem EY (N : Nat) {wb w0 : World} {Fb F0 : Mem} {Lf : Own} (hG : Br F0) (bp0 : Nat) (x0 : Al) (a0_3 : UR) (n0_3 : Nat) (mb0_4 : Nat) (e0_4 : Option Nat × Obj) (mb0_5 : Nat) (e0_5 : Option Nat × Obj) (hb0_3 : LC x0.lines_.length n0_3) (hs0_3 : SlA AF F0 a0_3 x0.lines_) (hr0_4 : A8 Ax AQ F0 mb0_4 x0.known_ e0_4) (hr0_5 : A8 AF Ar F0 mb0_5 x0.read_ e0_5) (x1 : An) (x2 : Int) (hs0 : HS wb Fb w0 F0 ((sb bp0 #[(.bool x0.o_.Report), (.bool x0.o_.Serial), (.bool x0.o_.Zone), (.slice a0_3 x0.lines_.length n0_3), (.map (some mb0_4)), (.map (some mb0_5))] 148) :: e0_4 :: e0_5 :: Lf)) (r : (Al × An × D5 × Bool)) (h : Ea N x0 x1 x2 = some r) :
  Calls Tryz.prog 111 ([(pt bp0 0), (.agg (Af x1)), (vi x2)] : List Value).toArray w0 (Ed wb Fb F0 fun F' v L' => ∃ (aq0_3 : UR) (nq0_3 : Nat) (eq0_4 : Option Nat × Obj) (eq0_5 : Option Nat × Obj), v = (.tuple #[(.agg (Af r.2.1)), (.agg (Fl r.2.2.1)), (.bool r.2.2.2)]) /\ L' = (sb bp0 #[(.bool r.1.o_.Report), (.bool r.1.o_.Serial), (.bool r.1.o_.Zone), (.slice aq0_3 r.1.lines_.length nq0_3), (.map (some mb0_4)), (.map (some mb0_5))] 148) :: eq0_4 :: eq0_5 :: Lf /\ LC r.1.lines_.length nq0_3 /\ SlA AF F' aq0_3 r.1.lines_ /\ A8 Ax AQ F' mb0_4 r.1.known_ eq0_4 /\ A8 AF Ar F' mb0_5 r.1.read_ eq0_5) := by
 refine Go 97 Tryz.func111 <| Sq (Rg (rG 4) ?_)
 refine Bx' 143 (Af x1) hs0 (fun b21 w22 hs23 => ?_)
 refine Al' 143 #[(vi 0), (vi 0), (vi 0), (vi 0)] hs23 (fun b24 w25 hs26 => ?_)
 refine Al' 150 #[(vi 0), (vi 0), (sv (([] : UQ)))] hs26 (fun b27 w28 hs29 => ?_)
 refine Vs 1 <| Nss (Rg (rG 6) ?_)
 refine Vs 2 <| Ld hs29.at2 <| Vs 1 <| Al' 150 #[(vi 0), (vi 0), (sv (([] : UQ)))] hs29 (fun b30 w31 hs32 => ?_)
 refine St0 #[(vi x2), (vi x1.at_), (sv (([] : UQ)))] hs32 (fun w33 hs34 => ?_)
 refine Nss <| Sq (Rg [0, 1] ?_)
 refine Vs 2 <| Nt <| Cd h (fun hb35 h36 => ?_) (fun hb35 h37 => ?_)
 ·refine Sq ?_
  refine Sq (Rg (rG 8) ?_)
  refine UC (fun f w => ∃ (F1 : Mem), HS wb Fb w F1 ((sb b30 #[(vi x2), (vi x1.at_), (sv (([] : UQ)))] 150) :: (sb b27 #[(vi 0), (vi 0), (sv (([] : UQ)))] 150) :: (sb b24 #[(vi 0), (vi 0), (vi 0), (vi 0)] 143) :: (sb b21 (Af x1) 143) :: (sb bp0 #[(.bool x0.o_.Report), (.bool x0.o_.Serial), (.bool x0.o_.Zone), (.slice a0_3 x0.lines_.length n0_3), (.map (some mb0_4)), (.map (some mb0_5))] 148) :: e0_4 :: e0_5 :: Lf) /\ Uw F0 F1 /\ FI f [] [(0, (pt bp0 0)), (4, (pt b21 0)), (6, (pt b24 0)), (7, (pt b27 0)), (9, (pt b30 0)), (27, (.bool ((x1.stage_ == 0) || (x1.stage_ == 6))))]) ?_ ?_
  ·refine Vs 1 ?_
   refine Ld hs34.at3 <| Vs 2 <| UB (x1.stage_ == 0) (fun hb48 => ?_) (fun hb48 => ?_)
   ·refine Ss hb48 3 ?_
    refine Pk1 hb48 ?_
    exact Us ⟨rfl, F0, hs34, (Ux _), (fJ ⟨rfl, rfl, rfl, rfl, rfl, (congrArg Value.bool (FN hb48 rfl)), trivial⟩)⟩
   ·refine Vgs hb48 1 ?_
    refine Lg hb48 hs34.at3 <| Vgs hb48 1 <| Pk0 hb48 ?_
    exact Us ⟨rfl, F0, hs34, (Ux _), (fJ ⟨rfl, rfl, rfl, rfl, rfl, (congrArg Value.bool (Ct hb48 rfl)), trivial⟩)⟩
  ·rintro f w38 ⟨F1, hs39, le40, ⟨_, rfl⟩⟩
   refine Ab <| Cd h36 (fun hb49 h50 => ?_) (fun hb49 h51 => ?_)
   ·refine Sq ?_
    refine RD 5 5 [(sb b30 #[(vi x2), (vi x1.at_), (sv (([] : UQ)))] 150), (sb b21 (Af x1) 143), (sb bp0 #[(.bool x0.o_.Report), (.bool x0.o_.Serial), (.bool x0.o_.Zone), (.slice a0_3 x0.lines_.length n0_3), (.map (some mb0_4)), (.map (some mb0_5))] 148), e0_4, e0_5] [] hs39 (fun f w => ∃ (F2 : Mem), HS wb Fb w F2 ((sb b27 #[(vi x2), (vi x1.at_), (sv (([] : UQ)))] 150) :: (sb b24 (Af x1) 143) :: (sb bp0 #[(.bool x0.o_.Report), (.bool x0.o_.Serial), (.bool x0.o_.Zone), (.slice a0_3 x0.lines_.length n0_3), (.map (some mb0_4)), (.map (some mb0_5))] 148) :: e0_4 :: e0_5 :: Lf) /\ Uw F1 F2 /\ FI f [] [(6, (pt b24 0)), (7, (pt b27 0)), (8, (.bool false))]) (fun wd52 hw53 => ?_) ?_
    ·refine Dl 0 (fun _ hq => (hq.1.2 1 _ _ rfl)) ?_
     refine Dl 1 (fun _ hq => (hq.1.2 0 _ _ rfl)) <| D1 2 <| MR (Af x1) hw53 (Ux _) (fun w61 hs62 => ?_)
     refine D1 3 <| K9 #[(vi x2), (vi x1.at_), (sv (([] : UQ)))] hs62 (Ux _) (fun w63 hs64 => ?_)
     refine Dv [4] ?_
     exact UJ (by kernel_rfl) ⟨F1, hs64.dr0.dr2, (Ux _), fI⟩
    ·rintro f w54 ⟨F2, hs55, le56, ⟨_, rfl⟩⟩
     refine Ab <| Rt <| Aj <| Aj ?_
     obtain rfl := Aa h50
     exact ⟨rfl, (.tuple #[(.agg (Af x1)), (.agg #[(vi x2), (vi x1.at_), (sv (([] : UQ)))]), (.bool false)]), AR (l := [.cell 6 143, .cell 7 150, .tmp 8]) (by kernel_rfl) (vs := [(.agg (Af x1)), (.agg #[(vi x2), (vi x1.at_), (sv (([] : UQ)))]), (.bool false)]) ⟨b24, 0, rfl, Am (t := 143) (g := true) (s := 4) (by kernel_rfl) hs55.at1 rfl (by decide), ⟨b27, 0, rfl, Am (t := 150) (g := true) (s := 3) (by kernel_rfl) hs55.at0 rfl (by decide), ⟨rfl, trivial⟩⟩⟩, F2, _, _, rfl, hs55.dr0.dr0, (le40.t le56), ⟨a0_3, n0_3, e0_4, e0_5, rfl, rfl, hb0_3, (Uz hs0_3 (le40.t le56)), (hr0_4.mono (le40.t le56)), (hr0_5.mono (le40.t le56))⟩⟩
   ·refine Sc ?_
    refine Ab <| Sq (Rg (rG 5) ?_)
    refine Vs 1 <| Ld hs39.at3 ?_
    obtain ⟨r65, hr66, h67⟩ := bind_some h51
    refine Cl' BQ hs39 (B1 N w38 F1 hs39.pers x1.stage_ _ hr66) ?_
    rintro _ F3 w69 hs70 le71 rfl
    refine Vs 1 <| St0 #[(vi x2), (vi x1.at_), (sv r65)] hs70 (fun w73 hs74 => ?_)
    refine Nss (Rg (rG 11) ?_)
    refine Vs 1 <| Ld hs74.at3 <| Vs 1 <| Ld hs74.at0 ?_
    have hs75 := hs74.pk3.pk3.pk3.pk3.pk6.pk6
    obtain ⟨r76, hr77, h78⟩ := bind_some h67
    refine CB CK (C2 N (hG.mono (le40.t le71)) bp0 x0 a0_3 n0_3 mb0_4 e0_4 mb0_5 e0_5 hb0_3 (Uz hs0_3 (le40.t le71)) (hr0_4.mono (le40.t le71)) (hr0_5.mono (le40.t le71)) x1 r65 hs75.pk6 _ hr77) ?_
    rintro _ F4 w79 _ hs80 le81 ⟨ar76_0_3, nr76_0_3, er76_0_4, er76_0_5, rfl, rfl, hbr76_0_3, hsr76_0_3, hrr76_0_4, hrr76_0_5⟩
    refine Vs 3 <| Al' 143 #[(vi 0), (vi 0), (vi 0), (vi 0)] hs80 (fun b83 w84 hs85 => ?_)
    refine St0 (Af r76.2.1) hs85 (fun w86 hs87 => ?_)
    refine Vs 1 <| Nss ?_
    obtain ⟨j93, hj98, h99⟩ := bind_some h78
    refine RD 6 6 [(sb b83 (Af r76.2.1) 143), (sb bp0 #[(.bool r76.1.o_.Report), (.bool r76.1.o_.Serial), (.bool r76.1.o_.Zone), (.slice ar76_0_3 r76.1.lines_.length nr76_0_3), (.map (some mb0_4)), (.map (some mb0_5))] 148), er76_0_4, er76_0_5, (sb b30 #[(vi x2), (vi x1.at_), (sv r65)] 150), (sb b21 (Af x1) 143)] [] hs87 (fun f w => ∃ (F5 : Mem), HS wb Fb w F5 ((sb bp0 #[(.bool r76.1.o_.Report), (.bool r76.1.o_.Serial), (.bool r76.1.o_.Zone), (.slice ar76_0_3 r76.1.lines_.length nr76_0_3), (.map (some mb0_4)), (.map (some mb0_5))] 148) :: er76_0_4 :: er76_0_5 :: (sb b27 #[(vi j93.2.2.2.2.1), (vi j93.2.2.2.2.2.1), (sv j93.2.2.2.2.2.2)] 150) :: (sb b24 #[(vi j93.1), (vi j93.2.1), (vi j93.2.2.1), (vi j93.2.2.2.1)] 143) :: Lf) /\ Uw F4 F5 /\ FI f [] [(6, (pt b24 0)), (7, (pt b27 0)), (8, (.bool r76.2.2))]) (fun wd88 hw89 => ?_) ?_
    ·refine Dl 0 (fun _ hq => (hq.1.2 0 _ _ rfl)) ?_
     refine Dl 1 (fun _ hq => (hq.1.2 4 _ _ rfl)) <| Dv [2] <| D1 3 <| SR (Af r76.2.1) hw89 (Ux _) (fun w100 hs101 => ?_)
     refine D1 4 <| QH #[(vi x2), (vi x1.at_), (sv r65)] hs101 (Ux _) (fun w102 hs103 => ?_)
     refine Dv [5] ?_
     obtain rfl := Aa hj98
     exact UJ (by kernel_rfl) ⟨F4, hs103.dr0.dr3.dr5, (Ux _), fI⟩
    ·rintro f w90 ⟨F5, hs91, le92, ⟨_, rfl⟩⟩
     refine Ab <| Rt <| Aj ?_
     obtain rfl := Aa h99
     exact ⟨rfl, (.tuple #[(.agg #[(vi j93.1), (vi j93.2.1), (vi j93.2.2.1), (vi j93.2.2.2.1)]), (.agg #[(vi j93.2.2.2.2.1), (vi j93.2.2.2.2.2.1), (sv j93.2.2.2.2.2.2)]), (.bool r76.2.2)]), AR (l := [.cell 6 143, .cell 7 150, .tmp 8]) (by kernel_rfl) (vs := [(.agg #[(vi j93.1), (vi j93.2.1), (vi j93.2.2.1), (vi j93.2.2.2.1)]), (.agg #[(vi j93.2.2.2.2.1), (vi j93.2.2.2.2.2.1), (sv j93.2.2.2.2.2.2)]), (.bool r76.2.2)]) ⟨b24, 0, rfl, Am (t := 143) (g := true) (s := 4) (by kernel_rfl) hs91.at4 rfl (by decide), ⟨b27, 0, rfl, Am (t := 150) (g := true) (s := 3) (by kernel_rfl) hs91.at3 rfl (by decide), ⟨rfl, trivial⟩⟩⟩, F5, _, _, rfl, hs91.dr3.dr3, (((le40.t le71).trans le81).trans le92), ⟨ar76_0_3, nr76_0_3, er76_0_4, er76_0_5, rfl, rfl, hbr76_0_3, (Uz hsr76_0_3 le92), (hrr76_0_4.mono le92), (hrr76_0_5.mono le92)⟩⟩
 ·refine Sc ?_
  refine Ab <| Sq <| Sq <| RD 8 8 [(sb b30 #[(vi x2), (vi x1.at_), (sv (([] : UQ)))] 150), (sb b27 #[(vi 0), (vi 0), (sv (([] : UQ)))] 150), (sb b24 #[(vi 0), (vi 0), (vi 0), (vi 0)] 143), (sb b21 (Af x1) 143), (sb bp0 #[(.bool x0.o_.Report), (.bool x0.o_.Serial), (.bool x0.o_.Zone), (.slice a0_3 x0.lines_.length n0_3), (.map (some mb0_4)), (.map (some mb0_5))] 148), e0_4, e0_5] [] hs34 (fun f w => ∃ (F6 : Mem), HS wb Fb w F6 ((sb b30 #[(vi x2), (vi x1.at_), (sv (([] : UQ)))] 150) :: (sb b27 #[(vi 0), (vi 0), (sv (([] : UQ)))] 150) :: (sb b24 #[(vi 0), (vi 0), (vi 0), (vi 0)] 143) :: (sb b21 (Af x1) 143) :: (sb bp0 #[(.bool x0.o_.Report), (.bool x0.o_.Serial), (.bool x0.o_.Zone), (.slice a0_3 x0.lines_.length n0_3), (.map (some mb0_4)), (.map (some mb0_5))] 148) :: e0_4 :: e0_5 :: Lf) /\ Uw F0 F6 /\ FI f [] [(0, (pt bp0 0)), (2, (vi x2)), (4, (pt b21 0)), (6, (pt b24 0)), (7, (pt b27 0)), (9, (pt b30 0)), (52, (.bool (x1.at_ == (x0.lines_.length : Int))))]) (fun wd104 hw105 => ?_) ?_
  ·refine Dv [0] ?_
   refine Dl 1 (fun _ hq => (hq.1.2 3 _ _ rfl)) <| Dv [2, 3, 4] <| Dl 5 (fun _ hq => (hq.1.2 4 _ _ rfl)) <| Dv [6, 7] ?_
   exact UJ (by kernel_rfl) ⟨F0, hw105, (Ux _), fI⟩
  ·rintro f w106 ⟨F6, hs107, le108, ⟨_, rfl⟩⟩
   refine Ab <| Cd h37 (fun hb117 h118 => ?_) (fun hb117 h119 => ?_)
   ·refine Sq ?_
    refine RD 5 5 [(sb b30 #[(vi x2), (vi x1.at_), (sv (([] : UQ)))] 150), (sb b21 (Af x1) 143), (sb bp0 #[(.bool x0.o_.Report), (.bool x0.o_.Serial), (.bool x0.o_.Zone), (.slice a0_3 x0.lines_.length n0_3), (.map (some mb0_4)), (.map (some mb0_5))] 148), e0_4, e0_5] [] hs107 (fun f w => ∃ (F7 : Mem), HS wb Fb w F7 ((sb b27 #[(vi x2), (vi x1.at_), (sv (([] : UQ)))] 150) :: (sb b24 (Af x1) 143) :: (sb bp0 #[(.bool x0.o_.Report), (.bool x0.o_.Serial), (.bool x0.o_.Zone), (.slice a0_3 x0.lines_.length n0_3), (.map (some mb0_4)), (.map (some mb0_5))] 148) :: e0_4 :: e0_5 :: Lf) /\ Uw F6 F7 /\ FI f [] [(6, (pt b24 0)), (7, (pt b27 0)), (8, (.bool false))]) (fun wd120 hw121 => ?_) ?_
    ·refine Dl 0 (fun _ hq => (hq.1.2 1 _ _ rfl)) ?_
     refine Dl 1 (fun _ hq => (hq.1.2 0 _ _ rfl)) <| D1 2 <| MR (Af x1) hw121 (Ux _) (fun w129 hs130 => ?_)
     refine D1 3 <| K9 #[(vi x2), (vi x1.at_), (sv (([] : UQ)))] hs130 (Ux _) (fun w131 hs132 => ?_)
     refine Dv [4] ?_
     exact UJ (by kernel_rfl) ⟨F6, hs132.dr0.dr2, (Ux _), fI⟩
    ·rintro f w122 ⟨F7, hs123, le124, ⟨_, rfl⟩⟩
     refine Ab <| Rt <| Aj ?_
     obtain rfl := Aa h118
     exact ⟨rfl, (.tuple #[(.agg (Af x1)), (.agg #[(vi x2), (vi x1.at_), (sv (([] : UQ)))]), (.bool false)]), AR (l := [.cell 6 143, .cell 7 150, .tmp 8]) (by kernel_rfl) (vs := [(.agg (Af x1)), (.agg #[(vi x2), (vi x1.at_), (sv (([] : UQ)))]), (.bool false)]) ⟨b24, 0, rfl, Am (t := 143) (g := true) (s := 4) (by kernel_rfl) hs123.at1 rfl (by decide), ⟨b27, 0, rfl, Am (t := 150) (g := true) (s := 3) (by kernel_rfl) hs123.at0 rfl (by decide), ⟨rfl, trivial⟩⟩⟩, F7, _, _, rfl, hs123.dr0.dr0, (le108.t le124), ⟨a0_3, n0_3, e0_4, e0_5, rfl, rfl, hb0_3, (Uz hs0_3 (le108.t le124)), (hr0_4.mono (le108.t le124)), (hr0_5.mono (le108.t le124))⟩⟩
   ·refine Sc ?_
    refine Ab <| Sq (Rg (rG 4) ?_)
    refine Ld hs107.at3 <| Al' 143 #[(vi 0), (vi 0), (vi 0), (vi 0)] hs107 (fun b133 w134 hs135 => ?_)
    refine St0 (Af x1) hs135 (fun w136 hs137 => ?_)
    refine Vs 1 <| Nss <| Sq (Rg [0] ?_)
    refine Vs 1 <| Nt <| Bk <| Sq (Rg [0, 1] ?_)
    refine Vs 2 <| Nt ?_
    obtain ⟨j141, hj149, h150⟩ := bind_some h119
    refine UD (fun f w => ∃ (F8 : Mem) (aj141_8 : UR) (nj141_8 : Nat) (ej141_9 : Option Nat × Obj) (ej141_10 : Option Nat × Obj), HS wb Fb w F8 ((sb b133 #[(vi j141.2.1), (vi j141.2.2.1), (vi j141.2.2.2.1), (vi j141.2.2.2.2.1)] 143) :: (sb b30 #[(vi x2), (vi x1.at_), (sv (([] : UQ)))] 150) :: (sb b27 #[(vi 0), (vi 0), (sv (([] : UQ)))] 150) :: (sb b24 #[(vi 0), (vi 0), (vi 0), (vi 0)] 143) :: (sb b21 (Af x1) 143) :: (sb bp0 #[(.bool j141.2.2.2.2.2.1), (.bool j141.2.2.2.2.2.2.1), (.bool j141.2.2.2.2.2.2.2.1), (.slice aj141_8 j141.2.2.2.2.2.2.2.2.1.length nj141_8), (.map (some mb0_4)), (.map (some mb0_5))] 148) :: ej141_9 :: ej141_10 :: Lf) /\ Uw F6 F8 /\ FI f [] [(4, (pt b21 0)), (6, (pt b24 0)), (7, (pt b27 0)), (9, (pt b30 0)), (12, (pt b133 0)), (13, (.bool j141.1))] /\ LC j141.2.2.2.2.2.2.2.2.1.length nj141_8 /\ SlA AF F8 aj141_8 j141.2.2.2.2.2.2.2.2.1 /\ A8 Ax AQ F8 mb0_4 j141.2.2.2.2.2.2.2.2.2.1 ej141_9 /\ A8 AF Ar F8 mb0_5 j141.2.2.2.2.2.2.2.2.2.2 ej141_10) ?_ ?_
    ·refine Cd hj149 (fun hb151 h152 => ?_) (fun hb151 h153 => ?_)
     ·obtain ⟨j159, hj167, h168⟩ := bind_some h152
      refine RD 16 16 [(sb b30 #[(vi x2), (vi x1.at_), (sv (([] : UQ)))] 150), (sb b27 #[(vi 0), (vi 0), (sv (([] : UQ)))] 150), (sb b24 #[(vi 0), (vi 0), (vi 0), (vi 0)] 143), (sb b21 (Af x1) 143)] [] hs137 (fun f w => ∃ (F9 : Mem) (aj159_8 : UR) (nj159_8 : Nat) (ej159_9 : Option Nat × Obj) (ej159_10 : Option Nat × Obj), HS wb Fb w F9 ((sb b133 #[(vi j159.2.1), (vi j159.2.2.1), (vi j159.2.2.2.1), (vi j159.2.2.2.2.1)] 143) :: (sb b30 #[(vi x2), (vi x1.at_), (sv (([] : UQ)))] 150) :: (sb b27 #[(vi 0), (vi 0), (sv (([] : UQ)))] 150) :: (sb b24 #[(vi 0), (vi 0), (vi 0), (vi 0)] 143) :: (sb b21 (Af x1) 143) :: (sb bp0 #[(.bool j159.2.2.2.2.2.1), (.bool j159.2.2.2.2.2.2.1), (.bool j159.2.2.2.2.2.2.2.1), (.slice aj159_8 j159.2.2.2.2.2.2.2.2.1.length nj159_8), (.map (some mb0_4)), (.map (some mb0_5))] 148) :: ej159_9 :: ej159_10 :: Lf) /\ Uw F6 F9 /\ FI f [] [(4, (pt b21 0)), (6, (pt b24 0)), (7, (pt b27 0)), (9, (pt b30 0)), (12, (pt b133 0)), (13, (.bool j159.1))] /\ LC j159.2.2.2.2.2.2.2.2.1.length nj159_8 /\ SlA AF F9 aj159_8 j159.2.2.2.2.2.2.2.2.1 /\ A8 Ax AQ F9 mb0_4 j159.2.2.2.2.2.2.2.2.2.1 ej159_9 /\ A8 AF Ar F9 mb0_5 j159.2.2.2.2.2.2.2.2.2.2 ej159_10) (fun wd154 hw155 => ?_) ?_
      ·refine Dv [0] ?_
       refine Dl 1 (fun _ hq => (hq.1.2 3 _ _ rfl)) <| Dv [2, 3, 4, 6] <| Dl 7 (fun _ hq => (hq.1.2 3 _ _ rfl)) <| D1 5 <| UG (l' := [true, true, true, true, true, true, true, true, false, false, false, false, false, false, false, false]) (zd := true) (by kernel_rfl) (by kernel_rfl) (dst := (some 65)) (ty := 55) (g := none) (by kernel_rfl) rfl (Bz (t := 55) (x := (.tmp 64)) (b := bp0) (o := 3) (g := false) (s := 1) (C := #[(.bool x0.o_.Report), (.bool x0.o_.Serial), (.bool x0.o_.Zone), (.slice a0_3 x0.lines_.length n0_3), (.map (some mb0_4)), (.map (some mb0_5))]) (v := (.slice a0_3 x0.lines_.length n0_3)) rfl (by kernel_rfl) hw155.at5 rfl rfl rfl) (Ba hw155 (Ux _) (by simp) (fun e => by cases e)) ?_
       obtain ⟨x169, hx170, h172⟩ := bind_some hj167
       obtain ⟨hi171, hx170'⟩ := As hx170
       obtain ⟨b173, o174, C175, E176, fz177, rfl, hF179, hE180⟩ := UE (Uz hs0_3 le108) hx170'
       have hc182 := hE180 _ _ hx170'
       refine Di 8 hi171 <| Dx 9 0 (fun _ hq => hq.1.1 _ _ hF179) hc182 <| D1 10 ?_
       have hs183 := hw155.pk4.pk4.pk4.pk4.pk4
       obtain ⟨r184, hr185, h186⟩ := bind_some h172
       refine DCB CK (C2 N (hG.mono le108) bp0 x0 (some ⟨b173, o174, none⟩) n0_3 mb0_4 e0_4 mb0_5 e0_5 hb0_3 (Uz hs0_3 le108) (hr0_4.mono le108) (hr0_5.mono le108) x1 x169 hs183.pk7.pk7.pk7 _ hr185) ?_
       rintro _ F10 w187 _ hs188 le189 ⟨ar184_0_3, nr184_0_3, er184_0_4, er184_0_5, rfl, rfl, hbr184_0_3, hsr184_0_3, hrr184_0_4, hrr184_0_5⟩
       refine ⟨Ba hs188 le189 (by simp) (zdT (by kernel_rfl)), ?_⟩
       refine Dv [11, 12, 13] <| D1 14 <| SS (Af r184.2.1) hs188 le189 (fun w191 hs192 => ?_)
       refine Dv [15] ?_
       obtain rfl := Aa h186
       have hs193 := hs192.pk2.pk2.pk2.pk7.pk7
       exact UJ (by kernel_rfl) ⟨F10, ar184_0_3, nr184_0_3, er184_0_4, er184_0_5, hs193.pk7.pk7.pk7, le189, fI, hbr184_0_3, hsr184_0_3, hrr184_0_4, hrr184_0_5⟩
      ·rintro f w156 ⟨F9, aj159_8, nj159_8, ej159_9, ej159_10, hs157, le158, ⟨_, rfl⟩, hbj159_8, hsj159_8, hrj159_9, hrj159_10⟩
       obtain rfl := Aa h168
       exact .inl ⟨rfl, F9, aj159_8, nj159_8, ej159_9, ej159_10, hs157, le158, fI, hbj159_8, hsj159_8, hrj159_9, hrj159_10⟩
     ·refine Sq (Rg [0, 1] ?_)
      refine Vs 2 <| Nt ?_
      obtain ⟨j197, hj205, h206⟩ := bind_some h153
      refine UD (fun f w => ∃ (F11 : Mem) (aj197_8 : UR) (nj197_8 : Nat) (ej197_9 : Option Nat × Obj) (ej197_10 : Option Nat × Obj), HS wb Fb w F11 ((sb b133 #[(vi j197.2.1), (vi j197.2.2.1), (vi j197.2.2.2.1), (vi j197.2.2.2.2.1)] 143) :: (sb b30 #[(vi x2), (vi x1.at_), (sv (([] : UQ)))] 150) :: (sb b27 #[(vi 0), (vi 0), (sv (([] : UQ)))] 150) :: (sb b24 #[(vi 0), (vi 0), (vi 0), (vi 0)] 143) :: (sb b21 (Af x1) 143) :: (sb bp0 #[(.bool j197.2.2.2.2.2.1), (.bool j197.2.2.2.2.2.2.1), (.bool j197.2.2.2.2.2.2.2.1), (.slice aj197_8 j197.2.2.2.2.2.2.2.2.1.length nj197_8), (.map (some mb0_4)), (.map (some mb0_5))] 148) :: ej197_9 :: ej197_10 :: Lf) /\ Uw F6 F11 /\ FI f [] [(4, (pt b21 0)), (6, (pt b24 0)), (7, (pt b27 0)), (9, (pt b30 0)), (12, (pt b133 0)), (13, (.bool j197.1))] /\ LC j197.2.2.2.2.2.2.2.2.1.length nj197_8 /\ SlA AF F11 aj197_8 j197.2.2.2.2.2.2.2.2.1 /\ A8 Ax AQ F11 mb0_4 j197.2.2.2.2.2.2.2.2.2.1 ej197_9 /\ A8 AF Ar F11 mb0_5 j197.2.2.2.2.2.2.2.2.2.2 ej197_10) ?_ ?_
      ·refine Cd hj205 (fun hb207 h208 => ?_) (fun hb207 h209 => ?_)
       ·obtain ⟨j215, hj223, h224⟩ := bind_some h208
        refine RD 17 17 [(sb b30 #[(vi x2), (vi x1.at_), (sv (([] : UQ)))] 150), (sb b27 #[(vi 0), (vi 0), (sv (([] : UQ)))] 150), (sb b24 #[(vi 0), (vi 0), (vi 0), (vi 0)] 143), (sb b21 (Af x1) 143)] [] hs137 (fun f w => ∃ (F12 : Mem) (aj215_8 : UR) (nj215_8 : Nat) (ej215_9 : Option Nat × Obj) (ej215_10 : Option Nat × Obj), HS wb Fb w F12 ((sb b133 #[(vi j215.2.1), (vi j215.2.2.1), (vi j215.2.2.2.1), (vi j215.2.2.2.2.1)] 143) :: (sb b30 #[(vi x2), (vi x1.at_), (sv (([] : UQ)))] 150) :: (sb b27 #[(vi 0), (vi 0), (sv (([] : UQ)))] 150) :: (sb b24 #[(vi 0), (vi 0), (vi 0), (vi 0)] 143) :: (sb b21 (Af x1) 143) :: (sb bp0 #[(.bool j215.2.2.2.2.2.1), (.bool j215.2.2.2.2.2.2.1), (.bool j215.2.2.2.2.2.2.2.1), (.slice aj215_8 j215.2.2.2.2.2.2.2.2.1.length nj215_8), (.map (some mb0_4)), (.map (some mb0_5))] 148) :: ej215_9 :: ej215_10 :: Lf) /\ Uw F6 F12 /\ FI f [] [(4, (pt b21 0)), (6, (pt b24 0)), (7, (pt b27 0)), (9, (pt b30 0)), (12, (pt b133 0)), (13, (.bool j215.1))] /\ LC j215.2.2.2.2.2.2.2.2.1.length nj215_8 /\ SlA AF F12 aj215_8 j215.2.2.2.2.2.2.2.2.1 /\ A8 Ax AQ F12 mb0_4 j215.2.2.2.2.2.2.2.2.2.1 ej215_9 /\ A8 AF Ar F12 mb0_5 j215.2.2.2.2.2.2.2.2.2.2 ej215_10) (fun wd210 hw211 => ?_) ?_
        ·refine Dv [0] ?_
         refine Dl 1 (fun _ hq => (hq.1.2 3 _ _ rfl)) <| Dv [2, 3, 4, 6] <| Dl 7 (fun _ hq => (hq.1.2 3 _ _ rfl)) <| D1 5 <| UG (l' := [true, true, true, true, true, true, true, true, false, false, false, false, false, false, false, false, false]) (zd := true) (by kernel_rfl) (by kernel_rfl) (dst := (some 81)) (ty := 55) (g := none) (by kernel_rfl) rfl (Bz (t := 55) (x := (.tmp 80)) (b := bp0) (o := 3) (g := false) (s := 1) (C := #[(.bool x0.o_.Report), (.bool x0.o_.Serial), (.bool x0.o_.Zone), (.slice a0_3 x0.lines_.length n0_3), (.map (some mb0_4)), (.map (some mb0_5))]) (v := (.slice a0_3 x0.lines_.length n0_3)) rfl (by kernel_rfl) hw211.at5 rfl rfl rfl) (Ba hw211 (Ux _) (by simp) (fun e => by cases e)) ?_
         obtain ⟨x225, hx226, h228⟩ := bind_some hj223
         obtain ⟨hi227, hx226'⟩ := As hx226
         obtain ⟨b229, o230, C231, E232, fz233, rfl, hF235, hE236⟩ := UE (Uz hs0_3 le108) hx226'
         have hc238 := hE236 _ _ hx226'
         refine Di 8 hi227 <| Dx 9 0 (fun _ hq => hq.1.1 _ _ hF235) hc238 <| D1 10 ?_
         obtain ⟨r239, hr240, h241⟩ := bind_some h228
         refine DCl Jv hw211 (KN N wd210 F6 hw211.pers x225 _ hr240) ?_
         rintro _ F13 w243 hs244 le245 rfl
         refine D1 11 ?_
         have hs247 := hs244.pk4.pk4.pk4.pk4.pk4
         obtain ⟨r248, hr249, h250⟩ := bind_some h241
         refine DCB CK (C2 N (hG.mono (le108.t le245)) bp0 x0 (some ⟨b229, o230, none⟩) n0_3 mb0_4 e0_4 mb0_5 e0_5 hb0_3 (Uz hs0_3 (le108.t le245)) (hr0_4.mono (le108.t le245)) (hr0_5.mono (le108.t le245)) x1 r239 hs247.pk7.pk7.pk7 _ hr249) ?_
         rintro _ F14 w251 _ hs252 le253 ⟨ar248_0_3, nr248_0_3, er248_0_4, er248_0_5, rfl, rfl, hbr248_0_3, hsr248_0_3, hrr248_0_4, hrr248_0_5⟩
         refine ⟨Ba hs252 (le245.t le253) (by simp) (zdT (by kernel_rfl)), ?_⟩
         refine Dv [12, 13, 14] <| D1 15 <| SS (Af r248.2.1) hs252 (le245.t le253) (fun w255 hs256 => ?_)
         refine Dv [16] ?_
         obtain rfl := Aa h250
         have hs257 := hs256.pk2.pk2.pk2.pk7.pk7
         exact UJ (by kernel_rfl) ⟨F14, ar248_0_3, nr248_0_3, er248_0_4, er248_0_5, hs257.pk7.pk7.pk7, (le245.t le253), fI, hbr248_0_3, hsr248_0_3, hrr248_0_4, hrr248_0_5⟩
        ·rintro f w212 ⟨F12, aj215_8, nj215_8, ej215_9, ej215_10, hs213, le214, ⟨_, rfl⟩, hbj215_8, hsj215_8, hrj215_9, hrj215_10⟩
         obtain rfl := Aa h224
         exact .inl ⟨rfl, F12, aj215_8, nj215_8, ej215_9, ej215_10, hs213, le214, fI, hbj215_8, hsj215_8, hrj215_9, hrj215_10⟩
       ·refine Sc ?_
        obtain rfl := Aa h209
        exact .inl ⟨rfl, F6, a0_3, n0_3, e0_4, e0_5, hs137, (Ux _), fI, hb0_3, (Uz hs0_3 le108), (hr0_4.mono le108), (hr0_5.mono le108)⟩
      ·rintro f w194 ⟨F11, aj197_8, nj197_8, ej197_9, ej197_10, hs195, le196, ⟨_, rfl⟩, hbj197_8, hsj197_8, hrj197_9, hrj197_10⟩
       obtain rfl := Aa h206
       exact .inl ⟨rfl, F11, aj197_8, nj197_8, ej197_9, ej197_10, hs195, le196, fI, hbj197_8, hsj197_8, hrj197_9, hrj197_10⟩
    ·rintro f w138 ⟨F8, aj141_8, nj141_8, ej141_9, ej141_10, hs139, le140, ⟨_, rfl⟩, hbj141_8, hsj141_8, hrj141_9, hrj141_10⟩
     refine Av <| Ab <| Sq (Rg (rG 5) ?_)
     refine Vs 1 <| Ld hs139.at4 <| Vs 2 <| St0 #[(vi (W64 (x1.at_ + 1))), (vi j141.2.2.1), (vi j141.2.2.2.1), (vi j141.2.2.2.2.1)] hs139 (fun w258 hs259 => ?_)
     refine Nss <| RD 6 6 [(sb b133 #[(vi (W64 (x1.at_ + 1))), (vi j141.2.2.1), (vi j141.2.2.2.1), (vi j141.2.2.2.2.1)] 143), (sb b30 #[(vi x2), (vi x1.at_), (sv (([] : UQ)))] 150), (sb b21 (Af x1) 143), (sb bp0 #[(.bool j141.2.2.2.2.2.1), (.bool j141.2.2.2.2.2.2.1), (.bool j141.2.2.2.2.2.2.2.1), (.slice aj141_8 j141.2.2.2.2.2.2.2.2.1.length nj141_8), (.map (some mb0_4)), (.map (some mb0_5))] 148), ej141_9, ej141_10] [] hs259 (fun f w => ∃ (F15 : Mem), HS wb Fb w F15 ((sb b27 #[(vi x2), (vi x1.at_), (sv (([] : UQ)))] 150) :: (sb b24 #[(vi (W64 (x1.at_ + 1))), (vi j141.2.2.1), (vi j141.2.2.2.1), (vi j141.2.2.2.2.1)] 143) :: (sb bp0 #[(.bool j141.2.2.2.2.2.1), (.bool j141.2.2.2.2.2.2.1), (.bool j141.2.2.2.2.2.2.2.1), (.slice aj141_8 j141.2.2.2.2.2.2.2.2.1.length nj141_8), (.map (some mb0_4)), (.map (some mb0_5))] 148) :: ej141_9 :: ej141_10 :: Lf) /\ Uw F8 F15 /\ FI f [] [(6, (pt b24 0)), (7, (pt b27 0)), (8, (.bool j141.1))]) (fun wd260 hw261 => ?_) ?_
     ·refine Dl 0 (fun _ hq => (hq.1.2 0 _ _ rfl)) ?_
      refine Dl 1 (fun _ hq => (hq.1.2 1 _ _ rfl)) <| Dv [2] <| D1 3 <| SS #[(vi (W64 (x1.at_ + 1))), (vi j141.2.2.1), (vi j141.2.2.2.1), (vi j141.2.2.2.2.1)] hw261 (Ux _) (fun w269 hs270 => ?_)
      refine D1 4 <| MR #[(vi x2), (vi x1.at_), (sv (([] : UQ)))] hs270 (Ux _) (fun w271 hs272 => ?_)
      refine Dv [5] ?_
      exact UJ (by kernel_rfl) ⟨F8, hs272.dr0.dr0.dr2, (Ux _), fI⟩
     ·rintro f w262 ⟨F15, hs263, le264, ⟨_, rfl⟩⟩
      refine Ab <| Rt ?_
      obtain rfl := Aa h150
      exact ⟨rfl, (.tuple #[(.agg #[(vi (W64 (x1.at_ + 1))), (vi j141.2.2.1), (vi j141.2.2.2.1), (vi j141.2.2.2.2.1)]), (.agg #[(vi x2), (vi x1.at_), (sv (([] : UQ)))]), (.bool j141.1)]), AR (l := [.cell 6 143, .cell 7 150, .tmp 8]) (by kernel_rfl) (vs := [(.agg #[(vi (W64 (x1.at_ + 1))), (vi j141.2.2.1), (vi j141.2.2.2.1), (vi j141.2.2.2.2.1)]), (.agg #[(vi x2), (vi x1.at_), (sv (([] : UQ)))]), (.bool j141.1)]) ⟨b24, 0, rfl, Am (t := 143) (g := true) (s := 4) (by kernel_rfl) hs263.at1 rfl (by decide), ⟨b27, 0, rfl, Am (t := 150) (g := true) (s := 3) (by kernel_rfl) hs263.at0 rfl (by decide), ⟨rfl, trivial⟩⟩⟩, F15, _, _, rfl, hs263.dr0.dr0, ((le108.t le140).trans le264), ⟨aj141_8, nj141_8, ej141_9, ej141_10, rfl, rfl, hbj141_8, (Uz hsj141_8 le264), (hrj141_9.mono le264), (hrj141_10.mono le264)⟩⟩
def JR (N : Nat) (x0 : Int) : Option Int :=
 ((idx ([0, 0, 1, 4, 6] : List Int) x0).bind fun c21 => some c21)
theorem Jt : Ag Tryz.prog 112 := fun _ _ => by kernel_rfl
theorem KM (N : Nat) (w0 : World) (F0 : Mem) (hF : US w0 F0) (x0 : Int) (r : Int) (h : JR N x0 = some r) :
  Calls Tryz.prog 112 ([(vi x0)] : List Value).toArray w0 (AB w0 F0 fun F' v => v = (vi r)) := by
 have hs0 := Uy hF
 refine Go 6 Tryz.func112 <| Sq (Rg [0] ?_)
 refine Vs 1 <| Nss (Rg (rG 4) ?_)
 refine V 3 204 (IC (t := 204) (parts := #[(2, (.const (vi 1))), (3, (.const (vi 4))), (4, (.const (vi 6)))]) (vs := [(2, (vi 1)), (3, (vi 4)), (4, (vi 6))]) rfl (cs := [(vi 0), (vi 0), (vi 1), (vi 4), (vi 6)]) (by kernel_rfl)) <| Vs 1 ?_
 obtain ⟨c21, hr22, h23⟩ := bind_some h
 refine V 5 3 (PH (t := 204) (E := 3) (len := 5) (x := (.tmp 3)) (y := (.tmp 4)) (k := .i64) (i := x0) (cs := (([0, 0, 1, 4, 6] : List Int)).map (fun x : Int => Value.int .i64 x)) (v := (vi c21)) rfl rfl (by kernel_rfl) (by kernel_rfl) rfl (Oz (f := (fun x : Int => Value.int .i64 x)) hr22)) <| Vs 1 <| Nt <| Rt ?_
 obtain rfl := Aa h23
 exact Re [(vi c21)] hs0 rfl
def Hg (N : Nat) (x0 : UQ) (x1 : (List D5)) (m30 : Al) (r36 : UQ) (r44 : UQ) (r52 : UQ) (r60 : UQ) (r68 : UQ) : (Int × Int × UQ) -> Option (BD (UQ × Int) (Int × Int × UQ)) := fun s95 =>
 (bif (decide (s95.2.1 < (x1.length : Int))) then ((idx x1 s95.2.1).bind fun x128 => ((bif (x128.At != s95.1) then none else (bif (decide (x128.Kind < 1)) then none else (bif (decide (x128.Kind > 4)) then none else (bif (!((x128.Kind == 4) == (x128.Text != ([] : UQ)))) then none else (bif (x128.Kind == 4) then ((Cn N ([r36, r44, r52, r60, r68]) x128.Text).bind fun r178 => (bif (!r178) then none else (bif (!(x128.Kind == 4)) then some (s95.1 == (m30.lines_.length : Int)) else some false))) else (bif (!(x128.Kind == 4)) then some (s95.1 == (m30.lines_.length : Int)) else some false)))))).bind fun j150 => (bif j150 then none else (bif (x128.Kind == 4) then ((CQ x128.Text ([10] : UQ)).bind fun r201 => ((IY s95.2.2 r201).bind fun t207 => some (.next (s95.1, (W64 (s95.2.1 + 1)), t207)))) else ((bif (x128.Kind == 1) then ((idx m30.lines_ s95.1).bind fun x233 => ((CQ x233 ([10] : UQ)).bind fun r247 => ((IY s95.2.2 r247).bind fun t253 => some t253))) else (bif (x128.Kind == 2) then ((idx m30.lines_ s95.1).bind fun x262 => ((JS N x262).bind fun r276 => ((CQ r276 ([10] : UQ)).bind fun r284 => ((IY s95.2.2 r284).bind fun t290 => some t290)))) else none)).bind fun j217 => some (.next ((W64 (s95.1 + 1)), (W64 (s95.2.1 + 1)), j217))))))) else some (.done (s95.1, s95.2.1, s95.2.2)))
def KG (N : Nat) (x0 : UQ) (x1 : (List D5)) : Option (UQ × Int) :=
 ((Gt N ({ Report := false, Serial := false, Zone := false } : Ac) x0).bind fun r21 => osk r21 (some (([] : UQ), 2)) (fun m30 => ((Ca N 1).bind fun r36 => ((Ca N 2).bind fun r44 => ((Ca N 3).bind fun r52 => ((Ca N 4).bind fun r60 => ((Ca N 5).bind fun r68 => ((A0 (Hg N x0 x1 m30 r36 r44 r52 r60 r68) N (0, 0, ([] : UQ))).bind fun o => o.k (fun r => some r) (fun s109 => (bif (decide (s109.1 < (m30.lines_.length : Int))) then none else some (s109.2.2, 0)))))))))))
theorem Ma : Ag Tryz.prog 44 := fun _ _ => by kernel_rfl
theorem MJ (N : Nat) (w0 : World) (F0 : Mem) (hF : US w0 F0) (hG : Br F0) (x0 : UQ) (x1 : (List D5)) (a1_0 : UR) (n1_0 : Nat) (hb1_0 : LC x1.length n1_0) (hs1_0 : SlA I3 F0 a1_0 x1) (r : (UQ × Int)) (h : KG N x0 x1 = some r) :
  Calls Tryz.prog 44 ([(sv x0), (.slice a1_0 x1.length n1_0)] : List Value).toArray w0 (AB w0 F0 fun F' v => v = (.tuple #[(sv r.1), (vi r.2)])) := by
 have hs0 := Uy hF
 refine Go 124 Tryz.func44 <| Sq (Rg [0, 1] ?_)
 refine Vs 2 <| Nss (Rg (rG 8) ?_)
 refine Vs 2 ?_
 obtain ⟨r21, hr22, h23⟩ := bind_some h
 refine RWP.callO (dst := (some 17)) (ty := 139) (g := none) (by kernel_rfl) rfl (f0 := (.func 108)) (aos := #[(.tmp 15), (.tmp 16)]) (ats := #[23, 9]) (fid := 108) (first := #[]) (cap := #[]) (args := [(.agg #[(.bool false), (.bool false), (.bool false)]), (sv x0)]) rfl GP rfl hs0 (HH N w0 F0 hs0.pers hG (({ Report := false, Serial := false, Zone := false } : Ac)) x0 _ hr22) ?_
 rintro v24 F1 w25 L29 hs26 le27 hp28
 rcases r21 with _ | m30
 ·obtain ⟨rfl, rfl⟩ := E8 hp28
  have h31 := SW h23
  have hs32 : HS w0 F0 w25 F1 [] := hs26
  refine Vs 5 <| Nss <| Sq (Rg [0, 1] ?_)
  refine Vs 2 <| Nt <| C1 (rfl : true = true) <| Sq (Rg [0, 1, 2] ?_)
  refine Vs 3 <| Nt <| Rt <| Aj ?_
  obtain rfl := Aa h31
  exact Re [(sv (([] : UQ))), (vi 2)] hs32 rfl
 ·obtain ⟨b33, am30_3, nm30_3, mbm30_4, em30_4, mbm30_5, em30_5, rfl, rfl, hbm30_3, hsm30_3, hrm30_4, hrm30_5⟩ := E7 hp28
  have h34 := SV h23
  have hs35 : HS w0 F0 w25 F1 [(sb b33 #[(.bool m30.o_.Report), (.bool m30.o_.Serial), (.bool m30.o_.Zone), (.slice am30_3 m30.lines_.length nm30_3), (.map (some mbm30_4)), (.map (some mbm30_5))] 148), em30_4, em30_5] := hs26
  refine Vs 5 <| Nss <| Sq (Rg [0, 1] ?_)
  refine Vs 2 <| Nt <| C0 (rfl : false = false) <| Sc <| Ab <| Sq (Rg (rG 7) ?_)
  obtain ⟨r36, hr37, h38⟩ := bind_some h34
  refine Cl' BQ hs35 (B1 N w25 F1 hs35.pers 1 _ hr37) ?_
  rintro _ F2 w40 hs41 le42 rfl
  obtain ⟨r44, hr45, h46⟩ := bind_some h38
  refine Cl' BQ hs41 (B1 N w40 F2 hs41.pers 2 _ hr45) ?_
  rintro _ F3 w48 hs49 le50 rfl
  obtain ⟨r52, hr53, h54⟩ := bind_some h46
  refine Cl' BQ hs49 (B1 N w48 F3 hs49.pers 3 _ hr53) ?_
  rintro _ F4 w56 hs57 le58 rfl
  obtain ⟨r60, hr61, h62⟩ := bind_some h54
  refine Cl' BQ hs57 (B1 N w56 F4 hs57.pers 4 _ hr61) ?_
  rintro _ F5 w64 hs65 le66 rfl
  obtain ⟨r68, hr69, h70⟩ := bind_some h62
  refine Cl' BQ hs65 (B1 N w64 F5 hs65.pers 5 _ hr69) ?_
  rintro _ F6 w72 hs73 le74 rfl
  refine Bs 9 [(sv r36), (sv r44), (sv r52), (sv r60), (sv r68)] hs73 (fun b76 w77 hs78 => ?_)
  have hr80 : Ap AF 9 F6 (some ⟨b76, 0, none⟩) 5 [r36, r44, r52, r60, r68] (some b76, .cells ([(sv r36), (sv r44), (sv r52), (sv r60), (sv r68)] : List Value).toArray 9 (0, 0)) := UM ⟨rfl, ⟨rfl, ⟨rfl, ⟨rfl, ⟨rfl, rfl⟩⟩⟩⟩⟩ (by simp)
  refine Vs 1 <| Nss (Rg [0] ?_)
  refine Al' 105 #[.pointer none, .slice none 0 0] hs78 (fun b81 w82 hs83 => ?_)
  obtain ⟨Lf84, hs85, hJ86⟩ := EP.new hs83
  have hs87 : HS w0 F0 w82 F6 ((some b76, .cells ([(sv r36), (sv r44), (sv r52), (sv r60), (sv r68)] : List Value).toArray 9 (0, 0)) :: (sb b33 #[(.bool m30.o_.Report), (.bool m30.o_.Serial), (.bool m30.o_.Zone), (.slice am30_3 m30.lines_.length nm30_3), (.map (some mbm30_4)), (.map (some mbm30_5))] 148) :: em30_4 :: em30_5 :: Lf84) := hs85
  refine Nss (Rg [0] ?_)
  refine Vs 1 <| Nss <| Sq (Rg [0, 1, 2] ?_)
  refine Vs 3 <| Nt ?_
  have hb91 := UK hr80
  obtain ⟨F7, hs88, le89, hs90⟩ := hs87.fr0 hr80
  obtain ⟨o92, ho93, h94⟩ := bind_some h70
  refine UD (fun f w => ∃ (s109 : (Int × Int × UQ)) (F9 : Mem) (Lf113 : Own), o92 = .done s109 /\ HS w0 F0 w F9 ((sb b33 #[(.bool m30.o_.Report), (.bool m30.o_.Serial), (.bool m30.o_.Zone), (.slice am30_3 m30.lines_.length nm30_3), (.map (some mbm30_4)), (.map (some mbm30_5))] 148) :: em30_4 :: em30_5 :: Lf113) /\ Uw F7 F9 /\ FI f [] [(6, (pt b33 0)), (9, (pt b81 0)), (10, (vi s109.1))] /\ EP b81 s109.2.2 F9 Lf113) ?_ ?_
  ·refine Bk ?_
   refine Uv (by kernel_rfl) (fun m f w => ∃ (s95 : (Int × Int × UQ)) (F8 : Mem) (Lf99 : Own), A0 (Hg N x0 x1 m30 r36 r44 r52 r60 r68) m s95 = some o92 /\ HS w0 F0 w F8 ((sb b33 #[(.bool m30.o_.Report), (.bool m30.o_.Serial), (.bool m30.o_.Zone), (.slice am30_3 m30.lines_.length nm30_3), (.map (some mbm30_4)), (.map (some mbm30_5))] 148) :: em30_4 :: em30_5 :: Lf99) /\ Uw F7 F8 /\ FI f [] [(6, (pt b33 0)), (8, (.slice (some ⟨b76, 0, none⟩) [r36, r44, r52, r60, r68].length 5)), (9, (pt b81 0)), (10, (vi s95.1)), (29, (.slice a1_0 x1.length n1_0)), (30, (vi (x1.length : Int))), (31, (vi s95.2.1))] /\ EP b81 s95.2.2 F8 Lf99) N ⟨(0, 0, ([] : UQ)), F7, Lf84, ho93, hs88, (Ux _), fI, (EP.mono _ _ _ _ hJ86 le89)⟩ ?_
   rintro m119 f w96 ⟨s95, F8, Lf99, hit120, hs97, le98, ⟨_, rfl⟩, hJ100⟩
   obtain ⟨m121, fl122, rfl, hb123, hnx124⟩ := AU hit120
   refine Sq (Rg [0] ?_)
   refine Vs 1 <| Nss <| Cd hb123 (fun hb125 h126 => ?_) (fun hb125 h127 => ?_)
   ·refine Sc ?_
    refine Ab <| Sq <| Bk <| Sq (Rg (rG 4) ?_)
    obtain ⟨x128, hx129, h131⟩ := bind_some h126
    obtain ⟨hi130, hx129'⟩ := As hx129
    obtain ⟨b132, o133, C134, E135, fz136, rfl, hF138, hE139⟩ := UE (Uz hs1_0 (((((((le27.t le42).trans le50).trans le58).trans le66).trans le74).trans le89).trans le98)) hx129'
    have hc141 := hE139 _ _ hx129'
    refine Ix hi130 <| Lx 0 (hs97.pers _ _ hF138) hc141 <| Al' 150 #[(vi 0), (vi 0), (sv (([] : UQ)))] hs97 (fun b142 w143 hs144 => ?_)
    refine St0 (Fl x128) hs144 (fun w145 hs146 => ?_)
    refine Nss (Rg (rG 4) ?_)
    refine Vs 1 <| Ld hs146.at0 <| Vs 2 <| Nss <| Sq (Rg (rG 44) ?_)
    obtain ⟨j150, hj161, h162⟩ := bind_some h131
    refine UC (fun f w => ∃ (F10 : Mem), HS w0 F0 w F10 ((sb b142 (Fl x128) 150) :: (sb b33 #[(.bool m30.o_.Report), (.bool m30.o_.Serial), (.bool m30.o_.Zone), (.slice am30_3 m30.lines_.length nm30_3), (.map (some mbm30_4)), (.map (some mbm30_5))] 148) :: em30_4 :: em30_5 :: Lf99) /\ Uw F8 F10 /\ FI f [] [(6, (pt b33 0)), (8, (.slice (some ⟨b76, 0, none⟩) [r36, r44, r52, r60, r68].length 5)), (9, (pt b81 0)), (10, (vi s95.1)), (12, (pt b142 0)), (29, (.slice (some ⟨b132, o133, none⟩) x1.length n1_0)), (30, (vi (x1.length : Int))), (31, (vi s95.2.1)), (81, (.bool j150))]) ?_ ?_
    ·refine Vs 1 ?_
     refine Ld hs146.at0 <| Vs 3 <| Sp hj161 (fun hb163 h164 => ?_) (fun hb163 h165 => ?_)
     ·cases h164
     ·refine Vgs hb163 1 ?_
      refine Lg hb163 hs146.at0 <| Vgs hb163 1 <| Pk0 hb163 <| Vs 1 <| Sp h165 (fun hb166 h167 => ?_) (fun hb166 h168 => ?_)
      ·cases h167
      ·refine Vgs hb166 1 ?_
       refine Lg hb166 hs146.at0 <| Vgs hb166 1 <| Pk0 hb166 <| Vs 1 <| Sp h168 (fun hb169 h170 => ?_) (fun hb169 h171 => ?_)
       ·cases h170
       ·refine Vgs hb169 2 ?_
        refine Lg hb169 hs146.at0 <| Vgs hb169 2 <| Pk0 hb169 <| Vs 1 <| Sp h171 (fun hb172 h173 => ?_) (fun hb172 h174 => ?_)
        ·cases h173
        ·refine Vgs hb172 2 ?_
         refine Sp h174 (fun hb175 h176 => ?_) (fun hb175 h177 => ?_)
         ·refine Vgs hb175 2 ?_
          refine Lg hb175 hs146.at0 ?_
          obtain ⟨r178, hr179, h180⟩ := bind_some h176
          refine Cg hb175 DW hs146 (D7 N w145 F8 hs146.pers ([r36, r44, r52, r60, r68]) (some ⟨b76, 0, none⟩) 5 hb91 (Uz hs90 le98) x128.Text _ hr179) ?_
          rintro _ F11 w182 hs183 le184 rfl
          refine Vgs hb175 1 <| Pg1 hb172 hb175 <| Pk0 hb172 <| Vs 1 <| Sp h180 (fun hb186 h187 => ?_) (fun hb186 h188 => ?_)
          ·cases h187
          ·refine Vgs hb186 3 ?_
           refine Sp h188 (fun hb189 h190 => ?_) (fun hb189 h191 => ?_)
           ·refine Vgs hb189 4 ?_
            refine Lg hb189 hs183.at1 <| Vgs hb189 2 <| Pg1 hb186 hb189 <| Pk0 hb186 ?_
            obtain rfl := Aa h190
            exact Us ⟨rfl, F11, hs183, le184, fI⟩
           ·refine Ss hb189 7 ?_
            refine Pg0 hb186 hb189 <| Pk0 hb186 ?_
            obtain rfl := Aa h191
            exact Us ⟨rfl, F11, hs183, le184, fI⟩
         ·refine Ss hb175 5 ?_
          refine Pg0 hb172 hb175 <| Pk0 hb172 <| Vs 1 <| Vg 70 4 31 false 69 rfl (mv 13 (.bool (x128.Kind == 4))) <| Vg 71 4 31 false 69 rfl (Nl (t := 4) (x := (.tmp 70)) (a := (x128.Kind == 4)) rfl) <| Vg 72 4 31 false 69 rfl (mv 71 (.bool (!(x128.Kind == 4)))) <| Sp h177 (fun hb192 h193 => ?_) (fun hb192 h194 => ?_)
          ·refine Vgs hb192 4 ?_
           refine Lg hb192 hs146.at1 <| Vgs hb192 2 <| Vg 80 4 31 false 69 rfl (p1 72 (.tmp 79) (.const (.bool false)) (.bool (s95.1 == (m30.lines_.length : Int))) hb192) <| Pk0 (rfl : false = false) ?_
           obtain rfl := Aa h193
           exact Us ⟨rfl, F8, hs146, (Ux _), fI⟩
          ·refine Ss hb192 7 ?_
           refine Vg 80 4 31 false 69 rfl (p0 72 (.tmp 79) (.const (.bool false)) (.bool false) hb192) <| Pk0 (rfl : false = false) ?_
           obtain rfl := Aa h194
           exact Us ⟨rfl, F8, hs146, (Ux _), fI⟩
    ·rintro f w147 ⟨F10, hs148, le149, ⟨_, rfl⟩⟩
     refine Ab <| Cd h162 (fun hb195 h196 => ?_) (fun hb195 h197 => ?_)
     ·cases h196
     ·refine Sc ?_
      refine Ab <| Sq <| Sq (Rg [0, 1] ?_)
      refine Vs 1 <| Ld hs148.at0 <| Nt <| Bk <| Sq (Rg [0, 1] ?_)
      refine Vs 2 <| Nt <| Cd h197 (fun hb198 h199 => ?_) (fun hb198 h200 => ?_)
      ·refine Sq (Rg (rG 4) ?_)
       refine Vs 1 <| Ld hs148.at0 ?_
       obtain ⟨r201, hr202, h203⟩ := bind_some h199
       refine V 88 9 (AO (t := 9) (t' := 9) (x := (.tmp 87)) (y := (.const (sv ([10] : UQ)))) (a := x128.Text) (b := ([10] : UQ)) (v := r201) rfl rfl hr202) ?_
       obtain ⟨t207, ht208, h209⟩ := bind_some h203
       refine CB Bj (DB (L := [(sb b142 (Fl x128) 150), (sb b33 #[(.bool m30.o_.Report), (.bool m30.o_.Serial), (.bool m30.o_.Zone), (.slice am30_3 m30.lines_.length nm30_3), (.map (some mbm30_4)), (.map (some mbm30_5))] 148), em30_4, em30_5]) ht208 (EP.mono _ _ _ _ hJ100 le149) hs148) ?_
       rintro _ F12 w204 _ hs205 le206 ⟨rfl, Lf210, rfl, hJ211⟩
       have hs212 : HS w0 F0 w204 F12 ((sb b142 (Fl x128) 150) :: (sb b33 #[(.bool m30.o_.Report), (.bool m30.o_.Serial), (.bool m30.o_.Zone), (.slice am30_3 m30.lines_.length nm30_3), (.map (some mbm30_4)), (.map (some mbm30_5))] 148) :: em30_4 :: em30_5 :: Lf210) := hs205
       refine Nt <| Ex <| KO (by decide) <| Au <| AA rfl <| Ab <| Rg [0, 1] <| Vs 2 <| Us ?_
       have hn213 := AV h209 hnx124
       exact ⟨m121, Nat.lt_succ_self _, (s95.1, (W64 (s95.2.1 + 1)), t207), F12, Lf210, hn213, hs212.dr0, ((le98.t le149).trans le206), fI, hJ211⟩
      ·refine Sq (Rg [0, 1] ?_)
       refine Vs 2 <| Nt ?_
       obtain ⟨j217, hj228, h229⟩ := bind_some h200
       refine UD (fun f w => ∃ (F13 : Mem) (Lf218 : Own), HS w0 F0 w F13 ((sb b33 #[(.bool m30.o_.Report), (.bool m30.o_.Serial), (.bool m30.o_.Zone), (.slice am30_3 m30.lines_.length nm30_3), (.map (some mbm30_4)), (.map (some mbm30_5))] 148) :: em30_4 :: em30_5 :: Lf218) /\ Uw F10 F13 /\ FI f [] [(6, (pt b33 0)), (8, (.slice (some ⟨b76, 0, none⟩) [r36, r44, r52, r60, r68].length 5)), (9, (pt b81 0)), (10, (vi s95.1)), (29, (.slice (some ⟨b132, o133, none⟩) x1.length n1_0)), (30, (vi (x1.length : Int))), (31, (vi s95.2.1))] /\ EP b81 j217 F13 Lf218) ?_ ?_
       ·refine Cd hj228 (fun hb230 h231 => ?_) (fun hb230 h232 => ?_)
        ·refine Rg (rG 9) ?_
         refine Vs 3 <| Ld hs148.at1 <| Vs 1 ?_
         obtain ⟨x233, hx234, h236⟩ := bind_some h231
         obtain ⟨hi235, hx234'⟩ := As hx234
         obtain ⟨b237, o238, C239, E240, fz241, rfl, hF243, hE244⟩ := UE (Uz hsm30_3 (((((((le42.t le50).trans le58).trans le66).trans le74).trans le89).trans le98).trans le149)) hx234'
         have hc246 := hE244 _ _ hx234'
         refine Ix hi235 <| Lx 0 (hs148.pers _ _ hF243) hc246 ?_
         obtain ⟨r247, hr248, h249⟩ := bind_some h236
         refine V 99 9 (AO (t := 9) (t' := 9) (x := (.tmp 98)) (y := (.const (sv ([10] : UQ)))) (a := x233) (b := ([10] : UQ)) (v := r247) rfl rfl hr248) ?_
         obtain ⟨t253, ht254, h255⟩ := bind_some h249
         refine CB Bj (DB (L := [(sb b142 (Fl x128) 150), (sb b33 #[(.bool m30.o_.Report), (.bool m30.o_.Serial), (.bool m30.o_.Zone), (.slice (some ⟨b237, o238, none⟩) m30.lines_.length nm30_3), (.map (some mbm30_4)), (.map (some mbm30_5))] 148), em30_4, em30_5]) ht254 (EP.mono _ _ _ _ hJ100 le149) hs148) ?_
         rintro _ F14 w250 _ hs251 le252 ⟨rfl, Lf256, rfl, hJ257⟩
         have hs258 : HS w0 F0 w250 F14 ((sb b142 (Fl x128) 150) :: (sb b33 #[(.bool m30.o_.Report), (.bool m30.o_.Serial), (.bool m30.o_.Zone), (.slice (some ⟨b237, o238, none⟩) m30.lines_.length nm30_3), (.map (some mbm30_4)), (.map (some mbm30_5))] 148) :: em30_4 :: em30_5 :: Lf256) := hs251
         refine Us ?_
         obtain rfl := Aa h255
         exact .inl ⟨rfl, F14, Lf256, hs258.dr0, le252, fI, hJ257⟩
        ·refine Sq (Rg [0, 1] ?_)
         refine Vs 2 <| Nt <| Cd h232 (fun hb259 h260 => ?_) (fun hb259 h261 => ?_)
         ·refine Rg (rG 10) ?_
          refine Vs 3 <| Ld hs148.at1 <| Vs 1 ?_
          obtain ⟨x262, hx263, h265⟩ := bind_some h260
          obtain ⟨hi264, hx263'⟩ := As hx263
          obtain ⟨b266, o267, C268, E269, fz270, rfl, hF272, hE273⟩ := UE (Uz hsm30_3 (((((((le42.t le50).trans le58).trans le66).trans le74).trans le89).trans le98).trans le149)) hx263'
          have hc275 := hE273 _ _ hx263'
          refine Ix hi264 <| Lx 0 (hs148.pers _ _ hF272) hc275 ?_
          obtain ⟨r276, hr277, h278⟩ := bind_some h265
          refine Cl' Jv hs148 (KN N w147 F10 hs148.pers x262 _ hr277) ?_
          rintro _ F15 w280 hs281 le282 rfl
          obtain ⟨r284, hr285, h286⟩ := bind_some h278
          refine V 111 9 (AO (t := 9) (t' := 9) (x := (.tmp 110)) (y := (.const (sv ([10] : UQ)))) (a := r276) (b := ([10] : UQ)) (v := r284) rfl rfl hr285) ?_
          obtain ⟨t290, ht291, h292⟩ := bind_some h286
          refine CB Bj (DB (L := [(sb b142 (Fl x128) 150), (sb b33 #[(.bool m30.o_.Report), (.bool m30.o_.Serial), (.bool m30.o_.Zone), (.slice (some ⟨b266, o267, none⟩) m30.lines_.length nm30_3), (.map (some mbm30_4)), (.map (some mbm30_5))] 148), em30_4, em30_5]) ht291 (EP.mono _ _ _ _ hJ100 (le149.t le282)) hs281) ?_
          rintro _ F16 w287 _ hs288 le289 ⟨rfl, Lf293, rfl, hJ294⟩
          have hs295 : HS w0 F0 w287 F16 ((sb b142 (Fl x128) 150) :: (sb b33 #[(.bool m30.o_.Report), (.bool m30.o_.Serial), (.bool m30.o_.Zone), (.slice (some ⟨b266, o267, none⟩) m30.lines_.length nm30_3), (.map (some mbm30_4)), (.map (some mbm30_5))] 148) :: em30_4 :: em30_5 :: Lf293) := hs288
          refine Us ?_
          obtain rfl := Aa h292
          exact .inl ⟨rfl, F16, Lf293, hs295.dr0, (le282.t le289), fI, hJ294⟩
         ·cases h261
       ·rintro f w214 ⟨F13, Lf218, hs215, le216, ⟨_, rfl⟩, hJ219⟩
        refine Av <| Ab <| Rg [0, 1, 2] <| Vs 3 <| Us <| Av <| Ab <| Rg [0, 1] <| Vs 2 <| Us ?_
        have hn296 := AV h229 hnx124
        exact ⟨m121, Nat.lt_succ_self _, ((W64 (s95.1 + 1)), (W64 (s95.2.1 + 1)), j217), F13, Lf218, hn296, hs215, ((le98.t le149).trans le216), fI, hJ219⟩
   ·refine Ex ?_
    refine Au <| Au <| AA rfl ?_
    have ho297 := AW h127 hnx124
    exact .inl ⟨rfl, (s95.1, s95.2.1, s95.2.2), F8, Lf99, ho297, hs97, le98, fI, hJ100⟩
  ·rintro f w110 ⟨s109, F9, Lf113, rfl, hs111, le112, ⟨_, rfl⟩, hJ114⟩
   have h298 := BL h94
   refine Ab <| Sq <| Sq (Rg (rG 7) ?_)
   refine Vs 4 <| Ld hs111.at0 <| Vs 2 <| Nt <| Cd h298 (fun hb299 h300 => ?_) (fun hb299 h301 => ?_)
   ·cases h300
   ·refine Sc ?_
    refine Ab <| Sq (Rg [0, 1, 2] ?_)
    refine CB Md (Nc (L := [(sb b33 #[(.bool m30.o_.Report), (.bool m30.o_.Serial), (.bool m30.o_.Zone), (.slice am30_3 m30.lines_.length nm30_3), (.map (some mbm30_4)), (.map (some mbm30_5))] 148), em30_4, em30_5]) hJ114 hs111) ?_
    rintro _ _ w302 _ hs303 _ ⟨rfl, rfl, rfl⟩
    refine Vs 2 <| Nt <| Rt ?_
    obtain rfl := Aa h301
    exact Re [(sv s109.2.2), (vi 0)] hs303 rfl
def NZ (sR109 : Al -> An -> Option (Al × Int)) : Prop := ∀ {wb w0 : World} {Fb F0 : Mem} {Lf : Own} (hG : Br F0) (bp0 : Nat) (x0 : Al) (a0_3 : UR) (n0_3 : Nat) (mb0_4 : Nat) (e0_4 : Option Nat × Obj) (mb0_5 : Nat) (e0_5 : Option Nat × Obj) (hb0_3 : LC x0.lines_.length n0_3) (hs0_3 : SlA AF F0 a0_3 x0.lines_) (hr0_4 : A8 Ax AQ F0 mb0_4 x0.known_ e0_4) (hr0_5 : A8 AF Ar F0 mb0_5 x0.read_ e0_5) (x1 : An) (hs0 : HS wb Fb w0 F0 ((some bp0, (.cells #[(.bool x0.o_.Report), (.bool x0.o_.Serial), (.bool x0.o_.Zone), (.slice a0_3 x0.lines_.length n0_3), (.map (some mb0_4)), (.map (some mb0_5))] 148 (0, 0))) :: e0_4 :: e0_5 :: Lf)) (r : (Al × Int)), sR109 x0 x1 = some r -> Calls Tryz.prog 109 ([(.pointer (some ⟨bp0, 0, none⟩)), (.agg #[(.int .i64 x1.at_), (.int .i64 x1.stage_), (.int .i64 x1.num_), (.int .i64 x1.minute_)])] : List Value).toArray w0 (Ed wb Fb F0 fun F' v L' => ∃ (aq0_3 : UR) (nq0_3 : Nat) (eq0_4 : Option Nat × Obj) (eq0_5 : Option Nat × Obj), v = (.int .i64 r.2) /\ L' = (some bp0, (.cells #[(.bool r.1.o_.Report), (.bool r.1.o_.Serial), (.bool r.1.o_.Zone), (.slice aq0_3 r.1.lines_.length nq0_3), (.map (some mb0_4)), (.map (some mb0_5))] 148 (0, 0))) :: eq0_4 :: eq0_5 :: Lf /\ LC r.1.lines_.length nq0_3 /\ SlA AF F' aq0_3 r.1.lines_ /\ A8 Ax AQ F' mb0_4 r.1.known_ eq0_4 /\ A8 AF Ar F' mb0_5 r.1.read_ eq0_5)
theorem B7 : Ag Tryz.prog 109 := fun _ _ => by kernel_rfl
def Er (N : Nat) (sR109 : Al -> An -> Option (Al × Int)) (x0 : Al) (x1 : An) : (Int × Int × Bool × Bool × Bool × List UQ × List (An × Int) × List (UQ × Aq)) -> Option (BD (Al × Int) (Int × Int × Bool × Bool × Bool × List UQ × List (An × Int) × List (UQ × Aq))) := fun s53 =>
 (bif (decide (s53.2.1 <= 4)) then ((Ea N ({ o_ := ({ Report := s53.2.2.1, Serial := s53.2.2.2.1, Zone := s53.2.2.2.2.1 } : Ac), lines_ := s53.2.2.2.2.2.1, known_ := s53.2.2.2.2.2.2.1, read_ := s53.2.2.2.2.2.2.2 } : Al) x1 s53.2.1).bind fun r79 => ((bif r79.2.2.2 then (((JR N s53.2.1).bind fun r123 => ((sR109 r79.1 r79.2.1).bind fun r132 => some ((min s53.1 (W64 (r123 + r132.2))), r132.1.o_.Report, r132.1.o_.Serial, r132.1.o_.Zone, r132.1.lines_, r132.1.known_, r132.1.read_))).bind fun j115 => some (j115.1, j115.2.1, j115.2.2.1, j115.2.2.2.1, j115.2.2.2.2.1, j115.2.2.2.2.2.1, j115.2.2.2.2.2.2)) else some (s53.1, r79.1.o_.Report, r79.1.o_.Serial, r79.1.o_.Zone, r79.1.lines_, r79.1.known_, r79.1.read_)).bind fun j99 => some (.next (j99.1, (W64 (s53.2.1 + 1)), j99.2.1, j99.2.2.1, j99.2.2.2.1, j99.2.2.2.2.1, j99.2.2.2.2.2.1, j99.2.2.2.2.2.2)))) else some (.done (s53.1, s53.2.1, s53.2.2.1, s53.2.2.2.1, s53.2.2.2.2.1, s53.2.2.2.2.2.1, s53.2.2.2.2.2.2.1, s53.2.2.2.2.2.2.2)))
def EE (N : Nat) (sR109 : Al -> An -> Option (Al × Int)) (x0 : Al) (x1 : An) : Option (Al × Int) :=
 (bif ((x1.at_ == (x0.lines_.length : Int)) && (x1.stage_ == 6)) then some (x0, 0) else (bif (Nz x0.known_ x1) then some (x0, (Dm x0.known_ x1 0)) else ((A0 (Er N sR109 x0 x1) N (1099511627776, 1, x0.o_.Report, x0.o_.Serial, x0.o_.Zone, x0.lines_, x0.known_, x0.read_)).bind fun o => o.k (fun r => some r) (fun s62 => ((some (Mu s62.2.2.2.2.2.2.1 x1 s62.1)).bind fun j147 => some (({ o_ := ({ Report := s62.2.2.1, Serial := s62.2.2.2.1, Zone := s62.2.2.2.2.1 } : Ac), lines_ := s62.2.2.2.2.2.1, known_ := j147, read_ := s62.2.2.2.2.2.2.2 } : Al), s62.1))))))
theorem HK (N : Nat) (sR109 : Al -> An -> Option (Al × Int)) (hsR109 : NZ sR109) {wb w0 : World} {Fb F0 : Mem} {Lf : Own} (hG : Br F0) (bp0 : Nat) (x0 : Al) (a0_3 : UR) (n0_3 : Nat) (mb0_4 : Nat) (e0_4 : Option Nat × Obj) (mb0_5 : Nat) (e0_5 : Option Nat × Obj) (hb0_3 : LC x0.lines_.length n0_3) (hs0_3 : SlA AF F0 a0_3 x0.lines_) (hr0_4 : A8 Ax AQ F0 mb0_4 x0.known_ e0_4) (hr0_5 : A8 AF Ar F0 mb0_5 x0.read_ e0_5) (x1 : An) (hs0 : HS wb Fb w0 F0 ((sb bp0 #[(.bool x0.o_.Report), (.bool x0.o_.Serial), (.bool x0.o_.Zone), (.slice a0_3 x0.lines_.length n0_3), (.map (some mb0_4)), (.map (some mb0_5))] 148) :: e0_4 :: e0_5 :: Lf)) (r : (Al × Int)) (h : EE N sR109 x0 x1 = some r) :
  Calls Tryz.prog 109 ([(pt bp0 0), (.agg (Af x1))] : List Value).toArray w0 (Ed wb Fb F0 fun F' v L' => ∃ (aq0_3 : UR) (nq0_3 : Nat) (eq0_4 : Option Nat × Obj) (eq0_5 : Option Nat × Obj), v = (vi r.2) /\ L' = (sb bp0 #[(.bool r.1.o_.Report), (.bool r.1.o_.Serial), (.bool r.1.o_.Zone), (.slice aq0_3 r.1.lines_.length nq0_3), (.map (some mb0_4)), (.map (some mb0_5))] 148) :: eq0_4 :: eq0_5 :: Lf /\ LC r.1.lines_.length nq0_3 /\ SlA AF F' aq0_3 r.1.lines_ /\ A8 Ax AQ F' mb0_4 r.1.known_ eq0_4 /\ A8 AF Ar F' mb0_5 r.1.read_ eq0_5) := by
 refine Go 64 Tryz.func109 <| Sq (Rg [0, 1] ?_)
 refine Bx' 143 (Af x1) hs0 (fun b21 w22 hs23 => ?_)
 refine Vs 1 <| Nss <| Sq <| RD 13 13 [(sb b21 (Af x1) 143), (sb bp0 #[(.bool x0.o_.Report), (.bool x0.o_.Serial), (.bool x0.o_.Zone), (.slice a0_3 x0.lines_.length n0_3), (.map (some mb0_4)), (.map (some mb0_5))] 148), e0_4, e0_5] [] hs23 (fun f w => ∃ (F1 : Mem), HS wb Fb w F1 ((sb b21 (Af x1) 143) :: (sb bp0 #[(.bool x0.o_.Report), (.bool x0.o_.Serial), (.bool x0.o_.Zone), (.slice a0_3 x0.lines_.length n0_3), (.map (some mb0_4)), (.map (some mb0_5))] 148) :: e0_4 :: e0_5 :: Lf) /\ Uw F0 F1 /\ FI f [] [(0, (pt bp0 0)), (3, (pt b21 0)), (24, (.bool ((x1.at_ == (x0.lines_.length : Int)) && (x1.stage_ == 6))))]) (fun wd24 hw25 => ?_) ?_
 ·refine Dv [0] ?_
  refine Dl 1 (fun _ hq => (hq.1.2 0 _ _ rfl)) <| Dv [2, 3, 4] <| Dl 5 (fun _ hq => (hq.1.2 1 _ _ rfl)) <| Dv [6, 7, 8] <| DWP.split (x1.at_ == (x0.lines_.length : Int)) (fun hb33 => ?_) (fun hb33 => ?_)
  ·refine Dg 9 21 0 (pt b21 1) 8 true 20 hb33 (fun _ hq => fa 143 3 1 1 1 b21 0 1) ?_
   refine Dg 10 22 3 _ 8 true 20 hb33 (fun _ hq => ld 3 21 b21 1 false 1 (vi x1.stage_) (hq.1.2 0 _ _ rfl)) <| Dg 11 23 4 (.bool (x1.stage_ == 6)) 8 true 20 hb33 (fun _ hq => I8 (t := 3) (t' := 3) (x := (.tmp 22)) (y := (.const (vi 6))) (k := .i64) (a := x1.stage_) (b := 6) rfl rfl) <| Dt 12 24 4 _ (fun _ hq => p1 20 (.tmp 23) (.const (.bool false)) (.bool (x1.stage_ == 6)) hb33) ?_
   exact UJ (by kernel_rfl) ⟨F0, hw25, (Ux _), (fJ ⟨rfl, rfl, (congrArg Value.bool (JH hb33 rfl)), trivial⟩)⟩
  ·refine Dk [(9, 21), (10, 22), (11, 23)] 8 true 20 hb33 ?_
   refine Dt 12 24 4 _ (fun _ hq => p0 20 (.tmp 23) (.const (.bool false)) (.bool false) hb33) ?_
   exact UJ (by kernel_rfl) ⟨F0, hw25, (Ux _), (fJ ⟨rfl, rfl, (congrArg Value.bool (KP hb33 rfl)), trivial⟩)⟩
 ·rintro f w26 ⟨F1, hs27, le28, ⟨_, rfl⟩⟩
  refine Ab <| Cd h (fun hb34 h35 => ?_) (fun hb34 h36 => ?_)
  ·refine Sq (Rg [0] ?_)
   refine Vs 1 <| Nt <| Rt <| Aj ?_
   obtain rfl := Aa h35
   exact ReB [(vi 0)] hs27.dr0 le28 ⟨a0_3, n0_3, e0_4, e0_5, rfl, rfl, hb0_3, (Uz hs0_3 le28), (hr0_4.mono le28), (hr0_5.mono le28)⟩
  ·refine Sc ?_
   refine Ab <| Sq <| Sq <| RD 11 11 [(sb b21 (Af x1) 143), (sb bp0 #[(.bool x0.o_.Report), (.bool x0.o_.Serial), (.bool x0.o_.Zone), (.slice a0_3 x0.lines_.length n0_3), (.map (some mb0_4)), (.map (some mb0_5))] 148), e0_4, e0_5] [] hs27 (fun f w => ∃ (F2 : Mem), HS wb Fb w F2 ((sb b21 (Af x1) 143) :: (sb bp0 #[(.bool x0.o_.Report), (.bool x0.o_.Serial), (.bool x0.o_.Zone), (.slice a0_3 x0.lines_.length n0_3), (.map (some mb0_4)), (.map (some mb0_5))] 148) :: e0_4 :: e0_5 :: Lf) /\ Uw F1 F2 /\ FI f [] [(0, (pt bp0 0)), (3, (pt b21 0)), (5, (vi (Dm x0.known_ x1 0))), (6, (.bool (Nz x0.known_ x1)))]) (fun wd37 hw38 => ?_) ?_
   ·refine Dv [0, 1, 2] ?_
    refine Dl 3 (fun _ hq => (hq.1.2 1 _ _ rfl)) <| Dl 4 (fun _ hq => (hq.1.2 0 _ _ rfl)) <| Dt 5 31 119 (.tuple #[(vi (Dm x0.known_ x1 0)), (.bool (Nz x0.known_ x1))]) (fun _ hq => LJ (mt := 145) (k := 143) (vt := 3) (m := (.tmp 29)) (x := (.tmp 30)) (kv := (.agg (Af x1))) (kx := x1) (z := (vi 0)) (zx := 0) (K := Ax) (T := AQ) SY rfl rfl ⟨_, rfl, rfl⟩ (by kernel_rfl) (by kernel_rfl) ⟨_, rfl, rfl⟩ (A8.mpwD (i := 2) hq.1 rfl (hr0_4.mono le28)) (fun h => by obtain ⟨_, rfl, rfl⟩ := h; rfl)) <| Dv [6, 7, 8, 9, 10] ?_
    exact UJ (by kernel_rfl) ⟨F1, hw38, (Ux _), fI⟩
   ·rintro f w39 ⟨F2, hs40, le41, ⟨_, rfl⟩⟩
    refine Ab <| Sq (Rg [0] ?_)
    refine Vs 1 <| Nt <| Cd h36 (fun hb47 h48 => ?_) (fun hb47 h49 => ?_)
    ·refine Sq (Rg [0, 1] ?_)
     refine Vs 2 <| Nt <| Rt <| Aj ?_
     obtain rfl := Aa h48
     exact ReB [(vi (Dm x0.known_ x1 0))] hs40.dr0 (le28.t le41) ⟨a0_3, n0_3, e0_4, e0_5, rfl, rfl, hb0_3, (Uz hs0_3 (le28.t le41)), (hr0_4.mono (le28.t le41)), (hr0_5.mono (le28.t le41))⟩
    ·refine Sc ?_
     refine Ab <| Sq (Rg [0] ?_)
     refine Vs 1 <| Nss <| Sq (Rg [0] ?_)
     refine Vs 1 <| Nt ?_
     obtain ⟨o50, ho51, h52⟩ := bind_some h49
     refine UD (fun f w => ∃ (s62 : (Int × Int × Bool × Bool × Bool × List UQ × List (An × Int) × List (UQ × Aq))) (F4 : Mem) (as62_5 : UR) (ns62_5 : Nat) (es62_6 : Option Nat × Obj) (es62_7 : Option Nat × Obj), o50 = .done s62 /\ HS wb Fb w F4 ((sb b21 (Af x1) 143) :: (sb bp0 #[(.bool s62.2.2.1), (.bool s62.2.2.2.1), (.bool s62.2.2.2.2.1), (.slice as62_5 s62.2.2.2.2.2.1.length ns62_5), (.map (some mb0_4)), (.map (some mb0_5))] 148) :: es62_6 :: es62_7 :: Lf) /\ Uw F2 F4 /\ FI f [] [(0, (pt bp0 0)), (3, (pt b21 0)), (7, (vi s62.1))] /\ LC s62.2.2.2.2.2.1.length ns62_5 /\ SlA AF F4 as62_5 s62.2.2.2.2.2.1 /\ A8 Ax AQ F4 mb0_4 s62.2.2.2.2.2.2.1 es62_6 /\ A8 AF Ar F4 mb0_5 s62.2.2.2.2.2.2.2 es62_7) ?_ ?_
     ·refine Bk ?_
      refine Uv (by kernel_rfl) (fun m f w => ∃ (s53 : (Int × Int × Bool × Bool × Bool × List UQ × List (An × Int) × List (UQ × Aq))) (F3 : Mem) (as53_5 : UR) (ns53_5 : Nat) (es53_6 : Option Nat × Obj) (es53_7 : Option Nat × Obj), A0 (Er N sR109 x0 x1) m s53 = some o50 /\ HS wb Fb w F3 ((sb b21 (Af x1) 143) :: (sb bp0 #[(.bool s53.2.2.1), (.bool s53.2.2.2.1), (.bool s53.2.2.2.2.1), (.slice as53_5 s53.2.2.2.2.2.1.length ns53_5), (.map (some mb0_4)), (.map (some mb0_5))] 148) :: es53_6 :: es53_7 :: Lf) /\ Uw F2 F3 /\ FI f [] [(0, (pt bp0 0)), (3, (pt b21 0)), (7, (vi s53.1)), (8, (vi s53.2.1))] /\ LC s53.2.2.2.2.2.1.length ns53_5 /\ SlA AF F3 as53_5 s53.2.2.2.2.2.1 /\ A8 Ax AQ F3 mb0_4 s53.2.2.2.2.2.2.1 es53_6 /\ A8 AF Ar F3 mb0_5 s53.2.2.2.2.2.2.2 es53_7) N ⟨(1099511627776, 1, x0.o_.Report, x0.o_.Serial, x0.o_.Zone, x0.lines_, x0.known_, x0.read_), F2, a0_3, n0_3, e0_4, e0_5, ho51, hs40, (Ux _), fI, hb0_3, (Uz hs0_3 (le28.t le41)), (hr0_4.mono (le28.t le41)), (hr0_5.mono (le28.t le41))⟩ ?_
      rintro m70 f w54 ⟨s53, F3, as53_5, ns53_5, es53_6, es53_7, hit71, hs55, le56, ⟨_, rfl⟩, hbs53_5, hss53_5, hrs53_6, hrs53_7⟩
      obtain ⟨m72, fl73, rfl, hb74, hnx75⟩ := AU hit71
      refine Sq <| Sq (Rg [0, 1] ?_)
      refine Vs 2 <| Nt <| Cd hb74 (fun hb76 h77 => ?_) (fun hb76 h78 => ?_)
      ·refine Sc ?_
       refine Ab <| Sq <| Bk <| Sq (Rg (rG 13) ?_)
       refine Vs 1 <| Ld hs55.at0 <| Vs 1 ?_
       obtain ⟨r79, hr80, h81⟩ := bind_some h77
       refine CB EJ (EY N (hG.mono ((le28.t le41).trans le56)) bp0 (({ o_ := ({ Report := s53.2.2.1, Serial := s53.2.2.2.1, Zone := s53.2.2.2.2.1 } : Ac), lines_ := s53.2.2.2.2.2.1, known_ := s53.2.2.2.2.2.2.1, read_ := s53.2.2.2.2.2.2.2 } : Al)) as53_5 ns53_5 mb0_4 es53_6 mb0_5 es53_7 hbs53_5 hss53_5 hrs53_6 hrs53_7 x1 s53.2.1 hs55.pk3.pk3.pk3 _ hr80) ?_
       rintro _ F5 w82 _ hs83 le84 ⟨ar79_0_3, nr79_0_3, er79_0_4, er79_0_5, rfl, rfl, hbr79_0_3, hsr79_0_3, hrr79_0_4, hrr79_0_5⟩
       refine Vs 4 <| Al' 143 #[(vi 0), (vi 0), (vi 0), (vi 0)] hs83 (fun b86 w87 hs88 => ?_)
       refine Al' 150 #[(vi 0), (vi 0), (sv (([] : UQ)))] hs88 (fun b89 w90 hs91 => ?_)
       refine St1 (Af r79.2.1) hs91 (fun w92 hs93 => ?_)
       refine St0 (Fl r79.2.2.1) hs93 (fun w94 hs95 => ?_)
       refine Vs 1 <| Nss (Rg [0] ?_)
       refine Vs 1 <| Nt ?_
       obtain ⟨j99, hj105, h106⟩ := bind_some h81
       refine UD (fun f w => ∃ (F6 : Mem) (aj99_4 : UR) (nj99_4 : Nat) (ej99_5 : Option Nat × Obj) (ej99_6 : Option Nat × Obj), HS wb Fb w F6 ((sb bp0 #[(.bool j99.2.1), (.bool j99.2.2.1), (.bool j99.2.2.2.1), (.slice aj99_4 j99.2.2.2.2.1.length nj99_4), (.map (some mb0_4)), (.map (some mb0_5))] 148) :: ej99_5 :: ej99_6 :: (sb b21 (Af x1) 143) :: Lf) /\ Uw F5 F6 /\ FI f [] [(0, (pt bp0 0)), (3, (pt b21 0)), (7, (vi j99.1)), (8, (vi s53.2.1))] /\ LC j99.2.2.2.2.1.length nj99_4 /\ SlA AF F6 aj99_4 j99.2.2.2.2.1 /\ A8 Ax AQ F6 mb0_4 j99.2.2.2.2.2.1 ej99_5 /\ A8 AF Ar F6 mb0_5 j99.2.2.2.2.2.2 ej99_6) ?_ ?_
       ·refine Cd hj105 (fun hb107 h108 => ?_) (fun hb107 h109 => ?_)
        ·obtain ⟨j115, hj121, h122⟩ := bind_some h108
         refine RD 9 9 [(sb b89 (Fl r79.2.2.1) 150), (sb b86 (Af r79.2.1) 143), (sb b21 (Af x1) 143)] [] hs95 (fun f w => ∃ (F7 : Mem) (aj115_4 : UR) (nj115_4 : Nat) (ej115_5 : Option Nat × Obj) (ej115_6 : Option Nat × Obj), HS wb Fb w F7 ((sb bp0 #[(.bool j115.2.1), (.bool j115.2.2.1), (.bool j115.2.2.2.1), (.slice aj115_4 j115.2.2.2.2.1.length nj115_4), (.map (some mb0_4)), (.map (some mb0_5))] 148) :: ej115_5 :: ej115_6 :: (sb b21 (Af x1) 143) :: Lf) /\ Uw F5 F7 /\ FI f [] [(0, (pt bp0 0)), (3, (pt b21 0)), (7, (vi j115.1)), (8, (vi s53.2.1))] /\ LC j115.2.2.2.2.1.length nj115_4 /\ SlA AF F7 aj115_4 j115.2.2.2.2.1 /\ A8 Ax AQ F7 mb0_4 j115.2.2.2.2.2.1 ej115_5 /\ A8 AF Ar F7 mb0_5 j115.2.2.2.2.2.2 ej115_6) (fun wd110 hw111 => ?_) ?_
         ·refine Dv [0, 1, 3] ?_
          refine Dl 4 (fun _ hq => (hq.1.2 1 _ _ rfl)) <| D1 2 ?_
          obtain ⟨r123, hr124, h125⟩ := bind_some hj121
          refine DCl Jt hw111 (KM N wd110 F5 hw111.pers s53.2.1 _ hr124) ?_
          rintro _ F8 w127 hs128 le129 rfl
          refine D1 5 ?_
          have hs131 := hs128.pk5.pk2.pk2.pk5.pk5
          obtain ⟨r132, hr133, h134⟩ := bind_some h125
          refine DCB B7 (hsR109 (hG.mono ((((le28.t le41).trans le56).trans le84).trans le129)) bp0 r79.1 ar79_0_3 nr79_0_3 mb0_4 er79_0_4 mb0_5 er79_0_5 hbr79_0_3 (Uz hsr79_0_3 le129) (hrr79_0_4.mono le129) (hrr79_0_5.mono le129) r79.2.1 hs131.pk5 _ hr133) ?_
          rintro _ F9 w135 _ hs136 le137 ⟨ar132_0_3, nr132_0_3, er132_0_4, er132_0_5, rfl, rfl, hbr132_0_3, hsr132_0_3, hrr132_0_4, hrr132_0_5⟩
          refine ⟨Ba hs136 (le129.t le137) (by simp) (zdT (by kernel_rfl)), ?_⟩
          refine Dv [6, 7, 8] ?_
          obtain rfl := Aa h134
          exact UJ (by kernel_rfl) ⟨F9, ar132_0_3, nr132_0_3, er132_0_4, er132_0_5, hs136.dr3.dr3, (le129.t le137), fI, hbr132_0_3, hsr132_0_3, hrr132_0_4, hrr132_0_5⟩
         ·rintro f w112 ⟨F7, aj115_4, nj115_4, ej115_5, ej115_6, hs113, le114, ⟨_, rfl⟩, hbj115_4, hsj115_4, hrj115_5, hrj115_6⟩
          obtain rfl := Aa h122
          exact .inl ⟨rfl, F7, aj115_4, nj115_4, ej115_5, ej115_6, hs113, le114, fI, hbj115_4, hsj115_4, hrj115_5, hrj115_6⟩
        ·refine Sc ?_
         obtain rfl := Aa h109
         exact .inl ⟨rfl, F5, ar79_0_3, nr79_0_3, er79_0_4, er79_0_5, hs95.dr0.dr0, (Ux _), fI, hbr79_0_3, hsr79_0_3, hrr79_0_4, hrr79_0_5⟩
       ·rintro f w96 ⟨F6, aj99_4, nj99_4, ej99_5, ej99_6, hs97, le98, ⟨_, rfl⟩, hbj99_4, hsj99_4, hrj99_5, hrj99_6⟩
        refine Av <| Ab <| Rg [0, 1, 2] <| Vs 3 <| Us ?_
        have hn139 := AV h106 hnx75
        exact ⟨m72, Nat.lt_succ_self _, (j99.1, (W64 (s53.2.1 + 1)), j99.2.1, j99.2.2.1, j99.2.2.2.1, j99.2.2.2.2.1, j99.2.2.2.2.2.1, j99.2.2.2.2.2.2), F6, aj99_4, nj99_4, ej99_5, ej99_6, hn139, hs97.pk2.pk2.pk2.pk3, ((le56.t le84).trans le98), fI, hbj99_4, hsj99_4, hrj99_5, hrj99_6⟩
      ·refine Ex ?_
       refine Au <| Au <| AA rfl ?_
       have ho140 := AW h78 hnx75
       exact .inl ⟨rfl, (s53.1, s53.2.1, s53.2.2.1, s53.2.2.2.1, s53.2.2.2.2.1, s53.2.2.2.2.2.1, s53.2.2.2.2.2.2.1, s53.2.2.2.2.2.2.2), F3, as53_5, ns53_5, es53_6, es53_7, ho140, hs55, le56, fI, hbs53_5, hss53_5, hrs53_6, hrs53_7⟩
     ·rintro f w63 ⟨s62, F4, as62_5, ns62_5, es62_6, es62_7, rfl, hs64, le65, ⟨_, rfl⟩, hbs62_5, hss62_5, hrs62_6, hrs62_7⟩
      have h141 := BL h52
      refine Ab <| Sq ?_
      obtain ⟨j147, hj150, h151⟩ := bind_some h141
      refine RD 7 7 [(sb b21 (Af x1) 143), (sb bp0 #[(.bool s62.2.2.1), (.bool s62.2.2.2.1), (.bool s62.2.2.2.2.1), (.slice as62_5 s62.2.2.2.2.2.1.length ns62_5), (.map (some mb0_4)), (.map (some mb0_5))] 148), es62_7] [] hs64 (fun f w => ∃ (F10 : Mem) (ej147_0 : Option Nat × Obj), HS wb Fb w F10 ((sb bp0 #[(.bool s62.2.2.1), (.bool s62.2.2.2.1), (.bool s62.2.2.2.2.1), (.slice as62_5 s62.2.2.2.2.2.1.length ns62_5), (.map (some mb0_4)), (.map (some mb0_5))] 148) :: ej147_0 :: es62_7 :: Lf) /\ Uw F4 F10 /\ FI f [] [(7, (vi s62.1))] /\ A8 Ax AQ F10 mb0_4 j147 ej147_0) (fun wd142 hw143 => ?_) ?_
      ·refine Dv [0, 1, 2] ?_
       refine Dl 3 (fun _ hq => (hq.1.2 1 _ _ rfl)) <| Dl 4 (fun _ hq => (hq.1.2 0 _ _ rfl)) <| Dv [5] <| D1 6 <| Aw.mapPut (l' := [true, true, true, true, true, true, true]) (zd := true) (by kernel_rfl) (by kernel_rfl) SY (ty := 0) (g := none) (mt := 145) (k := 143) (vt := 3) (m := (.tmp 60)) (x := (.tmp 61)) (y := (.tmp 62)) (b := mb0_4) (kx := x1) (u := s62.1) (kv := (.agg (Af x1))) (v := (vi s62.1)) (K := Ax) (T := AQ) (by kernel_rfl) rfl rfl rfl rfl ⟨_, rfl, rfl⟩ ⟨_, rfl, rfl⟩ (by kernel_rfl) hw143 (q := 2) rfl hrs62_6 (Ux _) (fun _ => by simp) (fun e => by cases e) (fun e152 w153 (hs154 : HS wb Fb w153 F4 ((sb b21 (Af x1) 143) :: (sb bp0 #[(.bool s62.2.2.1), (.bool s62.2.2.2.1), (.bool s62.2.2.2.2.1), (.slice as62_5 s62.2.2.2.2.2.1.length ns62_5), (.map (some mb0_4)), (.map (some mb0_5))] 148) :: e152 :: es62_7 :: Lf)) hr155 => ?_)
       obtain rfl := Aa hj150
       exact UJ (by kernel_rfl) ⟨F4, e152, hs154.dr0, (Ux _), fI, hr155⟩
      ·rintro f w144 ⟨F10, ej147_0, hs145, le146, ⟨_, rfl⟩, hrj147_0⟩
       refine Ab <| Sq (Rg [0, 1] ?_)
       refine Vs 2 <| Nt <| Rt ?_
       obtain rfl := Aa h151
       exact ReB [(vi s62.1)] hs145 (((le28.t le41).trans le65).trans le146) ⟨as62_5, ns62_5, ej147_0, es62_7, rfl, rfl, hbs62_5, (Uz hss62_5 le146), hrj147_0, (hrs62_7.mono le146)⟩
structure TI where
 q109 : Al -> An -> Option (Al × Int)
def Nu (N : Nat) : Nat -> TI
 | 0 => ⟨fun _ _ => none⟩
 | k + 1 => ⟨EE N (Nu N k).q109⟩
theorem Qe (N : Nat) : ∀ k, NZ (Nu N k).q109 := by
 intro k
 induction k with
 | zero => unfold NZ; intros; rename_i h; cases h
 | succ k ih => exact @HK N (Nu N k).q109 ih
def CL (N : Nat) (x0 : Al) (x1 : An) : Option (Al × Int) := (Nu N N).q109 x0 x1
theorem Do (N : Nat) {wb w0 : World} {Fb F0 : Mem} {Lf : Own} (hG : Br F0) (bp0 : Nat) (x0 : Al) (a0_3 : UR) (n0_3 : Nat) (mb0_4 : Nat) (e0_4 : Option Nat × Obj) (mb0_5 : Nat) (e0_5 : Option Nat × Obj) (hb0_3 : LC x0.lines_.length n0_3) (hs0_3 : SlA AF F0 a0_3 x0.lines_) (hr0_4 : A8 Ax AQ F0 mb0_4 x0.known_ e0_4) (hr0_5 : A8 AF Ar F0 mb0_5 x0.read_ e0_5) (x1 : An) (hs0 : HS wb Fb w0 F0 ((some bp0, (.cells #[(.bool x0.o_.Report), (.bool x0.o_.Serial), (.bool x0.o_.Zone), (.slice a0_3 x0.lines_.length n0_3), (.map (some mb0_4)), (.map (some mb0_5))] 148 (0, 0))) :: e0_4 :: e0_5 :: Lf)) (r : (Al × Int)) (h : CL N x0 x1 = some r) :
  Calls Tryz.prog 109 ([(.pointer (some ⟨bp0, 0, none⟩)), (.agg #[(.int .i64 x1.at_), (.int .i64 x1.stage_), (.int .i64 x1.num_), (.int .i64 x1.minute_)])] : List Value).toArray w0 (Ed wb Fb F0 fun F' v L' => ∃ (aq0_3 : UR) (nq0_3 : Nat) (eq0_4 : Option Nat × Obj) (eq0_5 : Option Nat × Obj), v = (.int .i64 r.2) /\ L' = (some bp0, (.cells #[(.bool r.1.o_.Report), (.bool r.1.o_.Serial), (.bool r.1.o_.Zone), (.slice aq0_3 r.1.lines_.length nq0_3), (.map (some mb0_4)), (.map (some mb0_5))] 148 (0, 0))) :: eq0_4 :: eq0_5 :: Lf /\ LC r.1.lines_.length nq0_3 /\ SlA AF F' aq0_3 r.1.lines_ /\ A8 Ax AQ F' mb0_4 r.1.known_ eq0_4 /\ A8 AF Ar F' mb0_5 r.1.read_ eq0_5) := (Qe N N) hG bp0 x0 a0_3 n0_3 mb0_4 e0_4 mb0_5 e0_5 hb0_3 hs0_3 hr0_4 hr0_5 x1 hs0 r h
def He (N : Nat) (x0 : Ac) (x1 : UQ) (m33 : Al) (r39 : An) (r47 : (Al × Int)) (r57 : An) (s75 : (List D5 × Bool × Bool × Bool × List UQ × Int × Int × Int × Int × List (An × Int) × List (UQ × Aq))) : (List D5 × Int × Bool × Bool × Bool × List UQ × Int × Int × Int × Int × List (An × Int) × List (UQ × Aq)) -> Option (BD (UQ × (List D5) × Int × Int) (List D5 × Int × Bool × Bool × Bool × List UQ × Int × Int × Int × Int × List (An × Int) × List (UQ × Aq))) := fun s118 =>
 ((Ea N ({ o_ := ({ Report := s118.2.2.1, Serial := s118.2.2.2.1, Zone := s118.2.2.2.2.1 } : Ac), lines_ := s118.2.2.2.2.2.1, known_ := s118.2.2.2.2.2.2.2.2.2.2.1, read_ := s118.2.2.2.2.2.2.2.2.2.2.2 } : Al) ({ at_ := s118.2.2.2.2.2.2.1, stage_ := s118.2.2.2.2.2.2.2.1, num_ := s118.2.2.2.2.2.2.2.2.1, minute_ := s118.2.2.2.2.2.2.2.2.2.1 } : An) s118.2.1).bind fun r146 => ((bif r146.2.2.2 then ((JR N s118.2.1).bind fun r184 => ((CL N r146.1 r146.2.1).bind fun r193 => ((CL N r193.1 ({ at_ := s118.2.2.2.2.2.2.1, stage_ := s118.2.2.2.2.2.2.2.1, num_ := s118.2.2.2.2.2.2.2.2.1, minute_ := s118.2.2.2.2.2.2.2.2.2.1 } : An)).bind fun r200 => some (((W64 (r184 + r193.2)) == r200.2), r200.1.o_.Report, r200.1.o_.Serial, r200.1.o_.Zone, r200.1.lines_, r200.1.known_, r200.1.read_)))) else some (false, r146.1.o_.Report, r146.1.o_.Serial, r146.1.o_.Zone, r146.1.lines_, r146.1.known_, r146.1.read_)).bind fun j168 => (bif j168.1 then ((Dr s118.1 [r146.2.2.1]).bind fun r216 => some (.done (r216, s118.2.1, j168.2.1, j168.2.2.1, j168.2.2.2.1, j168.2.2.2.2.1, r146.2.1.at_, r146.2.1.stage_, r146.2.1.num_, r146.2.1.minute_, j168.2.2.2.2.2.1, j168.2.2.2.2.2.2))) else some (.next (s118.1, (W64 (s118.2.1 + 1)), j168.2.1, j168.2.2.1, j168.2.2.2.1, j168.2.2.2.2.1, s118.2.2.2.2.2.2.1, s118.2.2.2.2.2.2.2.1, s118.2.2.2.2.2.2.2.2.1, s118.2.2.2.2.2.2.2.2.2.1, j168.2.2.2.2.2.1, j168.2.2.2.2.2.2)))))
def Hf (N : Nat) (x0 : Ac) (x1 : UQ) (m33 : Al) (r39 : An) (r47 : (Al × Int)) (r57 : An) : (List D5 × Bool × Bool × Bool × List UQ × Int × Int × Int × Int × List (An × Int) × List (UQ × Aq)) -> Option (BD (UQ × (List D5) × Int × Int) (List D5 × Bool × Bool × Bool × List UQ × Int × Int × Int × Int × List (An × Int) × List (UQ × Aq))) := fun s75 =>
 (bif ((decide (s75.2.2.2.2.2.1 < (s75.2.2.2.2.1.length : Int))) || (decide (s75.2.2.2.2.2.2.1 < 6))) then ((A0 (He N x0 x1 m33 r39 r47 r57 s75) N (s75.1, 1, s75.2.1, s75.2.2.1, s75.2.2.2.1, s75.2.2.2.2.1, s75.2.2.2.2.2.1, s75.2.2.2.2.2.2.1, s75.2.2.2.2.2.2.2.1, s75.2.2.2.2.2.2.2.2.1, s75.2.2.2.2.2.2.2.2.2.1, s75.2.2.2.2.2.2.2.2.2.2)).bind fun o => o.k (fun r => some (.ret r)) (fun s129 => some (.next (s129.1, s129.2.2.1, s129.2.2.2.1, s129.2.2.2.2.1, s129.2.2.2.2.2.1, s129.2.2.2.2.2.2.1, s129.2.2.2.2.2.2.2.1, s129.2.2.2.2.2.2.2.2.1, s129.2.2.2.2.2.2.2.2.2.1, s129.2.2.2.2.2.2.2.2.2.2.1, s129.2.2.2.2.2.2.2.2.2.2.2)))) else some (.done (s75.1, s75.2.1, s75.2.2.1, s75.2.2.2.1, s75.2.2.2.2.1, s75.2.2.2.2.2.1, s75.2.2.2.2.2.2.1, s75.2.2.2.2.2.2.2.1, s75.2.2.2.2.2.2.2.2.1, s75.2.2.2.2.2.2.2.2.2.1, s75.2.2.2.2.2.2.2.2.2.2)))
def KF (N : Nat) (x0 : Ac) (x1 : UQ) : Option (UQ × (List D5) × Int × Int) :=
 ((Gt N ({ Report := x0.Report, Serial := x0.Serial, Zone := x0.Zone } : Ac) x1).bind fun r24 => osk r24 (some (([] : UQ), ([] : List D5), 0, 2)) (fun m33 => ((II N ).bind fun r39 => ((CL N m33 r39).bind fun r47 => (bif (decide (r47.2 >= 1099511627776)) then none else ((II N ).bind fun r57 => ((A0 (Hf N x0 x1 m33 r39 r47 r57) N (([] : List D5), r47.1.o_.Report, r47.1.o_.Serial, r47.1.o_.Zone, r47.1.lines_, r57.at_, r57.stage_, r57.num_, r57.minute_, r47.1.known_, r47.1.read_)).bind fun o => o.k (fun r => some r) (fun s85 => ((KG N x1 s85.1).bind fun r245 => some (r245.1, s85.1, r47.2, r245.2))))))))))
theorem L9 : Ag Tryz.prog 36 := fun _ _ => by kernel_rfl
theorem MI (N : Nat) (w0 : World) (F0 : Mem) (hF : US w0 F0) (hG : Br F0) (x0 : Ac) (x1 : UQ) (r : (UQ × (List D5) × Int × Int)) (h : KF N x0 x1 = some r) :
  Calls Tryz.prog 36 ([(.agg (Ak x0)), (sv x1)] : List Value).toArray w0 (AB w0 F0 fun F' v => ∃ (aq1_0 : UR) (nq1_0 : Nat), v = (.tuple #[(sv r.1), (.slice aq1_0 r.2.1.length nq1_0), (vi r.2.2.1), (vi r.2.2.2)]) /\ LC r.2.1.length nq1_0 /\ SlA I3 F' aq1_0 r.2.1) := by
 have hs0 := Uy hF
 refine Go 85 Tryz.func36 <| Sq (Rg (rG 5) ?_)
 refine Bx' 23 (Ak x0) hs0 (fun b21 w22 hs23 => ?_)
 refine Vs 4 <| Nss (Rg (rG 8) ?_)
 refine Ld hs23.at0 <| Vs 1 ?_
 obtain ⟨r24, hr25, h26⟩ := bind_some h
 refine RWP.callO (dst := (some 21)) (ty := 139) (g := none) (by kernel_rfl) rfl (f0 := (.func 108)) (aos := #[(.tmp 19), (.tmp 20)]) (ats := #[23, 9]) (fid := 108) (first := #[]) (cap := #[]) (args := [(.agg (Ak x0)), (sv x1)]) rfl GP rfl hs23 (HH N w22 F0 hs23.pers hG (({ Report := x0.Report, Serial := x0.Serial, Zone := x0.Zone } : Ac)) x1 _ hr25) ?_
 rintro v27 F1 w28 L32 hs29 le30 hp31
 rcases r24 with _ | m33
 ·obtain ⟨rfl, rfl⟩ := E8 hp31
  have h34 := SW h26
  have hs35 : HS w0 F0 w28 F1 [(sb b21 (Ak x0) 23)] := hs29
  refine Vs 5 <| Nss <| Sq (Rg [0, 1] ?_)
  refine Vs 2 <| Nt <| C1 (rfl : true = true) <| Sq (Rg (rG 5) ?_)
  refine Vs 5 <| Nt <| Rt <| Aj ?_
  obtain rfl := Aa h34
  exact Re [(sv (([] : UQ))), (.slice none ([] : List D5).length 0), (vi 0), (vi 2)] hs35 ⟨none, 0, rfl, UA, (.inl rfl)⟩
 ·obtain ⟨b36, am33_3, nm33_3, mbm33_4, em33_4, mbm33_5, em33_5, rfl, rfl, hbm33_3, hsm33_3, hrm33_4, hrm33_5⟩ := E7 hp31
  have h37 := SV h26
  have hs38 : HS w0 F0 w28 F1 [(sb b36 #[(.bool m33.o_.Report), (.bool m33.o_.Serial), (.bool m33.o_.Zone), (.slice am33_3 m33.lines_.length nm33_3), (.map (some mbm33_4)), (.map (some mbm33_5))] 148), em33_4, em33_5, (sb b21 (Ak x0) 23)] := hs29
  refine Vs 5 <| Nss <| Sq (Rg [0, 1] ?_)
  refine Vs 2 <| Nt <| C0 (rfl : false = false) <| Sc <| Ab <| Sq (Rg (rG 4) ?_)
  refine Vs 1 ?_
  obtain ⟨r39, hr40, h41⟩ := bind_some h37
  refine Cl' It hs38 (JB N w28 F1 hs38.pers  _ hr40) ?_
  rintro _ F2 w43 hs44 le45 rfl
  obtain ⟨r47, hr48, h49⟩ := bind_some h41
  refine CB B7 (Do N (hG.mono (le30.t le45)) b36 m33 am33_3 nm33_3 mbm33_4 em33_4 mbm33_5 em33_5 hbm33_3 (Uz hsm33_3 le45) (hrm33_4.mono le45) (hrm33_5.mono le45) r39 hs44 _ hr48) ?_
  rintro _ F3 w50 _ hs51 le52 ⟨ar47_0_3, nr47_0_3, er47_0_4, er47_0_5, rfl, rfl, hbr47_0_3, hsr47_0_3, hrr47_0_4, hrr47_0_5⟩
  refine Vs 1 <| Nss <| Sq (Rg [0, 1] ?_)
  refine Vs 2 <| Nt <| Cd h49 (fun hb54 h55 => ?_) (fun hb54 h56 => ?_)
  ·cases h55
  ·refine Sc ?_
   refine Ab <| Sq (Rg [0] ?_)
   refine Vs 1 <| Nss <| Sq (Rg [0, 1, 2] ?_)
   obtain ⟨r57, hr58, h59⟩ := bind_some h56
   refine Cl' It hs51 (JB N w50 F3 hs51.pers  _ hr58) ?_
   rintro _ F4 w61 hs62 le63 rfl
   refine Al' 143 #[(vi 0), (vi 0), (vi 0), (vi 0)] hs62 (fun b65 w66 hs67 => ?_)
   refine St0 (Af r57) hs67 (fun w68 hs69 => ?_)
   refine Nt ?_
   have hs70 := hs69.dr4.dummy (oc #[] 0)
   obtain ⟨o72, ho73, h74⟩ := bind_some h59
   refine UD (fun f w => ∃ (s85 : (List D5 × Bool × Bool × Bool × List UQ × Int × Int × Int × Int × List (An × Int) × List (UQ × Aq))) (F6 : Mem) (as85_0 : UR) (ns85_0 : Nat) (es85_0 : Option Nat × Obj), o72 = .done s85 /\ HS w0 F0 w F6 [es85_0] /\ Uw F4 F6 /\ FI f [] [(1, (sv x1)), (10, (vi r47.2)), (11, (.slice as85_0 s85.1.length ns85_0))] /\ Ap I3 150 F6 as85_0 ns85_0 s85.1 es85_0) ?_ ?_
   ·refine Bk ?_
    refine Uv (by kernel_rfl) (fun m f w => ∃ (s75 : (List D5 × Bool × Bool × Bool × List UQ × Int × Int × Int × Int × List (An × Int) × List (UQ × Aq))) (F5 : Mem) (b65 : Nat) (as75_4 : UR) (ns75_4 : Nat) (es75_9 : Option Nat × Obj) (es75_10 : Option Nat × Obj) (as75_0 : UR) (ns75_0 : Nat) (es75_0 : Option Nat × Obj), A0 (Hf N x0 x1 m33 r39 r47 r57) m s75 = some o72 /\ HS w0 F0 w F5 [es75_0, (sb b65 #[(vi s75.2.2.2.2.2.1), (vi s75.2.2.2.2.2.2.1), (vi s75.2.2.2.2.2.2.2.1), (vi s75.2.2.2.2.2.2.2.2.1)] 143), (sb b36 #[(.bool s75.2.1), (.bool s75.2.2.1), (.bool s75.2.2.2.1), (.slice as75_4 s75.2.2.2.2.1.length ns75_4), (.map (some mbm33_4)), (.map (some mbm33_5))] 148), es75_9, es75_10] /\ Uw F4 F5 /\ FI f [] [(1, (sv x1)), (8, (pt b36 0)), (10, (vi r47.2)), (11, (.slice as75_0 s75.1.length ns75_0)), (12, (pt b65 0))] /\ LC s75.2.2.2.2.1.length ns75_4 /\ SlA AF F5 as75_4 s75.2.2.2.2.1 /\ A8 Ax AQ F5 mbm33_4 s75.2.2.2.2.2.2.2.2.2.1 es75_9 /\ A8 AF Ar F5 mbm33_5 s75.2.2.2.2.2.2.2.2.2.2 es75_10 /\ Ap I3 150 F5 as75_0 ns75_0 s75.1 es75_0) N ⟨(([] : List D5), r47.1.o_.Report, r47.1.o_.Serial, r47.1.o_.Zone, r47.1.lines_, r57.at_, r57.stage_, r57.num_, r57.minute_, r47.1.known_, r47.1.read_), F4, b65, ar47_0_3, nr47_0_3, er47_0_4, er47_0_5, none, 0, (none, .cells #[] 0 (0, 0)), ho73, hs70, (Ux _), fI, hbr47_0_3, (Uz hsr47_0_3 le63), (hrr47_0_4.mono le63), (hrr47_0_5.mono le63), (UL I3 150 F4 _)⟩ ?_
    rintro m93 f w76 ⟨s75, F5, b65, as75_4, ns75_4, es75_9, es75_10, as75_0, ns75_0, es75_0, hit94, hs77, le78, ⟨_, rfl⟩, hbs75_4, hss75_4, hrs75_9, hrs75_10, hrs75_0⟩
    obtain ⟨m95, fl96, rfl, hb97, hnx98⟩ := AU hit94
    refine Sq <| Sq <| RD 13 13 [es75_0, (sb b65 #[(vi s75.2.2.2.2.2.1), (vi s75.2.2.2.2.2.2.1), (vi s75.2.2.2.2.2.2.2.1), (vi s75.2.2.2.2.2.2.2.2.1)] 143), (sb b36 #[(.bool s75.2.1), (.bool s75.2.2.1), (.bool s75.2.2.2.1), (.slice as75_4 s75.2.2.2.2.1.length ns75_4), (.map (some mbm33_4)), (.map (some mbm33_5))] 148), es75_9, es75_10] [] hs77 (fun f w => ∃ (F7 : Mem), HS w0 F0 w F7 [es75_0, (sb b65 #[(vi s75.2.2.2.2.2.1), (vi s75.2.2.2.2.2.2.1), (vi s75.2.2.2.2.2.2.2.1), (vi s75.2.2.2.2.2.2.2.2.1)] 143), (sb b36 #[(.bool s75.2.1), (.bool s75.2.2.1), (.bool s75.2.2.2.1), (.slice as75_4 s75.2.2.2.2.1.length ns75_4), (.map (some mbm33_4)), (.map (some mbm33_5))] 148), es75_9, es75_10] /\ Uw F5 F7 /\ FI f [] [(1, (sv x1)), (8, (pt b36 0)), (10, (vi r47.2)), (11, (.slice as75_0 s75.1.length ns75_0)), (12, (pt b65 0)), (45, (.bool ((decide (s75.2.2.2.2.2.1 < (s75.2.2.2.2.1.length : Int))) || (decide (s75.2.2.2.2.2.2.1 < 6)))))]) (fun wd99 hw100 => ?_) ?_
    ·refine Dv [0] ?_
     refine Dl 1 (fun _ hq => (hq.1.2 1 _ _ rfl)) <| Dv [2, 3, 4] <| Dl 5 (fun _ hq => (hq.1.2 2 _ _ rfl)) <| Dv [6, 7, 8] <| DWP.split (decide (s75.2.2.2.2.2.1 < (s75.2.2.2.2.1.length : Int))) (fun hb111 => ?_) (fun hb111 => ?_)
     ·refine Dk [(9, 42), (10, 43), (11, 44)] 8 false 41 hb111 ?_
      refine Dt 12 45 4 _ (fun _ hq => p1 41 (.const (.bool true)) (.tmp 44) (.bool true) hb111) ?_
      exact UJ (by kernel_rfl) ⟨F5, hw100, (Ux _), (fJ ⟨rfl, rfl, rfl, rfl, rfl, (congrArg Value.bool (FN hb111 rfl)), trivial⟩)⟩
     ·refine Dg 9 42 0 (pt b65 1) 8 false 41 hb111 (fun _ hq => fa 143 12 1 1 1 b65 0 1) ?_
      refine Dg 10 43 3 _ 8 false 41 hb111 (fun _ hq => ld 3 42 b65 1 false 1 (vi s75.2.2.2.2.2.2.1) (hq.1.2 1 _ _ rfl)) <| Dg 11 44 4 (.bool (decide (s75.2.2.2.2.2.2.1 < 6))) 8 false 41 hb111 (fun _ hq => Lb (t := 3) (t' := 3) (x := (.tmp 43)) (y := (.const (vi 6))) (k := .i64) (a := s75.2.2.2.2.2.2.1) (b := 6) rfl rfl) <| Dt 12 45 4 _ (fun _ hq => p0 41 (.const (.bool true)) (.tmp 44) (.bool (decide (s75.2.2.2.2.2.2.1 < 6))) hb111) ?_
      exact UJ (by kernel_rfl) ⟨F5, hw100, (Ux _), (fJ ⟨rfl, rfl, rfl, rfl, rfl, (congrArg Value.bool (Ct hb111 rfl)), trivial⟩)⟩
    ·rintro f w101 ⟨F7, hs102, le103, ⟨_, rfl⟩⟩
     refine Ab <| Cd hb97 (fun hb112 h113 => ?_) (fun hb112 h114 => ?_)
     ·refine Sc ?_
      refine Ab <| Sq <| Bk <| Sq (Rg [0] ?_)
      refine Vs 1 <| Nt ?_
      obtain ⟨o115, ho116, h117⟩ := bind_some h113
      refine UD (fun f w => ∃ (s129 : (List D5 × Int × Bool × Bool × Bool × List UQ × Int × Int × Int × Int × List (An × Int) × List (UQ × Aq))) (F9 : Mem) (as129_5 : UR) (ns129_5 : Nat) (es129_10 : Option Nat × Obj) (es129_11 : Option Nat × Obj) (as129_0 : UR) (ns129_0 : Nat) (es129_0 : Option Nat × Obj), o115 = .done s129 /\ HS w0 F0 w F9 [es129_0, (sb b65 #[(vi s129.2.2.2.2.2.2.1), (vi s129.2.2.2.2.2.2.2.1), (vi s129.2.2.2.2.2.2.2.2.1), (vi s129.2.2.2.2.2.2.2.2.2.1)] 143), (sb b36 #[(.bool s129.2.2.1), (.bool s129.2.2.2.1), (.bool s129.2.2.2.2.1), (.slice as129_5 s129.2.2.2.2.2.1.length ns129_5), (.map (some mbm33_4)), (.map (some mbm33_5))] 148), es129_10, es129_11] /\ Uw F7 F9 /\ FI f [] [(1, (sv x1)), (8, (pt b36 0)), (10, (vi r47.2)), (11, (.slice as129_0 s129.1.length ns129_0)), (12, (pt b65 0))] /\ LC s129.2.2.2.2.2.1.length ns129_5 /\ SlA AF F9 as129_5 s129.2.2.2.2.2.1 /\ A8 Ax AQ F9 mbm33_4 s129.2.2.2.2.2.2.2.2.2.2.1 es129_10 /\ A8 AF Ar F9 mbm33_5 s129.2.2.2.2.2.2.2.2.2.2.2 es129_11 /\ Ap I3 150 F9 as129_0 ns129_0 s129.1 es129_0) ?_ ?_
      ·refine Bk ?_
       refine Uv (by kernel_rfl) (fun m f w => ∃ (s118 : (List D5 × Int × Bool × Bool × Bool × List UQ × Int × Int × Int × Int × List (An × Int) × List (UQ × Aq))) (F8 : Mem) (as118_5 : UR) (ns118_5 : Nat) (es118_10 : Option Nat × Obj) (es118_11 : Option Nat × Obj) (as118_0 : UR) (ns118_0 : Nat) (es118_0 : Option Nat × Obj), A0 (He N x0 x1 m33 r39 r47 r57 s75) m s118 = some o115 /\ HS w0 F0 w F8 [es118_0, (sb b65 #[(vi s118.2.2.2.2.2.2.1), (vi s118.2.2.2.2.2.2.2.1), (vi s118.2.2.2.2.2.2.2.2.1), (vi s118.2.2.2.2.2.2.2.2.2.1)] 143), (sb b36 #[(.bool s118.2.2.1), (.bool s118.2.2.2.1), (.bool s118.2.2.2.2.1), (.slice as118_5 s118.2.2.2.2.2.1.length ns118_5), (.map (some mbm33_4)), (.map (some mbm33_5))] 148), es118_10, es118_11] /\ Uw F7 F8 /\ FI f [] [(1, (sv x1)), (8, (pt b36 0)), (10, (vi r47.2)), (11, (.slice as118_0 s118.1.length ns118_0)), (12, (pt b65 0)), (13, (vi s118.2.1))] /\ LC s118.2.2.2.2.2.1.length ns118_5 /\ SlA AF F8 as118_5 s118.2.2.2.2.2.1 /\ A8 Ax AQ F8 mbm33_4 s118.2.2.2.2.2.2.2.2.2.2.1 es118_10 /\ A8 AF Ar F8 mbm33_5 s118.2.2.2.2.2.2.2.2.2.2.2 es118_11 /\ Ap I3 150 F8 as118_0 ns118_0 s118.1 es118_0) N ⟨(s75.1, 1, s75.2.1, s75.2.2.1, s75.2.2.2.1, s75.2.2.2.2.1, s75.2.2.2.2.2.1, s75.2.2.2.2.2.2.1, s75.2.2.2.2.2.2.2.1, s75.2.2.2.2.2.2.2.2.1, s75.2.2.2.2.2.2.2.2.2.1, s75.2.2.2.2.2.2.2.2.2.2), F7, as75_4, ns75_4, es75_9, es75_10, as75_0, ns75_0, es75_0, ho116, hs102, (Ux _), fI, hbs75_4, (Uz hss75_4 le103), (hrs75_9.mono le103), (hrs75_10.mono le103), (hrs75_0.mono le103)⟩ ?_
       rintro m139 f w119 ⟨s118, F8, as118_5, ns118_5, es118_10, es118_11, as118_0, ns118_0, es118_0, hit140, hs120, le121, ⟨_, rfl⟩, hbs118_5, hss118_5, hrs118_10, hrs118_11, hrs118_0⟩
       obtain ⟨m141, fl142, rfl, hb143, hnx144⟩ := AU hit140
       refine Sq <| Bk <| Sq (Rg (rG 13) ?_)
       refine Vs 1 <| Ld hs120.at1 <| Vs 1 ?_
       have hs145 := hs120.pk1.pk1.pk4.pk4.pk4
       obtain ⟨r146, hr147, h148⟩ := bind_some hb143
       refine CB EJ (EY N (hG.mono ((((((le30.t le45).trans le52).trans le63).trans le78).trans le103).trans le121)) b36 (({ o_ := ({ Report := s118.2.2.1, Serial := s118.2.2.2.1, Zone := s118.2.2.2.2.1 } : Ac), lines_ := s118.2.2.2.2.2.1, known_ := s118.2.2.2.2.2.2.2.2.2.2.1, read_ := s118.2.2.2.2.2.2.2.2.2.2.2 } : Al)) as118_5 ns118_5 mbm33_4 es118_10 mbm33_5 es118_11 hbs118_5 hss118_5 hrs118_10 hrs118_11 (({ at_ := s118.2.2.2.2.2.2.1, stage_ := s118.2.2.2.2.2.2.2.1, num_ := s118.2.2.2.2.2.2.2.2.1, minute_ := s118.2.2.2.2.2.2.2.2.2.1 } : An)) s118.2.1 hs145 _ hr147) ?_
       rintro _ F10 w149 _ hs150 le151 ⟨ar146_0_3, nr146_0_3, er146_0_4, er146_0_5, rfl, rfl, hbr146_0_3, hsr146_0_3, hrr146_0_4, hrr146_0_5⟩
       refine Vs 4 <| Al' 143 #[(vi 0), (vi 0), (vi 0), (vi 0)] hs150 (fun b153 w154 hs155 => ?_)
       refine Al' 150 #[(vi 0), (vi 0), (sv (([] : UQ)))] hs155 (fun b156 w157 hs158 => ?_)
       refine St1 (Af r146.2.1) hs158 (fun w159 hs160 => ?_)
       refine St0 (Fl r146.2.2.1) hs160 (fun w161 hs162 => ?_)
       refine Vs 1 <| Nss ?_
       obtain ⟨j168, hj179, h180⟩ := bind_some h148
       refine RD 13 13 [(sb b156 (Fl r146.2.2.1) 150), (sb b153 (Af r146.2.1) 143), es118_0, (sb b65 #[(vi s118.2.2.2.2.2.2.1), (vi s118.2.2.2.2.2.2.2.1), (vi s118.2.2.2.2.2.2.2.2.1), (vi s118.2.2.2.2.2.2.2.2.2.1)] 143)] [] hs162 (fun f w => ∃ (F11 : Mem) (aj168_4 : UR) (nj168_4 : Nat) (ej168_5 : Option Nat × Obj) (ej168_6 : Option Nat × Obj), HS w0 F0 w F11 [(sb b156 (Fl r146.2.2.1) 150), (sb b153 (Af r146.2.1) 143), (sb b36 #[(.bool j168.2.1), (.bool j168.2.2.1), (.bool j168.2.2.2.1), (.slice aj168_4 j168.2.2.2.2.1.length nj168_4), (.map (some mbm33_4)), (.map (some mbm33_5))] 148), ej168_5, ej168_6, es118_0, (sb b65 #[(vi s118.2.2.2.2.2.2.1), (vi s118.2.2.2.2.2.2.2.1), (vi s118.2.2.2.2.2.2.2.2.1), (vi s118.2.2.2.2.2.2.2.2.2.1)] 143)] /\ Uw F10 F11 /\ FI f [] [(1, (sv x1)), (8, (pt b36 0)), (10, (vi r47.2)), (11, (.slice as118_0 s118.1.length ns118_0)), (12, (pt b65 0)), (13, (vi s118.2.1)), (14, (pt b153 0)), (15, (pt b156 0)), (68, (.bool j168.1))] /\ LC j168.2.2.2.2.1.length nj168_4 /\ SlA AF F11 aj168_4 j168.2.2.2.2.1 /\ A8 Ax AQ F11 mbm33_4 j168.2.2.2.2.2.1 ej168_5 /\ A8 AF Ar F11 mbm33_5 j168.2.2.2.2.2.2 ej168_6) (fun wd163 hw164 => ?_) ?_
       ·refine Dv [0, 1] ?_
        refine Sd hj179 (fun hb181 h182 => ?_) (fun hb181 h183 => ?_)
        ·refine Dg 2 58 3 _ 1 true 57 hb181 (fun _ hq => mv 13 (vi s118.2.1)) ?_
         refine Dg 4 60 138 _ 1 true 57 hb181 (fun _ hq => mv 8 (pt b36 0)) <| Dg 5 61 143 _ 1 true 57 hb181 (fun _ hq => ld 143 14 b153 0 true 4 (.agg (Af r146.2.1)) (hq.1.2 1 _ _ rfl)) <| Dg 8 64 138 _ 1 true 57 hb181 (fun _ hq => mv 8 (pt b36 0)) <| Dg 9 65 143 _ 1 true 57 hb181 (fun _ hq => ld 143 12 b65 0 true 4 (.agg #[(vi s118.2.2.2.2.2.2.1), (vi s118.2.2.2.2.2.2.2.1), (vi s118.2.2.2.2.2.2.2.2.1), (vi s118.2.2.2.2.2.2.2.2.2.1)]) (hq.1.2 3 _ _ rfl)) <| D1 3 ?_
         obtain ⟨r184, hr185, h186⟩ := bind_some h182
         refine UI (l' := [true, true, true, true, true, true, false, false, true, true, false, false, false]) (zd := true) (by kernel_rfl) (by kernel_rfl) (by kernel_rfl) (dst := (some 59)) (ty := 3) (g := (some (1, true))) (by kernel_rfl) (Ho (d := 57) (by kernel_rfl) rfl hb181) (f0 := (.func 112)) (aos := #[(.tmp 58)]) (ats := #[3]) (fid := 112) (first := #[]) (cap := #[]) (args := [(vi s118.2.1)]) rfl Jt rfl hw164 (KM N wd163 F10 hw164.pers s118.2.1 _ hr185) ?_
         rintro _ F12 w188 hs189 le190 rfl
         refine D1 6 ?_
         have hs192 := hs189.pk6.pk6.pk3.pk3.pk6
         obtain ⟨r193, hr194, h195⟩ := bind_some h186
         refine Aw.callB (l' := [true, true, true, true, true, true, true, false, true, true, false, false, false]) (zd := true) (by kernel_rfl) (by kernel_rfl) (dst := (some 62)) (ty := 3) (g := (some (1, true))) (by kernel_rfl) (Ho (d := 57) (by kernel_rfl) rfl hb181) (f0 := (.func 109)) (aos := #[(.tmp 60), (.tmp 61)]) (ats := #[138, 143]) (fid := 109) (first := #[]) (cap := #[]) (args := [(pt b36 0), (.agg (Af r146.2.1))]) rfl B7 rfl (Do N (hG.mono ((((((((le30.t le45).trans le52).trans le63).trans le78).trans le103).trans le121).trans le151).trans le190)) b36 r146.1 ar146_0_3 nr146_0_3 mbm33_4 er146_0_4 mbm33_5 er146_0_5 hbr146_0_3 (Uz hsr146_0_3 le190) (hrr146_0_4.mono le190) (hrr146_0_5.mono le190) r146.2.1 hs192.pk6.pk6 _ hr194) ?_
         rintro _ F13 w196 _ hs197 le198 ⟨ar193_0_3, nr193_0_3, er193_0_4, er193_0_5, rfl, rfl, hbr193_0_3, hsr193_0_3, hrr193_0_4, hrr193_0_5⟩
         refine ⟨Ba hs197 (le190.t le198) (by simp) (zdT (by kernel_rfl)), ?_⟩
         refine Dg 7 63 3 (vi (W64 (r184 + r193.2))) 1 true 57 hb181 (fun _ hq => PI (t := 3) (t' := 3) (x := (.tmp 59)) (y := (.tmp 62)) (k := .i64) (a := r184) (b := r193.2) rfl rfl) <| D1 10 ?_
         obtain ⟨r200, hr201, h202⟩ := bind_some h195
         refine Aw.callB (l' := [true, true, true, true, true, true, true, true, true, true, true, false, false]) (zd := true) (by kernel_rfl) (by kernel_rfl) (dst := (some 66)) (ty := 3) (g := (some (1, true))) (by kernel_rfl) (Ho (d := 57) (by kernel_rfl) rfl hb181) (f0 := (.func 109)) (aos := #[(.tmp 64), (.tmp 65)]) (ats := #[138, 143]) (fid := 109) (first := #[]) (cap := #[]) (args := [(pt b36 0), (.agg #[(vi s118.2.2.2.2.2.2.1), (vi s118.2.2.2.2.2.2.2.1), (vi s118.2.2.2.2.2.2.2.2.1), (vi s118.2.2.2.2.2.2.2.2.2.1)])]) rfl B7 rfl (Do N (hG.mono (((((((((le30.t le45).trans le52).trans le63).trans le78).trans le103).trans le121).trans le151).trans le190).trans le198)) b36 r193.1 ar193_0_3 nr193_0_3 mbm33_4 er193_0_4 mbm33_5 er193_0_5 hbr193_0_3 hsr193_0_3 hrr193_0_4 hrr193_0_5 (({ at_ := s118.2.2.2.2.2.2.1, stage_ := s118.2.2.2.2.2.2.2.1, num_ := s118.2.2.2.2.2.2.2.2.1, minute_ := s118.2.2.2.2.2.2.2.2.2.1 } : An)) hs197 _ hr201) ?_
         rintro _ F14 w203 _ hs204 le205 ⟨ar200_0_3, nr200_0_3, er200_0_4, er200_0_5, rfl, rfl, hbr200_0_3, hsr200_0_3, hrr200_0_4, hrr200_0_5⟩
         refine ⟨Ba hs204 ((le190.t le198).trans le205) (by simp) (zdT (by kernel_rfl)), ?_⟩
         refine Dg 11 67 4 (.bool ((W64 (r184 + r193.2)) == r200.2)) 1 true 57 hb181 (fun _ hq => I8 (t := 3) (t' := 3) (x := (.tmp 63)) (y := (.tmp 66)) (k := .i64) (a := (W64 (r184 + r193.2))) (b := r200.2) rfl rfl) <| Dt 12 68 4 _ (fun _ hq => p1 57 (.tmp 67) (.const (.bool false)) (.bool ((W64 (r184 + r193.2)) == r200.2)) hb181) ?_
         obtain rfl := Aa h202
         have hs207 := hs204.pk6.pk6.pk4.pk4.pk4
         exact UJ (by kernel_rfl) ⟨F14, ar200_0_3, nr200_0_3, er200_0_4, er200_0_5, hs207.pk6.pk6, ((le190.t le198).trans le205), fI, hbr200_0_3, hsr200_0_3, hrr200_0_4, hrr200_0_5⟩
        ·refine Dk [(2, 58), (3, 59), (4, 60), (5, 61), (6, 62), (7, 63), (8, 64), (9, 65), (10, 66), (11, 67)] 1 true 57 hb181 ?_
         refine Dt 12 68 4 _ (fun _ hq => p0 57 (.tmp 67) (.const (.bool false)) (.bool false) hb181) ?_
         obtain rfl := Aa h183
         exact UJ (by kernel_rfl) ⟨F10, ar146_0_3, nr146_0_3, er146_0_4, er146_0_5, hw164, (Ux _), fI, hbr146_0_3, hsr146_0_3, hrr146_0_4, hrr146_0_5⟩
       ·rintro f w165 ⟨F11, aj168_4, nj168_4, ej168_5, ej168_6, hs166, le167, ⟨_, rfl⟩, hbj168_4, hsj168_4, hrj168_5, hrj168_6⟩
        refine Ab <| Cd h180 (fun hb208 h209 => ?_) (fun hb208 h210 => ?_)
        ·refine Sq (Rg (rG 5) ?_)
         refine Vs 1 <| Ld hs166.at0 <| Bs 150 [(vi r146.2.2.1.Kind), (vi r146.2.2.1.At), (sv r146.2.2.1.Text)] hs166 (fun b211 w212 hs213 => ?_)
         have hr215 : Ap I3 150 F11 (some ⟨b211, 0, none⟩) 1 [r146.2.2.1] (some b211, .cells ([(vi r146.2.2.1.Kind), (vi r146.2.2.1.At), (sv r146.2.2.1.Text)] : List Value).toArray 150 (0, 0)) := UM ⟨rfl, rfl⟩ (by simp)
         obtain ⟨r216, hap217, h218⟩ := bind_some h209
         refine Ap6 TV hs213 (hrs118_0.mono (le151.t le167)) (hs213.rd0 hr215) hap217 (fun a219 n220 e221 w222 hs223 hr224 => ?_)
         refine Vs 1 <| Nss (Rg [0, 1] ?_)
         refine Ld hs223.at2 <| St7 (Af r146.2.1) hs223 (fun w225 hs226 => ?_)
         refine Nt <| Ex <| KO (by decide) <| Au <| Au <| AA rfl ?_
         have hs227 := hs226.dr0.dr0.dr0.pk2.pk2
         have ho228 := AW h218 hnx144
         exact .inl ⟨rfl, (r216, s118.2.1, j168.2.1, j168.2.2.1, j168.2.2.2.1, j168.2.2.2.2.1, r146.2.1.at_, r146.2.1.stage_, r146.2.1.num_, r146.2.1.minute_, j168.2.2.2.2.2.1, j168.2.2.2.2.2.2), F11, aj168_4, nj168_4, ej168_5, ej168_6, a219, n220, e221, ho228, hs227.pk2.pk4.pk4, ((le121.t le151).trans le167), fI, hbj168_4, hsj168_4, hrj168_5, hrj168_6, hr224⟩
        ·refine Sc ?_
         refine Av <| Ab <| Rg [0, 1, 2] <| Vs 3 <| Us ?_
         have hs229 := hs166.dr0.dr0.pk2.pk2.pk2
         have hn230 := AV h210 hnx144
         exact ⟨m141, Nat.lt_succ_self _, (s118.1, (W64 (s118.2.1 + 1)), j168.2.1, j168.2.2.1, j168.2.2.2.1, j168.2.2.2.2.1, s118.2.2.2.2.2.2.1, s118.2.2.2.2.2.2.2.1, s118.2.2.2.2.2.2.2.2.1, s118.2.2.2.2.2.2.2.2.2.1, j168.2.2.2.2.2.1, j168.2.2.2.2.2.2), F11, aj168_4, nj168_4, ej168_5, ej168_6, as118_0, ns118_0, es118_0, hn230, hs229.pk4.pk4, ((le121.t le151).trans le167), fI, hbj168_4, hsj168_4, hrj168_5, hrj168_6, (hrs118_0.mono (le151.t le167))⟩
      ·rintro f w130 ⟨s129, F9, as129_5, ns129_5, es129_10, es129_11, as129_0, ns129_0, es129_0, rfl, hs131, le132, ⟨_, rfl⟩, hbs129_5, hss129_5, hrs129_10, hrs129_11, hrs129_0⟩
       have h231 := BL h117
       refine Av <| Ab <| Sq (Rg [0] ?_)
       refine Ld hs131.at1 <| Nt <| Rg [0, 1] <| Al' 143 #[(vi 0), (vi 0), (vi 0), (vi 0)] hs131 (fun b232 w233 hs234 => ?_)
       refine St0 #[(vi s129.2.2.2.2.2.2.1), (vi s129.2.2.2.2.2.2.2.1), (vi s129.2.2.2.2.2.2.2.2.1), (vi s129.2.2.2.2.2.2.2.2.2.1)] hs234 (fun w235 hs236 => ?_)
       refine Us ?_
       have hs237 := hs236.dr2.pk4.pk4.pk4.pk3
       have hn238 := AV h231 hnx98
       exact ⟨m95, Nat.lt_succ_self _, (s129.1, s129.2.2.1, s129.2.2.2.1, s129.2.2.2.2.1, s129.2.2.2.2.2.1, s129.2.2.2.2.2.2.1, s129.2.2.2.2.2.2.2.1, s129.2.2.2.2.2.2.2.2.1, s129.2.2.2.2.2.2.2.2.2.1, s129.2.2.2.2.2.2.2.2.2.2.1, s129.2.2.2.2.2.2.2.2.2.2.2), F9, b232, as129_5, ns129_5, es129_10, es129_11, as129_0, ns129_0, es129_0, hn238, hs237.pk4, ((le78.t le103).trans le132), fI, hbs129_5, hss129_5, hrs129_10, hrs129_11, hrs129_0⟩
     ·refine Ex ?_
      refine Au <| Au <| AA rfl ?_
      have ho239 := AW h114 hnx98
      exact .inl ⟨rfl, (s75.1, s75.2.1, s75.2.2.1, s75.2.2.2.1, s75.2.2.2.2.1, s75.2.2.2.2.2.1, s75.2.2.2.2.2.2.1, s75.2.2.2.2.2.2.2.1, s75.2.2.2.2.2.2.2.2.1, s75.2.2.2.2.2.2.2.2.2.1, s75.2.2.2.2.2.2.2.2.2.2), F7, as75_0, ns75_0, es75_0, ho239, hs102.dr1.dr1.dr1.dr1, (le78.t le103), fI, (hrs75_0.mono le103)⟩
   ·rintro f w86 ⟨s85, F6, as85_0, ns85_0, es85_0, rfl, hs87, le88, ⟨_, rfl⟩, hrs85_0⟩
    have h240 := BL h74
    refine Ab <| Sq (Rg (rG 8) ?_)
    refine Vs 2 ?_
    have hb244 := UK hrs85_0
    obtain ⟨F15, hs241, le242, hs243⟩ := hs87.fr0 hrs85_0
    obtain ⟨r245, hr246, h247⟩ := bind_some h240
    refine Cl' Ma hs241 (MJ N w86 F15 hs241.pers (hG.mono (((((le30.t le45).trans le52).trans le63).trans le88).trans le242)) x1 s85.1 as85_0 ns85_0 hb244 hs243 _ hr246) ?_
    rintro _ F16 w249 hs250 le251 rfl
    refine Vs 5 <| Nss (Rg (rG 8) ?_)
    refine Vs 8 <| Nt <| Rt ?_
    obtain rfl := Aa h247
    exact Re [(sv r245.1), (.slice as85_0 s85.1.length ns85_0), (vi r47.2), (vi r245.2)] hs250 ⟨as85_0, ns85_0, rfl, hb244, (Uz hs243 le251)⟩
def CI (N : Nat) (x0 : Line) (x1 : Int) : Option Int :=
 ((GR N x0.Num x1).bind fun r24 => some r24)
theorem FB : Ag Tryz.prog 253 := fun _ _ => by kernel_rfl
theorem Ge (N : Nat) (w0 : World) (F0 : Mem) (hF : US w0 F0) (x0 : Line) (x1 : Int) (r : Int) (h : CI N x0 x1 = some r) :
  Calls Tryz.prog 253 ([(.agg (B6 x0)), (vi x1)] : List Value).toArray w0 (AB w0 F0 fun F' v => v = (vi r)) := by
 have hs0 := Uy hF
 refine Go 9 Tryz.func253 <| Sq (Rg [0, 1] ?_)
 refine Bx' 34 (B6 x0) hs0 (fun b21 w22 hs23 => ?_)
 refine Vs 1 <| Nss (Rg (rG 5) ?_)
 refine Vs 1 <| Ld hs23.at0 <| Vs 1 ?_
 obtain ⟨r24, hr25, h26⟩ := bind_some h
 refine Cl' IL hs23 (JE N w22 F0 hs23.pers x0.Num x1 _ hr25) ?_
 rintro _ F1 w28 hs29 le30 rfl
 refine Vs 1 <| Nt <| Rt ?_
 obtain rfl := Aa h26
 exact Re [(vi r24)] hs29 rfl
def EG (N : Nat) (x0 : A2) (x1 : Int) : Option (Int × Bool) :=
 ((Bn N x0.l_.Lines x1 (fun y0 y1 => CI N y0 y1)).bind fun r21 => some (r21.1, r21.2))
theorem Gz : Ag Tryz.prog 207 := fun _ _ => by kernel_rfl
theorem G0 (N : Nat) {wb w0 : World} {Fb F0 : Mem} {Lf : Own} (bp0 : Nat) (x0 : A2) (a0_7 : UR) (n0_7 : Nat) (a0_8 : UR) (n0_8 : Nat) (e0_8 : Option Nat × Obj) (hb0_7 : LC x0.l_.Jumps.length n0_7) (hs0_7 : SlA AQ F0 a0_7 x0.l_.Jumps) (hr0_8 : Ap AK 34 F0 a0_8 n0_8 x0.l_.Lines e0_8) (x1 : Int) (hs0 : HS wb Fb w0 F0 ((sb bp0 (BB x0 a0_7 n0_7 a0_8 n0_8) 214) :: e0_8 :: Lf)) (r : (Int × Bool)) (h : EG N x0 x1 = some r) :
  Calls Tryz.prog 207 ([(pt bp0 0), (vi x1)] : List Value).toArray w0 (Ed wb Fb F0 fun F' v L' => v = (.tuple #[(vi r.1), (.bool r.2)]) /\ L' = (sb bp0 (BB x0 a0_7 n0_7 a0_8 n0_8) 214) :: e0_8 :: Lf) := by
 refine Go 15 Tryz.func207 <| Sq (Rg [0, 1] ?_)
 refine Vs 2 <| Nss (Rg (rG 11) ?_)
 refine Vs 4 <| Ld hs0.at0 <| Vs 1 ?_
 obtain ⟨r21, hr22, h23⟩ := bind_some h
 refine RWP.callLentP (q := 1) (v0 := (.tuple #[(vi r21.1), (.bool r21.2)])) (dst := (some 12)) (ty := 119) (g := none) (by kernel_rfl) rfl (f0 := (.func 252)) (aos := #[(.tmp 10), (.tmp 11), (.func 253)]) (ats := #[25, 3, 281]) (fid := 252) (first := #[]) (cap := #[]) (args := [(.slice a0_8 x0.l_.Lines.length n0_8), (vi x1), (fV 253 #[])]) rfl BV rfl hs0 rfl (B8 N w0 (GJ F0 e0_8) (HS.lend hs0 (q := 1) rfl).2 x0.l_.Lines a0_8 n0_8 (UK hr0_8) (Ap.freeze hr0_8 (HS.lend hs0 (q := 1) rfl).1) x1 253 [] [] (fun y0 y1 => CI N y0 y1) FB (fun w1 F1 y0 y1 r le1 pe1 hr1 => Ge N w1 F1 pe1 y0 y1 r hr1) _ hr22) (fun F1 w24 (hs25 : HS wb Fb w24 F1 ((sb bp0 (BB x0 a0_7 n0_7 a0_8 n0_8) 214) :: e0_8 :: Lf)) le26 => ?_)
 refine Vs 4 <| Nt <| Rt ?_
 obtain rfl := Aa h23
 exact ReB [(vi r21.1), (.bool r21.2)] hs25 le26 ⟨rfl, rfl⟩
def BC (N : Nat) (l : List Line) (i j : Int) : Option (List Line) := if 0 <= i /\ i < j /\ j <= (l.length : Int) then some (l.take i.toNat ++ l.drop j.toNat) else none
theorem DH : Ag Tryz.prog 208 := fun _ _ => by kernel_rfl
theorem DP (N : Nat) {wb w0 : World} {Fb F0 : Mem} {Lf : Own} (x0 : List Line) (a0 : UR) (n0 : Nat) (e0 : Option Nat × Obj) (hr0 : Ap AK 34 F0 a0 n0 x0 e0) (hs0 : HS wb Fb w0 F0 (e0 :: Lf)) (x1 x2 : Int) (r : List Line) (h : BC N x0 x1 x2 = some r) :
  Calls Tryz.prog 208 ([.slice a0 x0.length n0, .int .i64 x1, .int .i64 x2] : List Value).toArray w0 (fun e w' => ∃ F' a' n' e', e = .returned (.slice a' r.length n') /\ HS wb Fb w' F' (e' :: Lf) /\ Uw F0 F' /\ Ap AK 34 F' a' n' r e') := by
 unfold BC at h
 split at h
 case isFalse => cases h
 rename_i hc
 obtain ⟨h1, h2, h3⟩ := hc
 obtain ⟨i, rfl⟩ : ∃ i : Nat, x1 = (i : Int) := ⟨x1.toNat, by omega⟩
 obtain ⟨j, rfl⟩ : ∃ j : Nat, x2 = (j : Int) := ⟨x2.toNat, by omega⟩
 simp only [Int.toNat_natCast] at h
 have hij : i < j := by omega
 have hjl : j <= x0.length := by omega
 have hb := hr0.bound
 rcases hr0.2 with ⟨_, _, hn, _⟩ | ⟨b, C, rfl, rfl, hlc, hC, hx⟩
 ·subst hn; simp at hjl; omega
 have hsz : AK.sz = 11 := rfl
 have hr1 : Ap AK 34 F0 (some ⟨b, 0, none⟩) n0 (x0.take i) (some b, .cells C 34 (0, 0)) := hr0.take i
 have hl1 : (x0.take i).length = i := by simp; omega
 have hl2 : (x0.drop j).length = x0.length - j := by simp
 have hrl : r.length = i + (x0.length - j) := by cases h; simp; omega
 have hlt : r.length < x0.length := by omega
 have er : x0.take i ++ x0.drop j = r := by cases h; rfl
 have hne : (((i : Int) == (j : Int)) : Bool) = false := by
  rw [beq_eq_false_iff_ne]; omega
 refine Go 33 Tryz.func208 <| Sq (Rg [0] ?_)
 refine Vs 1 <| Nt <| Sq (Rg [0, 1, 2, 3, 4, 5] ?_)
 refine Vs 5 <| V 13 25 (D8 (x := .tmp 8) (lo := some (.tmp 9)) (hi := some (.tmp 10)) (mx := some (.tmp 12)) (t := 25) (E := 34) (s := 11) (by_ := 96) (n := x0.length) (c := n0) (a := some ⟨b, 0, none⟩) (i := i) (j := j) (m := x0.length) rfl (by kernel_rfl) (by kernel_rfl) rfl rfl rfl (fun _ => rfl) (by omega) hjl hlc) <| Nt <| Sq <| Sq (Rg [0, 1, 2] ?_)
 refine Vs 3 <| Nt <| C0 hne <| Sc <| Ab <| Sq (Rg [0, 1, 2] ?_)
 refine Vs 3 <| Nt <| Sq <| RD 8 8 [] [] hs0 (fun f w => ∃ C', C'.size = C.size /\ HS wb Fb w F0 ((some b, .cells C' 34 (0, 0)) :: Lf) /\ Ap AK 34 F0 (some ⟨b, 0, none⟩) n0 r (some b, .cells C' 34 (0, 0)) /\ FI f [] [(0, .slice (some ⟨b, 0, none⟩) r.length n0), (7, .int .i64 (x0.length : Int))]) (fun wd hw => ?_) ?_
 ·refine Dv [0, 1] ?_
  refine DWP.tk 2 (v := .slice (some ⟨b, 0, none⟩) (x0.take i).length n0) (fun wq hq => ?_) ?_ (by kernel_rfl) (by kernel_rfl) (by kernel_rfl)
  ·have e : (if n0 = 0 then some (⟨b, 0, none⟩ : Addr) else (some (⟨b, 0, none⟩ : Addr)).map (·.add (0 * 11))) = some ⟨b, 0, none⟩ := by
    split
    ·rfl
    ·rfl
   refine (D8 (P := Tryz.prog) (lo := none) (hi := some (.tmp 21)) (mx := none) (t := 25) (E := 34) (s := 11) (by_ := 96) (n := x0.length) (c := n0) (a := some ⟨b, 0, none⟩) (i := 0) (j := i) (m := n0) rfl (by kernel_rfl) (by kernel_rfl) rfl rfl rfl (fun h => by cases h) (by omega) (by omega) (Nat.le_refl _)).trans ?_
   rw [e, Nat.sub_zero, Nat.sub_zero, hl1]
  refine Dv [3, 4] <| DWP.tk 5 (v := .slice (if n0 = j then some ⟨b, 0, none⟩ else (some (⟨b, 0, none⟩ : Addr)).map (·.add (j * 11))) (x0.drop j).length (n0 - j)) (fun wq hq => ?_) ?_ (by kernel_rfl) (by kernel_rfl) (by kernel_rfl)
  ·rw [hl2]
   exact D8 (P := Tryz.prog) (lo := some (.tmp 24)) (hi := none) (mx := none) (t := 25) (E := 34) (s := 11) (by_ := 96) (n := x0.length) (c := n0) (a := some ⟨b, 0, none⟩) (i := j) (j := x0.length) (m := n0) rfl (by kernel_rfl) (by kernel_rfl) rfl rfl rfl (fun h => by cases h) hjl hlc (Nat.le_refl _)
  have hrd : Rd AK F0 wd (if n0 = j then some ⟨b, 0, none⟩ else (some (⟨b, 0, none⟩ : Addr)).map (·.add (j * 11))) (x0.drop j) := by
   by_cases hj : n0 = j
   ·exact .inl (by apply List.drop_eq_nil_of_le; omega)
   ·rw [if_neg hj]
    refine .inr ⟨b, j * 11, C, 34, (0, 0), by simp [Addr.add_lit], hw.ownAt (k := 0) rfl, fun q x hq => ?_⟩
    rw [List.getElem?_drop] at hq
    have := hx _ _ hq
    rw [hsz, Nat.add_mul] at this
    exact this
  obtain ⟨C', hC', hr2, hrun⟩ := LM (P := Tryz.prog) (T := AK) (t := 25) (t2 := 25) (by_ := 96) (c2 := n0 - j) (by kernel_rfl) (by kernel_rfl) Q4 hw (k := 0) rfl hr1 hrd (by rw [hl1, hl2]; omega) (by rw [hl1, hl2]; have := hr0.1; omega)
  rw [er] at hrun hr2
  have hs2 : HS wb Fb _ F0 ((some b, .cells C' 34 (0, 0)) :: Lf) := hw.put (k := 0) rfl (.cells C' 34 (0, 0))
  refine D1 6 <| UG (l' := [true, true, true, true, true, true, true, false]) (zd := true) (by kernel_rfl) (by kernel_rfl) (dst := some 26) (ty := 25) (g := none) (by kernel_rfl) rfl (hrun (x := .tmp 22) (y := .tmp 25) (by kernel_rfl) (by kernel_rfl)) (Ba hs2 (Ux _) (by simp) (fun e => by cases e)) <| Dv [7] ?_
  exact UJ (by kernel_rfl) ⟨C', hC', hs2, hr2, fI⟩
 ·rintro f w ⟨C', hC', hs2, hr2, ⟨_, rfl⟩⟩
  refine Ab <| Sq (Rg [0, 1, 2, 3, 4, 5] ?_)
  refine Vs 4 ?_
  have e : (if n0 = r.length then some (⟨b, 0, none⟩ : Addr) else (some (⟨b, 0, none⟩ : Addr)).map (·.add (r.length * 11))) = some ⟨b, r.length * 11, none⟩ := by
   rw [if_neg (by omega)]; simp [Addr.add_lit]
  refine V 31 25 (D8 (P := Tryz.prog) (x := .tmp 27) (lo := some (.tmp 29)) (hi := some (.tmp 30)) (mx := none) (t := 25) (E := 34) (s := 11) (by_ := 96) (n := r.length) (c := n0) (a := some ⟨b, 0, none⟩) (i := r.length) (j := x0.length) (m := n0) rfl (by kernel_rfl) (by kernel_rfl) rfl rfl rfl (fun h => by cases h) (by omega) hlc (Nat.le_refl _)) ?_
  rw [e]
  obtain ⟨vs, hvs, hrun⟩ := Ns (P := Tryz.prog) (T := AK) (E := 34) (w := w) (b := b) (C := C') (j := r.length) (k := x0.length - r.length) (c := n0 - r.length) (t := 25) (by_ := 96) (z := .agg #[.int .i64 0, .int .i64 0, .int .i64 0, .int .i64 0, .string ⟨([] : UQ).toArray⟩, .int .i64 0, .int .i64 0, .int .i64 0, .int .i64 0, .int .i64 0, .int .i64 0]) (by kernel_rfl) (by kernel_rfl) rfl rfl (hs2.ownAt (k := 0) rfl) (by omega) (by rw [hC', hC, <- Nat.add_mul]; exact Nat.mul_le_mul_right _ (by omega))
  have hfit : r.length * AK.sz + vs.length <= C'.size := by rw [hvs, hC', hC, <- Nat.add_mul]; exact Nat.mul_le_mul_right _ (by omega)
  have hs3 : HS wb Fb _ F0 ((some b, .cells (CA C' (r.length * AK.sz) vs) 34 (0, 0)) :: Lf) := hs2.put (k := 0) rfl _
  have hr3 : Ap AK 34 F0 (some ⟨b, 0, none⟩) n0 r (some b, .cells (CA C' (r.length * AK.sz) vs) 34 (0, 0)) := by
   rcases hr2.2 with ⟨h, _⟩ | ⟨b', C0, hb', hc', k1, k2, k3⟩
   ·cases h
   ·cases hb'; cases hc'
    refine ⟨hr2.1, .inr ⟨b, _, rfl, rfl, k1, by rw [ER]; exact k2, fun q x hq => ?_⟩⟩
    have hql : q < r.length := by
     rcases Nat.lt_or_ge q r.length with h' | h'
     ·exact h'
     ·rw [List.getElem?_eq_none h'] at hq; cases hq
    rw [NQ hfit (by rw [<- Nat.succ_mul]; exact Nat.mul_le_mul_right _ hql)]
    exact k3 q x hq
  refine Ut (dst := none) (ty := 0) (g := none) (by kernel_rfl) rfl (hrun (x := .tmp 31) (by kernel_rfl)) <| Nt <| Sq (Rg [0, 1] ?_)
  refine Vs 2 <| Nt <| Rt ?_
  exact ⟨rfl, _, AR (l := [.tmp 6]) (by kernel_rfl) (vs := [.slice (some ⟨b, 0, none⟩) r.length n0]) ⟨by kernel_rfl, trivial⟩, F0, _, _, _, rfl, hs3, Ux _, hr3⟩
def EH (N : Nat) (x0 : A2) (x1 : Fix) : Option (A2 × Fix × Bool) :=
 ((EG N ({ o_ := ({ Report := x0.o_.Report, Serial := x0.o_.Serial, Zone := x0.o_.Zone } : Ac), l_ := x0.l_ } : A2) x1.Num).bind fun r27 => (bif ((!r27.2) || (!((x1.Line.Num == 0) && ((x1.Line.Khz == 0) && ((x1.Line.Mode == 0) && ((x1.Line.Minute == 0) && ((x1.Line.Call == ([] : UQ)) && (((x1.Line.Sent.Report == 0) && ((x1.Line.Sent.Serial == 0) && ((x1.Line.Sent.Zone == 0) && true))) && (((x1.Line.Got.Report == 0) && ((x1.Line.Got.Serial == 0) && ((x1.Line.Got.Zone == 0) && true))) && true))))))))) then none else ((idx x0.l_.Lines r27.1).bind fun x47 => ((BC N x0.l_.Lines r27.1 (W64 (r27.1 + 1))).bind fun r64 => some (({ o_ := ({ Report := x0.o_.Report, Serial := x0.o_.Serial, Zone := x0.o_.Zone } : Ac), l_ := ({ Call := x0.l_.Call, Category := x0.l_.Category, Power := x0.l_.Power, Claimed := x0.l_.Claimed, Jumps := x0.l_.Jumps, Lines := r64 } : Log) } : A2), ({ Kind := 2, Num := x1.Num, Line := x47 } : Fix), true)))))
theorem GA : Ag Tryz.prog 178 := fun _ _ => by kernel_rfl
theorem G1 (N : Nat) {wb w0 : World} {Fb F0 : Mem} {Lf : Own} (bp0 : Nat) (x0 : A2) (a0_7 : UR) (n0_7 : Nat) (a0_8 : UR) (n0_8 : Nat) (e0_8 : Option Nat × Obj) (hb0_7 : LC x0.l_.Jumps.length n0_7) (hs0_7 : SlA AQ F0 a0_7 x0.l_.Jumps) (hr0_8 : Ap AK 34 F0 a0_8 n0_8 x0.l_.Lines e0_8) (x1 : Fix) (hs0 : HS wb Fb w0 F0 ((sb bp0 (BB x0 a0_7 n0_7 a0_8 n0_8) 214) :: e0_8 :: Lf)) (r : (A2 × Fix × Bool)) (h : EH N x0 x1 = some r) :
  Calls Tryz.prog 178 ([(pt bp0 0), (.agg (Ou x1))] : List Value).toArray w0 (Ed wb Fb F0 fun F' v L' => ∃ (aq0_7 : UR) (nq0_7 : Nat) (aq0_8 : UR) (nq0_8 : Nat) (eq0_8 : Option Nat × Obj), v = (.tuple #[(.agg (Ou r.2.1)), (.bool r.2.2)]) /\ L' = (sb bp0 (BB r.1 aq0_7 nq0_7 aq0_8 nq0_8) 214) :: eq0_8 :: Lf /\ LC r.1.l_.Jumps.length nq0_7 /\ SlA AQ F' aq0_7 r.1.l_.Jumps /\ Ap AK 34 F' aq0_8 nq0_8 r.1.l_.Lines eq0_8) := by
 refine Go 50 Tryz.func178 <| Sq (Rg [0, 1, 2] ?_)
 refine Bx' 64 (Ou x1) hs0 (fun b21 w22 hs23 => ?_)
 refine Al' 64 #[(vi 0), (vi 0), (vi 0), (vi 0), (vi 0), (vi 0), (sv (([] : UQ))), (vi 0), (vi 0), (vi 0), (vi 0), (vi 0), (vi 0)] hs23 (fun b24 w25 hs26 => ?_)
 refine Vs 1 <| Nss (Rg (rG 9) ?_)
 refine Vs 2 <| Ld hs26.at1 ?_
 obtain ⟨r27, hr28, h29⟩ := bind_some h
 refine CB Gz (G0 N bp0 (({ o_ := ({ Report := x0.o_.Report, Serial := x0.o_.Serial, Zone := x0.o_.Zone } : Ac), l_ := x0.l_ } : A2)) a0_7 n0_7 a0_8 n0_8 e0_8 hb0_7 hs0_7 hr0_8 x1.Num hs26.pk1.pk1.pk3.pk3 _ hr28) ?_
 rintro _ F1 w30 _ hs31 le32 ⟨rfl, rfl⟩
 refine Vs 5 <| Nss <| Sq (Rg (rG 8) ?_)
 refine UC (fun f w => ∃ (F2 : Mem), HS wb Fb w F2 ((sb bp0 (BB x0 a0_7 n0_7 a0_8 n0_8) 214) :: e0_8 :: (sb b24 #[(vi 0), (vi 0), (vi 0), (vi 0), (vi 0), (vi 0), (sv (([] : UQ))), (vi 0), (vi 0), (vi 0), (vi 0), (vi 0), (vi 0)] 64) :: (sb b21 (Ou x1) 64) :: Lf) /\ Uw F1 F2 /\ FI f [] [(0, (pt bp0 0)), (3, (pt b21 0)), (4, (pt b24 0)), (6, (vi r27.1)), (23, (.bool ((!r27.2) || (!((x1.Line.Num == 0) && ((x1.Line.Khz == 0) && ((x1.Line.Mode == 0) && ((x1.Line.Minute == 0) && ((x1.Line.Call == ([] : UQ)) && (((x1.Line.Sent.Report == 0) && ((x1.Line.Sent.Serial == 0) && ((x1.Line.Sent.Zone == 0) && true))) && (((x1.Line.Got.Report == 0) && ((x1.Line.Got.Serial == 0) && ((x1.Line.Got.Zone == 0) && true))) && true)))))))))))]) ?_ ?_
 ·refine Vs 3 ?_
  refine UB (!r27.2) (fun hb43 => ?_) (fun hb43 => ?_)
  ·refine Ss hb43 4 ?_
   refine Pk1 hb43 ?_
   exact Us ⟨rfl, F1, hs31, (Ux _), (fJ ⟨rfl, rfl, rfl, rfl, (congrArg Value.bool (FN hb43 rfl)), trivial⟩)⟩
  ·refine Vgs hb43 1 ?_
   refine Lg hb43 hs31.at3 <| Vgs hb43 2 <| Pk0 hb43 ?_
   exact Us ⟨rfl, F1, hs31, (Ux _), (fJ ⟨rfl, rfl, rfl, rfl, (kq (.bool (!((x1.Line.Num == 0) && ((x1.Line.Khz == 0) && ((x1.Line.Mode == 0) && ((x1.Line.Minute == 0) && ((x1.Line.Call == ([] : UQ)) && (((x1.Line.Sent.Report == 0) && ((x1.Line.Sent.Serial == 0) && ((x1.Line.Sent.Zone == 0) && true))) && (((x1.Line.Got.Report == 0) && ((x1.Line.Got.Serial == 0) && ((x1.Line.Got.Zone == 0) && true))) && true))))))))) (congrArg Value.bool (Ct hb43 rfl))), trivial⟩)⟩
 ·rintro f w34 ⟨F2, hs35, le36, ⟨_, rfl⟩⟩
  refine Ab <| Cd h29 (fun hb44 h45 => ?_) (fun hb44 h46 => ?_)
  ·cases h45
  ·refine Sc ?_
   refine Ab <| Sq (Rg (rG 10) ?_)
   refine Vs 4 <| Ld hs35.at0 <| Vs 1 ?_
   obtain ⟨x47, hx48, h50⟩ := bind_some h46
   obtain ⟨hi49, hx48'⟩ := As hx48
   obtain ⟨b51, C52, rfl, rfl, hE55⟩ := Ap.open (hr0_8.mono (le32.t le36)) hx48'
   have hr56 := (hr0_8.mono (le32.t le36))
   have hc58 := hE55 _ _ hx48'
   refine Ix0 hi49 <| Lx 0 hs35.at1 hc58 <| Al' 34 #[(vi 0), (vi 0), (vi 0), (vi 0), (sv (([] : UQ))), (vi 0), (vi 0), (vi 0), (vi 0), (vi 0), (vi 0)] hs35 (fun b59 w60 hs61 => ?_)
   refine St0 (B6 x47) hs61 (fun w62 hs63 => ?_)
   refine Nss (Rg (rG 14) ?_)
   refine Vs 5 <| Ld hs63.at1 <| Vs 3 ?_
   obtain ⟨r64, hr65, h66⟩ := bind_some h50
   refine RWP.callS (dst := (some 42)) (ty := 25) (g := none) (by kernel_rfl) rfl (f0 := (.func 208)) (aos := #[(.tmp 38), (.tmp 39), (.tmp 41)]) (ats := #[25, 3, 3]) (fid := 208) (first := #[]) (cap := #[]) (args := [(.slice (some ⟨b51, 0, none⟩) x0.l_.Lines.length n0_8), (vi r27.1), (vi (W64 (r27.1 + 1)))]) rfl DH rfl (DP N (Lf := ((sb b59 (B6 x47) 34) :: (sb bp0 (BB x0 a0_7 n0_7 (some ⟨b51, 0, none⟩) n0_8) 214) :: (sb b24 #[(vi 0), (vi 0), (vi 0), (vi 0), (vi 0), (vi 0), (sv (([] : UQ))), (vi 0), (vi 0), (vi 0), (vi 0), (vi 0), (vi 0)] 64) :: (sb b21 (Ou x1) 64) :: Lf)) x0.l_.Lines (some ⟨b51, 0, none⟩) n0_8 (some b51, .cells C52 34 (0, 0)) hr56 hs63.pk4.pk4.pk3.pk3.pk4 r27.1 ((W64 (r27.1 + 1))) _ hr65) ?_
   rintro _ w70 ⟨F3, a67, n68, e69, rfl, hs71, le72, hr73⟩
   refine ⟨_, rfl, ?_⟩
   have hs74 : HS wb Fb w70 F3 (e69 :: (sb b59 (B6 x47) 34) :: (sb bp0 (BB x0 a0_7 n0_7 (some ⟨b51, 0, none⟩) n0_8) 214) :: (sb b24 #[(vi 0), (vi 0), (vi 0), (vi 0), (vi 0), (vi 0), (sv (([] : UQ))), (vi 0), (vi 0), (vi 0), (vi 0), (vi 0), (vi 0)] 64) :: (sb b21 (Ou x1) 64) :: Lf) := hs71
   refine Vs 3 <| St2 #[(.bool x0.o_.Report), (.bool x0.o_.Serial), (.bool x0.o_.Zone), (sv x0.l_.Call), (vi x0.l_.Category), (vi x0.l_.Power), (vi x0.l_.Claimed), (.slice a0_7 x0.l_.Jumps.length n0_7), (.slice a67 r64.length n68)] hs74 (fun w75 hs76 => ?_)
   refine Nss (Rg (rG 6) ?_)
   refine Vs 1 <| Ld hs76.at4 <| Ld hs76.at1 <| Vs 1 <| St3 #[(vi 2), (vi x1.Num), (vi x47.Num), (vi x47.Khz), (vi x47.Mode), (vi x47.Minute), (sv x47.Call), (vi x47.Sent.Report), (vi x47.Sent.Serial), (vi x47.Sent.Zone), (vi x47.Got.Report), (vi x47.Got.Serial), (vi x47.Got.Zone)] hs76 (fun w77 hs78 => ?_)
   refine Vs 1 <| Nt <| Rt ?_
   obtain rfl := Aa h66
   exact ⟨rfl, (.tuple #[(.agg #[(vi 2), (vi x1.Num), (vi x47.Num), (vi x47.Khz), (vi x47.Mode), (vi x47.Minute), (sv x47.Call), (vi x47.Sent.Report), (vi x47.Sent.Serial), (vi x47.Sent.Zone), (vi x47.Got.Report), (vi x47.Got.Serial), (vi x47.Got.Zone)]), (.bool true)]), AR (l := [.cell 4 64, .tmp 5]) (by kernel_rfl) (vs := [(.agg #[(vi 2), (vi x1.Num), (vi x47.Num), (vi x47.Khz), (vi x47.Mode), (vi x47.Minute), (sv x47.Call), (vi x47.Sent.Report), (vi x47.Sent.Serial), (vi x47.Sent.Zone), (vi x47.Got.Report), (vi x47.Got.Serial), (vi x47.Got.Zone)]), (.bool true)]) ⟨b24, 0, rfl, Am (t := 64) (g := true) (s := 13) (by kernel_rfl) hs78.at3 rfl (by decide), ⟨rfl, trivial⟩⟩, F3, _, _, rfl, hs78.dr1.dr2.dr2.pk1, ((le32.t le36).trans le72), ⟨a0_7, n0_7, a67, n68, e69, rfl, rfl, hb0_7, (Uz hs0_7 ((le32.t le36).trans le72)), hr73⟩⟩



def En (N : Nat) (x0 : List Int) : Option (List Int) := Dr [] x0
theorem Ci : Ag Tryz.prog 176 := fun _ _ => by kernel_rfl
set_option maxRecDepth 100000 in
theorem Cw (N : Nat) (w0 : World) (F0 : Mem) (hF : US w0 F0) (x0 : List Int) (a0_0 : UR) (n0_0 : Nat) (hb0_0 : LC x0.length n0_0) (hs0_0 : SlA AQ F0 a0_0 x0) (r : List Int) (h : En N x0 = some r) :
  Calls Tryz.prog 176 ([(.slice a0_0 x0.length n0_0)] : List Value).toArray w0 (Ms w0 F0 fun F' v L' => ∃ (a : UR) (n : Nat) (e : Option Nat × Obj), v = .slice a r.length n /\ L' = [e] /\ Ap AQ 3 F' a n r e) := by
 have hs0 := Uy hF
 refine Go 8 Tryz.func176 <| Sq (Rg [0] ?_)
 refine Vs 1 <| Nt <| Sq <| Sq (Rg [0, 1] ?_)
 refine Vs 1 <| Ut (dst := some 4) (ty := 4) (g := none) (by kernel_rfl) rfl (MV (t := 24) (t' := 24) (e := 3) (x := .tmp 3) (y := .const (.slice none 0 0)) (a := a0_0) (n := x0.length) (c := n0_0) rfl rfl (by kernel_rfl)) <| Nt ?_
 cases a0_0 with
 | none =>
  have hx : x0 = [] := by
   rcases hs0_0 with h | ⟨_, _, _, _, _, h, _⟩
   ·exact h
   ·cases h
  subst hx
  cases h
  refine C1 (rfl : true = true) <| Sq (Rg [0] ?_)
  refine Vs 1 <| Nt <| Rt <| Aj ?_
  exact ⟨rfl, _, AR (l := [.tmp 2]) (by kernel_rfl) (vs := [.slice none 0 0]) ⟨by kernel_rfl, trivial⟩, _, F0, _, rfl, hs0.dummy (oc #[] 0), _, _, _, rfl, rfl, UL AQ 3 F0 _⟩
 | some ad =>
  refine C0 (rfl : false = false) <| Sc <| Ab <| Sq (Rg (rG 4) ?_)
  refine Bs 3 [] hs0 (fun b w1 hs1 => ?_)
  refine Vs 1 <| Ap0 Td hs1 (UM (T := AQ) (E := 3) (F := F0) (l := []) (cs := []) rfl (by simp)) (SlA.rd hs1 hs0_0) h (fun a n e w2 hs2 hr2 => ?_)
  refine Vs 1 <| Nt <| Rt ?_
  exact ⟨rfl, _, AR (l := [.tmp 2]) (by kernel_rfl) (vs := [.slice a r.length n]) ⟨by kernel_rfl, trivial⟩, _, F0, _, rfl, hs2, _, _, _, rfl, rfl, hr2⟩
def Cc (N : Nat) (x0 : List Line) : Option (List Line) := Dr [] x0
theorem Bu : Ag Tryz.prog 177 := fun _ _ => by kernel_rfl
set_option maxRecDepth 100000 in
theorem Bw (N : Nat) (w0 : World) (F0 : Mem) (hF : US w0 F0) (x0 : List Line) (a0_0 : UR) (n0_0 : Nat) (hb0_0 : LC x0.length n0_0) (hs0_0 : SlA AK F0 a0_0 x0) (r : List Line) (h : Cc N x0 = some r) :
  Calls Tryz.prog 177 ([(.slice a0_0 x0.length n0_0)] : List Value).toArray w0 (Ms w0 F0 fun F' v L' => ∃ (a : UR) (n : Nat) (e : Option Nat × Obj), v = .slice a r.length n /\ L' = [e] /\ Ap AK 34 F' a n r e) := by
 have hs0 := Uy hF
 refine Go 8 Tryz.func177 <| Sq (Rg [0] ?_)
 refine Vs 1 <| Nt <| Sq <| Sq (Rg [0, 1] ?_)
 refine Vs 1 <| Ut (dst := some 4) (ty := 4) (g := none) (by kernel_rfl) rfl (MV (t := 25) (t' := 25) (e := 34) (x := .tmp 3) (y := .const (.slice none 0 0)) (a := a0_0) (n := x0.length) (c := n0_0) rfl rfl (by kernel_rfl)) <| Nt ?_
 cases a0_0 with
 | none =>
  have hx : x0 = [] := by
   rcases hs0_0 with h | ⟨_, _, _, _, _, h, _⟩
   ·exact h
   ·cases h
  subst hx
  cases h
  refine C1 (rfl : true = true) <| Sq (Rg [0] ?_)
  refine Vs 1 <| Nt <| Rt <| Aj ?_
  exact ⟨rfl, _, AR (l := [.tmp 2]) (by kernel_rfl) (vs := [.slice none 0 0]) ⟨by kernel_rfl, trivial⟩, _, F0, _, rfl, hs0.dummy (oc #[] 0), _, _, _, rfl, rfl, UL AK 34 F0 _⟩
 | some ad =>
  refine C0 (rfl : false = false) <| Sc <| Ab <| Sq (Rg (rG 4) ?_)
  refine Bs 34 [] hs0 (fun b w1 hs1 => ?_)
  refine Vs 1 <| Ap0 Q4 hs1 (UM (T := AK) (E := 34) (F := F0) (l := []) (cs := []) rfl (by simp)) (SlA.rd hs1 hs0_0) h (fun a n e w2 hs2 hr2 => ?_)
  refine Vs 1 <| Nt <| Rt ?_
  exact ⟨rfl, _, AR (l := [.tmp 2]) (by kernel_rfl) (vs := [.slice a r.length n]) ⟨by kernel_rfl, trivial⟩, _, F0, _, rfl, hs2, _, _, _, rfl, rfl, hr2⟩
def Fk (N : Nat) (x0 : Ac) (x1 : Log) (x2 : (List Fix)) (r30 : (Int × Int)) (j47 : (List Int × List Line)) : (List Fix × Int × Bool × Bool × Bool × UQ × Int × Int × Int × List Int × List Line) -> Option (BD (Log × (List Fix) × Int × Int) (List Fix × Int × Bool × Bool × Bool × UQ × Int × Int × Int × List Int × List Line)) := fun s180 =>
 (bif (decide (s180.2.1 < (x2.length : Int))) then ((idx x2 s180.2.1).bind fun x213 => (bif (x213.Kind == 1) then ((EH N ({ o_ := ({ Report := s180.2.2.1, Serial := s180.2.2.2.1, Zone := s180.2.2.2.2.1 } : Ac), l_ := ({ Call := s180.2.2.2.2.2.1, Category := s180.2.2.2.2.2.2.1, Power := s180.2.2.2.2.2.2.2.1, Claimed := s180.2.2.2.2.2.2.2.2.1, Jumps := s180.2.2.2.2.2.2.2.2.2.1, Lines := s180.2.2.2.2.2.2.2.2.2.2 } : Log) } : A2) x213).bind fun r236 => (bif (!r236.2.2) then none else ((Dr s180.1 [r236.2.1]).bind fun r256 => some (.next (r256, (W64 (s180.2.1 + 1)), r236.1.o_.Report, r236.1.o_.Serial, r236.1.o_.Zone, r236.1.l_.Call, r236.1.l_.Category, r236.1.l_.Power, r236.1.l_.Claimed, r236.1.l_.Jumps, r236.1.l_.Lines))))) else none)) else some (.done (s180.1, s180.2.1, s180.2.2.1, s180.2.2.2.1, s180.2.2.2.2.1, s180.2.2.2.2.2.1, s180.2.2.2.2.2.2.1, s180.2.2.2.2.2.2.2.1, s180.2.2.2.2.2.2.2.2.1, s180.2.2.2.2.2.2.2.2.2.1, s180.2.2.2.2.2.2.2.2.2.2)))
def Hd (N : Nat) (x0 : Ac) (x1 : Log) (x2 : (List Fix)) : Option (Log × (List Fix) × Int × Int) :=
 ((Gv N ({ Report := x0.Report, Serial := x0.Serial, Zone := x0.Zone } : Ac) x1).bind fun r30 => (bif (r30.1 != 0) then none else (((En N x1.Jumps).bind fun r55 => ((Cc N x1.Lines).bind fun r73 => some (r55, r73))).bind fun j47 => ((A0 (Fk N x0 x1 x2 r30 j47) N (([] : List Fix), 0, x0.Report, x0.Serial, x0.Zone, x1.Call, x1.Category, x1.Power, x1.Claimed, j47.1, j47.2)).bind fun o => o.k (fun r => some r) (fun s194 => (((Ik N ({ Report := x0.Report, Serial := x0.Serial, Zone := x0.Zone } : Ac) ({ Call := s194.2.2.2.2.2.1, Category := s194.2.2.2.2.2.2.1, Power := s194.2.2.2.2.2.2.2.1, Claimed := s194.2.2.2.2.2.2.2.2.1, Jumps := s194.2.2.2.2.2.2.2.2.2.1, Lines := s194.2.2.2.2.2.2.2.2.2.2 } : Log)).bind fun r283 => some (!r283)).bind fun j274 => (bif j274 then none else some (({ Call := s194.2.2.2.2.2.1, Category := s194.2.2.2.2.2.2.1, Power := s194.2.2.2.2.2.2.2.1, Claimed := s194.2.2.2.2.2.2.2.2.1, Jumps := s194.2.2.2.2.2.2.2.2.2.1, Lines := s194.2.2.2.2.2.2.2.2.2.2 } : Log), s194.1, 0, 0))))))))
theorem Ju : Ag Tryz.prog 120 := fun _ _ => by kernel_rfl
theorem Ks (N : Nat) (w0 : World) (F0 : Mem) (hF : US w0 F0) (hG : Br F0) (x0 : Ac) (x1 : Log) (a1_4 : UR) (n1_4 : Nat) (hb1_4 : LC x1.Jumps.length n1_4) (hs1_4 : SlA AQ F0 a1_4 x1.Jumps) (a1_5 : UR) (n1_5 : Nat) (hb1_5 : LC x1.Lines.length n1_5) (hs1_5 : SlA AK F0 a1_5 x1.Lines) (x2 : (List Fix)) (a2_0 : UR) (n2_0 : Nat) (hb2_0 : LC x2.length n2_0) (hs2_0 : SlA I4 F0 a2_0 x2) (r : (Log × (List Fix) × Int × Int)) (h : Hd N x0 x1 x2 = some r) :
  Calls Tryz.prog 120 ([(.agg (Ak x0)), (.agg (AL x1 a1_4 n1_4 a1_5 n1_5)), (.slice a2_0 x2.length n2_0)] : List Value).toArray w0 (Ms w0 F0 fun F' v L' => ∃ (aq0_4 : UR) (nq0_4 : Nat) (aq0_5 : UR) (nq0_5 : Nat) (eq0_5 : Option Nat × Obj) (aq1_0 : UR) (nq1_0 : Nat) (eq1_0 : Option Nat × Obj), v = (.tuple #[(.agg (AL r.1 aq0_4 nq0_4 aq0_5 nq0_5)), (.slice aq1_0 r.2.1.length nq1_0), (vi r.2.2.1), (vi r.2.2.2)]) /\ L' = [eq0_5, eq1_0] /\ LC r.1.Jumps.length nq0_4 /\ SlA AQ F' aq0_4 r.1.Jumps /\ Ap AK 34 F' aq0_5 nq0_5 r.1.Lines eq0_5 /\ Ap I4 64 F' aq1_0 nq1_0 r.2.1 eq1_0) := by
 have hs0 := Uy hF
 refine Go 99 Tryz.func120 <| Sq (Rg (rG 6) ?_)
 refine Bx' 23 (Ak x0) hs0 (fun b21 w22 hs23 => ?_)
 refine Bx' 27 (AL x1 a1_4 n1_4 a1_5 n1_5) hs23 (fun b24 w25 hs26 => ?_)
 refine Al' 27 #[(sv (([] : UQ))), (vi 0), (vi 0), (vi 0), (.slice none ([] : List Int).length 0), (.slice none ([] : List Line).length 0)] hs26 (fun b27 w28 hs29 => ?_)
 refine Vs 3 <| Nss <| Sq (Rg (rG 8) ?_)
 refine Ld hs29.at2 <| Ld hs29.at1 ?_
 obtain ⟨r30, hr31, h32⟩ := bind_some h
 refine Cl' FC hs29 (GF N w28 F0 hs29.pers hG (({ Report := x0.Report, Serial := x0.Serial, Zone := x0.Zone } : Ac)) x1 a1_4 n1_4 hb1_4 hs1_4 a1_5 n1_5 hb1_5 hs1_5 _ hr31) ?_
 rintro _ F1 w34 hs35 le36 rfl
 refine Vs 5 <| Nss (Rg [0, 1] ?_)
 refine Vs 2 <| Nt <| Cd h32 (fun hb38 h39 => ?_) (fun hb38 h40 => ?_)
 ·cases h39
 ·refine Sc ?_
  refine Ab <| Sq ?_
  obtain ⟨j47, hj53, h54⟩ := bind_some h40
  refine RD 9 10 [(sb b27 #[(sv (([] : UQ))), (vi 0), (vi 0), (vi 0), (.slice none ([] : List Int).length 0), (.slice none ([] : List Line).length 0)] 27), (sb b21 (Ak x0) 23)] [] hs35 (fun f w => ∃ (F2 : Mem) (aj47_0 : UR) (nj47_0 : Nat) (aj47_1 : UR) (nj47_1 : Nat) (ej47_1 : Option Nat × Obj), HS w0 F0 w F2 [ej47_1, (sb b27 #[(sv (([] : UQ))), (vi 0), (vi 0), (vi 0), (.slice none ([] : List Int).length 0), (.slice none ([] : List Line).length 0)] 27), (sb b24 #[(sv x1.Call), (vi x1.Category), (vi x1.Power), (vi x1.Claimed), (.slice aj47_0 j47.1.length nj47_0), (.slice aj47_1 j47.2.length nj47_1)] 27), (sb b21 (Ak x0) 23)] /\ Uw F1 F2 /\ FI f [] [(2, (.slice a2_0 x2.length n2_0)), (3, (pt b21 0)), (4, (pt b24 0)), (6, (pt b27 0))] /\ LC j47.1.length nj47_0 /\ SlA AQ F2 aj47_0 j47.1 /\ Ap AK 34 F2 aj47_1 nj47_1 j47.2 ej47_1) (fun wd41 hw42 => ?_) ?_
  ·refine Dv [0, 3] ?_
   refine UF (i := 1) (j := 4) (by kernel_rfl) ?_ ?_
   ·refine UG (l' := [true, true, false, true, false, false, false, false, false, false]) (zd := false) (by kernel_rfl) (by kernel_rfl) (dst := (some 32)) (ty := 24) (g := none) (by kernel_rfl) rfl (Bz (t := 24) (x := (.tmp 31)) (b := b24) (o := 4) (g := false) (s := 1) (C := (AL x1 a1_4 n1_4 a1_5 n1_5)) (v := (.slice a1_4 x1.Jumps.length n1_4)) rfl (by kernel_rfl) hw42.at1 rfl rfl rfl) (Ba hw42 (Ux _) (by simp) (fun _ => by simp)) ?_
    refine UF (i := 2) (j := 4) (by kernel_rfl) ?_ ?_
    ·obtain ⟨r55, hr56, h57⟩ := bind_some hj53
     refine Aw.callO (l' := [true, true, true, true, false, false, false, false, false, false]) (zd := false) (by kernel_rfl) (by kernel_rfl) (by kernel_rfl) (dst := (some 33)) (ty := 24) (g := none) (by kernel_rfl) rfl (f0 := (.func 176)) (aos := #[(.tmp 32)]) (ats := #[24]) (fid := 176) (first := #[]) (cap := #[]) (args := [(.slice a1_4 x1.Jumps.length n1_4)]) rfl Ci rfl hw42 (Cw N wd41 F1 hw42.pers x1.Jumps a1_4 n1_4 hb1_4 (Uz hs1_4 le36) _ hr56) ?_
     rintro _ F3 w59 _ hs60 le61 ⟨a63, n64, e65, rfl, rfl, hr66⟩
     have hs68 : HS w0 F0 w59 F3 [e65, (sb b27 #[(sv (([] : UQ))), (vi 0), (vi 0), (vi 0), (.slice none ([] : List Int).length 0), (.slice none ([] : List Line).length 0)] 27), (sb b24 (AL x1 a1_4 n1_4 a1_5 n1_5) 27), (sb b21 (Ak x0) 23)] := hs60
     have hb72 := UK hr66
     obtain ⟨F4, hs69, le70, hs71⟩ := hs68.fr0 hr66
     refine D1 4 <| UG (l' := [true, true, true, true, true, false, false, false, false, false]) (zd := false) (by kernel_rfl) (by kernel_rfl) (dst := (some 35)) (ty := 25) (g := none) (by kernel_rfl) rfl (Bz (t := 25) (x := (.tmp 34)) (b := b24) (o := 5) (g := false) (s := 1) (C := (AL x1 a1_4 n1_4 a1_5 n1_5)) (v := (.slice a1_5 x1.Lines.length n1_5)) rfl (by kernel_rfl) hs69.at1 rfl rfl rfl) (Ba hs69 (le61.t le70) (by simp) (fun _ => by simp)) <| Dv [6] <| D1 5 ?_
     obtain ⟨r73, hr74, h75⟩ := bind_some h57
     refine Aw.callO (l' := [true, true, true, true, true, true, true, false, false, false]) (zd := false) (by kernel_rfl) (by kernel_rfl) (by kernel_rfl) (dst := (some 36)) (ty := 25) (g := none) (by kernel_rfl) rfl (f0 := (.func 177)) (aos := #[(.tmp 35)]) (ats := #[25]) (fid := 177) (first := #[]) (cap := #[]) (args := [(.slice a1_5 x1.Lines.length n1_5)]) rfl Bu rfl hs69 (Bw N w59 F4 hs69.pers x1.Lines a1_5 n1_5 hb1_5 (Uz hs1_5 ((le36.t le61).trans le70)) _ hr74) ?_
     rintro _ F5 w77 _ hs78 le79 ⟨a81, n82, e83, rfl, rfl, hr84⟩
     have hs86 : HS w0 F0 w77 F5 [e83, (sb b27 #[(sv (([] : UQ))), (vi 0), (vi 0), (vi 0), (.slice none ([] : List Int).length 0), (.slice none ([] : List Line).length 0)] 27), (sb b24 (AL x1 a1_4 n1_4 a1_5 n1_5) 27), (sb b21 (Ak x0) 23)] := hs78
     refine D1 7 <| MR #[(sv x1.Call), (vi x1.Category), (vi x1.Power), (vi x1.Claimed), (.slice a63 r55.length n64), (.slice a1_5 x1.Lines.length n1_5)] hs86 ((le61.t le70).trans le79) (fun w87 hs88 => ?_)
     refine Dv [8] <| D1 9 <| MR #[(sv x1.Call), (vi x1.Category), (vi x1.Power), (vi x1.Claimed), (.slice a63 r55.length n64), (.slice a81 r73.length n82)] hs88 ((le61.t le70).trans le79) (fun w89 hs90 => ?_)
     obtain rfl := Aa h75
     exact UJ (by kernel_rfl) ⟨F5, a63, n64, a81, n82, e83, hs90, ((le61.t le70).trans le79), fI, hb72, (Uz hs71 le79), hr84⟩
    ·refine UG (l' := [true, true, false, true, true, false, false, false, false, false]) (zd := false) (by kernel_rfl) (by kernel_rfl) (dst := (some 35)) (ty := 25) (g := none) (by kernel_rfl) rfl (Bz (t := 25) (x := (.tmp 34)) (b := b24) (o := 5) (g := false) (s := 1) (C := (AL x1 a1_4 n1_4 a1_5 n1_5)) (v := (.slice a1_5 x1.Lines.length n1_5)) rfl (by kernel_rfl) hw42.at1 rfl rfl rfl) (Ba hw42 (Ux _) (by simp) (fun _ => by simp)) ?_
     refine D1 2 ?_
     obtain ⟨r91, hr92, h93⟩ := bind_some hj53
     refine Aw.callO (l' := [true, true, true, true, true, false, false, false, false, false]) (zd := false) (by kernel_rfl) (by kernel_rfl) (by kernel_rfl) (dst := (some 33)) (ty := 24) (g := none) (by kernel_rfl) rfl (f0 := (.func 176)) (aos := #[(.tmp 32)]) (ats := #[24]) (fid := 176) (first := #[]) (cap := #[]) (args := [(.slice a1_4 x1.Jumps.length n1_4)]) rfl Ci rfl hw42 (Cw N wd41 F1 hw42.pers x1.Jumps a1_4 n1_4 hb1_4 (Uz hs1_4 le36) _ hr92) ?_
     rintro _ F6 w95 _ hs96 le97 ⟨a99, n100, e101, rfl, rfl, hr102⟩
     have hs104 : HS w0 F0 w95 F6 [e101, (sb b27 #[(sv (([] : UQ))), (vi 0), (vi 0), (vi 0), (.slice none ([] : List Int).length 0), (.slice none ([] : List Line).length 0)] 27), (sb b24 (AL x1 a1_4 n1_4 a1_5 n1_5) 27), (sb b21 (Ak x0) 23)] := hs96
     have hb108 := UK hr102
     obtain ⟨F7, hs105, le106, hs107⟩ := hs104.fr0 hr102
     refine Dv [6] <| D1 5 ?_
     obtain ⟨r109, hr110, h111⟩ := bind_some h93
     refine Aw.callO (l' := [true, true, true, true, true, true, true, false, false, false]) (zd := false) (by kernel_rfl) (by kernel_rfl) (by kernel_rfl) (dst := (some 36)) (ty := 25) (g := none) (by kernel_rfl) rfl (f0 := (.func 177)) (aos := #[(.tmp 35)]) (ats := #[25]) (fid := 177) (first := #[]) (cap := #[]) (args := [(.slice a1_5 x1.Lines.length n1_5)]) rfl Bu rfl hs105 (Bw N w95 F7 hs105.pers x1.Lines a1_5 n1_5 hb1_5 (Uz hs1_5 ((le36.t le97).trans le106)) _ hr110) ?_
     rintro _ F8 w113 _ hs114 le115 ⟨a117, n118, e119, rfl, rfl, hr120⟩
     have hs122 : HS w0 F0 w113 F8 [e119, (sb b27 #[(sv (([] : UQ))), (vi 0), (vi 0), (vi 0), (.slice none ([] : List Int).length 0), (.slice none ([] : List Line).length 0)] 27), (sb b24 (AL x1 a1_4 n1_4 a1_5 n1_5) 27), (sb b21 (Ak x0) 23)] := hs114
     refine D1 7 <| MR #[(sv x1.Call), (vi x1.Category), (vi x1.Power), (vi x1.Claimed), (.slice a99 r91.length n100), (.slice a1_5 x1.Lines.length n1_5)] hs122 ((le97.t le106).trans le115) (fun w123 hs124 => ?_)
     refine Dv [8] <| D1 9 <| MR #[(sv x1.Call), (vi x1.Category), (vi x1.Power), (vi x1.Claimed), (.slice a99 r91.length n100), (.slice a117 r109.length n118)] hs124 ((le97.t le106).trans le115) (fun w125 hs126 => ?_)
     obtain rfl := Aa h111
     exact UJ (by kernel_rfl) ⟨F8, a99, n100, a117, n118, e119, hs126, ((le97.t le106).trans le115), fI, hb108, (Uz hs107 le115), hr120⟩
   ·refine UG (l' := [true, false, false, true, true, false, false, false, false, false]) (zd := false) (by kernel_rfl) (by kernel_rfl) (dst := (some 35)) (ty := 25) (g := none) (by kernel_rfl) rfl (Bz (t := 25) (x := (.tmp 34)) (b := b24) (o := 5) (g := false) (s := 1) (C := (AL x1 a1_4 n1_4 a1_5 n1_5)) (v := (.slice a1_5 x1.Lines.length n1_5)) rfl (by kernel_rfl) hw42.at1 rfl rfl rfl) (Ba hw42 (Ux _) (by simp) (fun _ => by simp)) ?_
    refine D1 1 <| UG (l' := [true, true, false, true, true, false, false, false, false, false]) (zd := false) (by kernel_rfl) (by kernel_rfl) (dst := (some 32)) (ty := 24) (g := none) (by kernel_rfl) rfl (Bz (t := 24) (x := (.tmp 31)) (b := b24) (o := 4) (g := false) (s := 1) (C := (AL x1 a1_4 n1_4 a1_5 n1_5)) (v := (.slice a1_4 x1.Jumps.length n1_4)) rfl (by kernel_rfl) hw42.at1 rfl rfl rfl) (Ba hw42 (Ux _) (by simp) (fun _ => by simp)) <| D1 2 ?_
    obtain ⟨r127, hr128, h129⟩ := bind_some hj53
    refine Aw.callO (l' := [true, true, true, true, true, false, false, false, false, false]) (zd := false) (by kernel_rfl) (by kernel_rfl) (by kernel_rfl) (dst := (some 33)) (ty := 24) (g := none) (by kernel_rfl) rfl (f0 := (.func 176)) (aos := #[(.tmp 32)]) (ats := #[24]) (fid := 176) (first := #[]) (cap := #[]) (args := [(.slice a1_4 x1.Jumps.length n1_4)]) rfl Ci rfl hw42 (Cw N wd41 F1 hw42.pers x1.Jumps a1_4 n1_4 hb1_4 (Uz hs1_4 le36) _ hr128) ?_
    rintro _ F9 w131 _ hs132 le133 ⟨a135, n136, e137, rfl, rfl, hr138⟩
    have hs140 : HS w0 F0 w131 F9 [e137, (sb b27 #[(sv (([] : UQ))), (vi 0), (vi 0), (vi 0), (.slice none ([] : List Int).length 0), (.slice none ([] : List Line).length 0)] 27), (sb b24 (AL x1 a1_4 n1_4 a1_5 n1_5) 27), (sb b21 (Ak x0) 23)] := hs132
    have hb144 := UK hr138
    obtain ⟨F10, hs141, le142, hs143⟩ := hs140.fr0 hr138
    refine Dv [6] <| D1 5 ?_
    obtain ⟨r145, hr146, h147⟩ := bind_some h129
    refine Aw.callO (l' := [true, true, true, true, true, true, true, false, false, false]) (zd := false) (by kernel_rfl) (by kernel_rfl) (by kernel_rfl) (dst := (some 36)) (ty := 25) (g := none) (by kernel_rfl) rfl (f0 := (.func 177)) (aos := #[(.tmp 35)]) (ats := #[25]) (fid := 177) (first := #[]) (cap := #[]) (args := [(.slice a1_5 x1.Lines.length n1_5)]) rfl Bu rfl hs141 (Bw N w131 F10 hs141.pers x1.Lines a1_5 n1_5 hb1_5 (Uz hs1_5 ((le36.t le133).trans le142)) _ hr146) ?_
    rintro _ F11 w149 _ hs150 le151 ⟨a153, n154, e155, rfl, rfl, hr156⟩
    have hs158 : HS w0 F0 w149 F11 [e155, (sb b27 #[(sv (([] : UQ))), (vi 0), (vi 0), (vi 0), (.slice none ([] : List Int).length 0), (.slice none ([] : List Line).length 0)] 27), (sb b24 (AL x1 a1_4 n1_4 a1_5 n1_5) 27), (sb b21 (Ak x0) 23)] := hs150
    refine D1 7 <| MR #[(sv x1.Call), (vi x1.Category), (vi x1.Power), (vi x1.Claimed), (.slice a135 r127.length n136), (.slice a1_5 x1.Lines.length n1_5)] hs158 ((le133.t le142).trans le151) (fun w159 hs160 => ?_)
    refine Dv [8] <| D1 9 <| MR #[(sv x1.Call), (vi x1.Category), (vi x1.Power), (vi x1.Claimed), (.slice a135 r127.length n136), (.slice a153 r145.length n154)] hs160 ((le133.t le142).trans le151) (fun w161 hs162 => ?_)
    obtain rfl := Aa h147
    exact UJ (by kernel_rfl) ⟨F11, a135, n136, a153, n154, e155, hs162, ((le133.t le142).trans le151), fI, hb144, (Uz hs143 le151), hr156⟩
  ·rintro f w43 ⟨F2, aj47_0, nj47_0, aj47_1, nj47_1, ej47_1, hs44, le45, ⟨_, rfl⟩, hbj47_0, hsj47_0, hrj47_1⟩
   refine Ab <| Sq (Rg (rG 5) ?_)
   refine Ld hs44.at3 <| Ld hs44.at2 <| Vs 1 <| Bx' 214 #[(.bool x0.Report), (.bool x0.Serial), (.bool x0.Zone), (sv x1.Call), (vi x1.Category), (vi x1.Power), (vi x1.Claimed), (.slice aj47_0 j47.1.length nj47_0), (.slice aj47_1 j47.2.length nj47_1)] hs44 (fun b163 w164 hs165 => ?_)
   refine Vs 1 <| Nss (Rg (rG 12) ?_)
   refine RWP.litMap (dst := (some 43)) (ty := 216) (g := none) (by kernel_rfl) rfl (t := 216) hs165 (fun b166 w167 (hs168 : HS w0 F0 w167 F2 [(some b166, (.map #[] 0)), (sb b163 #[(.bool x0.Report), (.bool x0.Serial), (.bool x0.Zone), (sv x1.Call), (vi x1.Category), (vi x1.Power), (vi x1.Claimed), (.slice aj47_0 j47.1.length nj47_0), (.slice aj47_1 j47.2.length nj47_1)] 214), ej47_1, (sb b27 #[(sv (([] : UQ))), (vi 0), (vi 0), (vi 0), (.slice none ([] : List Int).length 0), (.slice none ([] : List Line).length 0)] 27), (sb b24 #[(sv x1.Call), (vi x1.Category), (vi x1.Power), (vi x1.Claimed), (.slice aj47_0 j47.1.length nj47_0), (.slice aj47_1 j47.2.length nj47_1)] 27), (sb b21 (Ak x0) 23)]) => ?_)
   refine Vs 2 <| RWP.litIns (d := .int .i64) (k := 3) (vt := 215) (ty := 0) (g := none) (mt := 216) (m := (.tmp 43)) (x := (.const (vi 1))) (y := (.tmp 45)) (b := b166) (q := 0) (kv := (vi 1)) (v := (.func (.func 178) #[(pt b163 0)] #[])) (by kernel_rfl) rfl rfl rfl rfl (by kernel_rfl) (by kernel_rfl) rfl (by kernel_rfl) hs168 rfl rfl (fun w169 (hs170 : HS w0 F0 w169 F2 [(some b166, (.map #[⟨(vi 1), (.func (.func 178) #[(pt b163 0)] #[]), 0⟩] 1)), (sb b163 #[(.bool x0.Report), (.bool x0.Serial), (.bool x0.Zone), (sv x1.Call), (vi x1.Category), (vi x1.Power), (vi x1.Claimed), (.slice aj47_0 j47.1.length nj47_0), (.slice aj47_1 j47.2.length nj47_1)] 214), ej47_1, (sb b27 #[(sv (([] : UQ))), (vi 0), (vi 0), (vi 0), (.slice none ([] : List Int).length 0), (.slice none ([] : List Line).length 0)] 27), (sb b24 #[(sv x1.Call), (vi x1.Category), (vi x1.Power), (vi x1.Claimed), (.slice aj47_0 j47.1.length nj47_0), (.slice aj47_1 j47.2.length nj47_1)] 27), (sb b21 (Ak x0) 23)]) => ?_)
   refine Vs 2 <| RWP.litIns (d := .int .i64) (k := 3) (vt := 215) (ty := 0) (g := none) (mt := 216) (m := (.tmp 43)) (x := (.const (vi 2))) (y := (.tmp 47)) (b := b166) (q := 0) (kv := (vi 2)) (v := (.func (.func 179) #[(pt b163 0)] #[])) (by kernel_rfl) rfl rfl rfl rfl (by kernel_rfl) (by kernel_rfl) rfl (by kernel_rfl) hs170 rfl rfl (fun w171 (hs172 : HS w0 F0 w171 F2 [(some b166, (.map #[⟨(vi 1), (.func (.func 178) #[(pt b163 0)] #[]), 0⟩, ⟨(vi 2), (.func (.func 179) #[(pt b163 0)] #[]), 1⟩] 2)), (sb b163 #[(.bool x0.Report), (.bool x0.Serial), (.bool x0.Zone), (sv x1.Call), (vi x1.Category), (vi x1.Power), (vi x1.Claimed), (.slice aj47_0 j47.1.length nj47_0), (.slice aj47_1 j47.2.length nj47_1)] 214), ej47_1, (sb b27 #[(sv (([] : UQ))), (vi 0), (vi 0), (vi 0), (.slice none ([] : List Int).length 0), (.slice none ([] : List Line).length 0)] 27), (sb b24 #[(sv x1.Call), (vi x1.Category), (vi x1.Power), (vi x1.Claimed), (.slice aj47_0 j47.1.length nj47_0), (.slice aj47_1 j47.2.length nj47_1)] 27), (sb b21 (Ak x0) 23)]) => ?_)
   refine Vs 2 <| RWP.litIns (d := .int .i64) (k := 3) (vt := 215) (ty := 0) (g := none) (mt := 216) (m := (.tmp 43)) (x := (.const (vi 3))) (y := (.tmp 49)) (b := b166) (q := 0) (kv := (vi 3)) (v := (.func (.func 180) #[(pt b163 0)] #[])) (by kernel_rfl) rfl rfl rfl rfl (by kernel_rfl) (by kernel_rfl) rfl (by kernel_rfl) hs172 rfl rfl (fun w173 (hs174 : HS w0 F0 w173 F2 [(some b166, (.map #[⟨(vi 1), (.func (.func 178) #[(pt b163 0)] #[]), 0⟩, ⟨(vi 2), (.func (.func 179) #[(pt b163 0)] #[]), 1⟩, ⟨(vi 3), (.func (.func 180) #[(pt b163 0)] #[]), 2⟩] 3)), (sb b163 #[(.bool x0.Report), (.bool x0.Serial), (.bool x0.Zone), (sv x1.Call), (vi x1.Category), (vi x1.Power), (vi x1.Claimed), (.slice aj47_0 j47.1.length nj47_0), (.slice aj47_1 j47.2.length nj47_1)] 214), ej47_1, (sb b27 #[(sv (([] : UQ))), (vi 0), (vi 0), (vi 0), (.slice none ([] : List Int).length 0), (.slice none ([] : List Line).length 0)] 27), (sb b24 #[(sv x1.Call), (vi x1.Category), (vi x1.Power), (vi x1.Claimed), (.slice aj47_0 j47.1.length nj47_0), (.slice aj47_1 j47.2.length nj47_1)] 27), (sb b21 (Ak x0) 23)]) => ?_)
   refine Vs 2 <| Nss (Rg [0] ?_)
   refine Vs 1 <| Nss <| Sq (Rg [0, 1, 2] ?_)
   refine Vs 3 <| Nt ?_
   have hs175 := hs174.dr4.dummy (oc #[] 0)
   obtain ⟨o177, ho178, h179⟩ := bind_some h54
   refine UD (fun f w => ∃ (s194 : (List Fix × Int × Bool × Bool × Bool × UQ × Int × Int × Int × List Int × List Line)) (F13 : Mem) (as194_9 : UR) (ns194_9 : Nat) (as194_10 : UR) (ns194_10 : Nat) (es194_10 : Option Nat × Obj) (as194_0 : UR) (ns194_0 : Nat) (es194_0 : Option Nat × Obj), o177 = .done s194 /\ HS w0 F0 w F13 [es194_0, (sb b163 #[(.bool s194.2.2.1), (.bool s194.2.2.2.1), (.bool s194.2.2.2.2.1), (sv s194.2.2.2.2.2.1), (vi s194.2.2.2.2.2.2.1), (vi s194.2.2.2.2.2.2.2.1), (vi s194.2.2.2.2.2.2.2.2.1), (.slice as194_9 s194.2.2.2.2.2.2.2.2.2.1.length ns194_9), (.slice as194_10 s194.2.2.2.2.2.2.2.2.2.2.length ns194_10)] 214), es194_10, (sb b27 #[(sv (([] : UQ))), (vi 0), (vi 0), (vi 0), (.slice none ([] : List Int).length 0), (.slice none ([] : List Line).length 0)] 27), (sb b21 (Ak x0) 23)] /\ Uw F2 F13 /\ FI f [] [(2, (.slice a2_0 x2.length n2_0)), (3, (pt b21 0)), (6, (pt b27 0)), (12, (pt b163 0)), (14, (.slice as194_0 s194.1.length ns194_0))] /\ LC s194.2.2.2.2.2.2.2.2.2.1.length ns194_9 /\ SlA AQ F13 as194_9 s194.2.2.2.2.2.2.2.2.2.1 /\ Ap AK 34 F13 as194_10 ns194_10 s194.2.2.2.2.2.2.2.2.2.2 es194_10 /\ Ap I4 64 F13 as194_0 ns194_0 s194.1 es194_0) ?_ ?_
   ·refine Bk ?_
    refine Uv (by kernel_rfl) (fun m f w => ∃ (s180 : (List Fix × Int × Bool × Bool × Bool × UQ × Int × Int × Int × List Int × List Line)) (F12 : Mem) (as180_9 : UR) (ns180_9 : Nat) (as180_10 : UR) (ns180_10 : Nat) (es180_10 : Option Nat × Obj) (as180_0 : UR) (ns180_0 : Nat) (es180_0 : Option Nat × Obj), A0 (Fk N x0 x1 x2 r30 j47) m s180 = some o177 /\ HS w0 F0 w F12 [es180_0, (some b166, (.map #[⟨(vi 1), (.func (.func 178) #[(pt b163 0)] #[]), 0⟩, ⟨(vi 2), (.func (.func 179) #[(pt b163 0)] #[]), 1⟩, ⟨(vi 3), (.func (.func 180) #[(pt b163 0)] #[]), 2⟩] 3)), (sb b163 #[(.bool s180.2.2.1), (.bool s180.2.2.2.1), (.bool s180.2.2.2.2.1), (sv s180.2.2.2.2.2.1), (vi s180.2.2.2.2.2.2.1), (vi s180.2.2.2.2.2.2.2.1), (vi s180.2.2.2.2.2.2.2.2.1), (.slice as180_9 s180.2.2.2.2.2.2.2.2.2.1.length ns180_9), (.slice as180_10 s180.2.2.2.2.2.2.2.2.2.2.length ns180_10)] 214), es180_10, (sb b27 #[(sv (([] : UQ))), (vi 0), (vi 0), (vi 0), (.slice none ([] : List Int).length 0), (.slice none ([] : List Line).length 0)] 27), (sb b21 (Ak x0) 23)] /\ Uw F2 F12 /\ FI f [] [(2, (.slice a2_0 x2.length n2_0)), (3, (pt b21 0)), (6, (pt b27 0)), (12, (pt b163 0)), (13, (.map (some b166))), (14, (.slice as180_0 s180.1.length ns180_0)), (51, (.slice a2_0 x2.length n2_0)), (52, (vi (x2.length : Int))), (53, (vi s180.2.1))] /\ LC s180.2.2.2.2.2.2.2.2.2.1.length ns180_9 /\ SlA AQ F12 as180_9 s180.2.2.2.2.2.2.2.2.2.1 /\ Ap AK 34 F12 as180_10 ns180_10 s180.2.2.2.2.2.2.2.2.2.2 es180_10 /\ Ap I4 64 F12 as180_0 ns180_0 s180.1 es180_0) N ⟨(([] : List Fix), 0, x0.Report, x0.Serial, x0.Zone, x1.Call, x1.Category, x1.Power, x1.Claimed, j47.1, j47.2), F2, aj47_0, nj47_0, aj47_1, nj47_1, ej47_1, none, 0, (none, .cells #[] 0 (0, 0)), ho178, hs175, (Ux _), fI, hbj47_0, hsj47_0, hrj47_1, (UL I4 64 F2 _)⟩ ?_
    rintro m204 f w181 ⟨s180, F12, as180_9, ns180_9, as180_10, ns180_10, es180_10, as180_0, ns180_0, es180_0, hit205, hs182, le183, ⟨_, rfl⟩, hbs180_9, hss180_9, hrs180_10, hrs180_0⟩
    obtain ⟨m206, fl207, rfl, hb208, hnx209⟩ := AU hit205
    refine Sq (Rg [0] ?_)
    refine Vs 1 <| Nss <| Cd hb208 (fun hb210 h211 => ?_) (fun hb210 h212 => ?_)
    ·refine Sc ?_
     refine Ab <| Sq <| Bk <| Sq (Rg (rG 6) ?_)
     refine Vs 1 ?_
     obtain ⟨x213, hx214, h216⟩ := bind_some h211
     obtain ⟨hi215, hx214'⟩ := As hx214
     obtain ⟨b217, o218, C219, E220, fz221, rfl, hF223, hE224⟩ := UE (Uz hs2_0 ((le36.t le45).trans le183)) hx214'
     have hc226 := hE224 _ _ hx214'
     refine Ix hi215 <| Lx 0 (hs182.pers _ _ hF223) hc226 <| Al' 64 #[(vi 0), (vi 0), (vi 0), (vi 0), (vi 0), (vi 0), (sv (([] : UQ))), (vi 0), (vi 0), (vi 0), (vi 0), (vi 0), (vi 0)] hs182 (fun b227 w228 hs229 => ?_)
     refine Vs 1 <| St0 (Ou x213) hs229 (fun w230 hs231 => ?_)
     refine Nss (Rg (rG 9) ?_)
     refine Vs 2 <| Ld hs231.at0 <| Sp h216 (fun hb232 h233 => ?_) (fun hb232 h234 => ?_)
     ·refine V 62 217 (Np (mt := 216) (k := 3) (vt := 215) (d := .int .i64) (m := (.tmp 59)) (x := (.tmp 61)) (b := b166) (kv := (vi x213.Kind)) (v := (.func (.func 178) #[(pt b163 0)] #[])) (j := 0) rfl rfl (by kernel_rfl) (by kernel_rfl) rfl (hs231.ownAt (k := 2) rfl) (Tw hb232)) ?_
      refine Vs 5 <| Nss <| Sq (Rg [0, 1] ?_)
      refine Vs 2 <| Nt <| C0 (rfl : false = false) <| Sc <| Ab <| Sq (Rg (rG 9) ?_)
      refine Vs 1 <| Ld hs231.at0 ?_
      have hs235 := hs231.pk6.pk6.pk4.pk4.pk4
      obtain ⟨r236, hr237, h238⟩ := bind_some h233
      refine CB GA (G1 N b163 (({ o_ := ({ Report := s180.2.2.1, Serial := s180.2.2.2.1, Zone := s180.2.2.2.2.1 } : Ac), l_ := ({ Call := s180.2.2.2.2.2.1, Category := s180.2.2.2.2.2.2.1, Power := s180.2.2.2.2.2.2.2.1, Claimed := s180.2.2.2.2.2.2.2.2.1, Jumps := s180.2.2.2.2.2.2.2.2.2.1, Lines := s180.2.2.2.2.2.2.2.2.2.2 } : Log) } : A2)) as180_9 ns180_9 as180_10 ns180_10 es180_10 hbs180_9 hss180_9 hrs180_10 x213 hs235.pk6.pk6 _ hr237) ?_
      rintro _ F14 w239 _ hs240 le241 ⟨ar236_0_7, nr236_0_7, ar236_0_8, nr236_0_8, er236_0_8, rfl, rfl, hbr236_0_7, hsr236_0_7, hrr236_0_8⟩
      refine Vs 3 <| Al' 64 #[(vi 0), (vi 0), (vi 0), (vi 0), (vi 0), (vi 0), (sv (([] : UQ))), (vi 0), (vi 0), (vi 0), (vi 0), (vi 0), (vi 0)] hs240 (fun b243 w244 hs245 => ?_)
      refine St0 (Ou r236.2.1) hs245 (fun w246 hs247 => ?_)
      refine Vs 1 <| Nss <| Sq (Rg [0, 1] ?_)
      refine Vs 2 <| Nt <| Cd h238 (fun hb248 h249 => ?_) (fun hb248 h250 => ?_)
      ·cases h249
      ·refine Sc ?_
       refine Ab <| Rg (rG 5) <| Vs 1 <| Ld hs247.at0 <| Bs 64 [(vi r236.2.1.Kind), (vi r236.2.1.Num), (vi r236.2.1.Line.Num), (vi r236.2.1.Line.Khz), (vi r236.2.1.Line.Mode), (vi r236.2.1.Line.Minute), (sv r236.2.1.Line.Call), (vi r236.2.1.Line.Sent.Report), (vi r236.2.1.Line.Sent.Serial), (vi r236.2.1.Line.Sent.Zone), (vi r236.2.1.Line.Got.Report), (vi r236.2.1.Line.Got.Serial), (vi r236.2.1.Line.Got.Zone)] hs247 (fun b251 w252 hs253 => ?_)
       have hr255 : Ap I4 64 F14 (some ⟨b251, 0, none⟩) 1 [r236.2.1] (some b251, .cells ([(vi r236.2.1.Kind), (vi r236.2.1.Num), (vi r236.2.1.Line.Num), (vi r236.2.1.Line.Khz), (vi r236.2.1.Line.Mode), (vi r236.2.1.Line.Minute), (sv r236.2.1.Line.Call), (vi r236.2.1.Line.Sent.Report), (vi r236.2.1.Line.Sent.Serial), (vi r236.2.1.Line.Sent.Zone), (vi r236.2.1.Line.Got.Report), (vi r236.2.1.Line.Got.Serial), (vi r236.2.1.Line.Got.Zone)] : List Value).toArray 64 (0, 0)) := UM ⟨rfl, rfl⟩ (by simp)
       obtain ⟨r256, hap257, h258⟩ := bind_some h250
       refine Ap5 Ug hs253 (hrs180_0.mono le241) (hs253.rd0 hr255) hap257 (fun a259 n260 e261 w262 hs263 hr264 => ?_)
       refine Vs 1 <| Us <| Av <| Ab <| Rg [0, 1] <| Vs 2 <| Us ?_
       have hs265 := hs263.dr0.dr0.dr2.pk5.pk5
       have hn266 := AV h258 hnx209
       exact ⟨m206, Nat.lt_succ_self _, (r256, (W64 (s180.2.1 + 1)), r236.1.o_.Report, r236.1.o_.Serial, r236.1.o_.Zone, r236.1.l_.Call, r236.1.l_.Category, r236.1.l_.Power, r236.1.l_.Claimed, r236.1.l_.Jumps, r236.1.l_.Lines), F14, ar236_0_7, nr236_0_7, ar236_0_8, nr236_0_8, er236_0_8, a259, n260, e261, hn266, hs265.pk3.pk3.pk5.pk5, (le183.t le241), fI, hbr236_0_7, hsr236_0_7, hrr236_0_8, hr264⟩
     ·cases h234
    ·refine Ex ?_
     refine Au <| Au <| AA rfl ?_
     have ho267 := AW h212 hnx209
     exact .inl ⟨rfl, (s180.1, s180.2.1, s180.2.2.1, s180.2.2.2.1, s180.2.2.2.2.1, s180.2.2.2.2.2.1, s180.2.2.2.2.2.2.1, s180.2.2.2.2.2.2.2.1, s180.2.2.2.2.2.2.2.2.1, s180.2.2.2.2.2.2.2.2.2.1, s180.2.2.2.2.2.2.2.2.2.2), F12, as180_9, ns180_9, as180_10, ns180_10, es180_10, as180_0, ns180_0, es180_0, ho267, hs182.dr1, le183, fI, hbs180_9, hss180_9, hrs180_10, hrs180_0⟩
   ·rintro f w195 ⟨s194, F13, as194_9, ns194_9, as194_10, ns194_10, es194_10, as194_0, ns194_0, es194_0, rfl, hs196, le197, ⟨_, rfl⟩, hbs194_9, hss194_9, hrs194_10, hrs194_0⟩
    have h268 := BL h179
    refine Ab <| Sq <| Sq ?_
    obtain ⟨j274, hj281, h282⟩ := bind_some h268
    refine RD 7 7 [es194_0, (sb b163 #[(.bool s194.2.2.1), (.bool s194.2.2.2.1), (.bool s194.2.2.2.2.1), (sv s194.2.2.2.2.2.1), (vi s194.2.2.2.2.2.2.1), (vi s194.2.2.2.2.2.2.2.1), (vi s194.2.2.2.2.2.2.2.2.1), (.slice as194_9 s194.2.2.2.2.2.2.2.2.2.1.length ns194_9), (.slice as194_10 s194.2.2.2.2.2.2.2.2.2.2.length ns194_10)] 214), es194_10, (sb b27 #[(sv (([] : UQ))), (vi 0), (vi 0), (vi 0), (.slice none ([] : List Int).length 0), (.slice none ([] : List Line).length 0)] 27), (sb b21 (Ak x0) 23)] [] hs196 (fun f w => ∃ (F15 : Mem), HS w0 F0 w F15 [es194_0, (sb b163 #[(.bool s194.2.2.1), (.bool s194.2.2.2.1), (.bool s194.2.2.2.2.1), (sv s194.2.2.2.2.2.1), (vi s194.2.2.2.2.2.2.1), (vi s194.2.2.2.2.2.2.2.1), (vi s194.2.2.2.2.2.2.2.2.1), (.slice as194_9 s194.2.2.2.2.2.2.2.2.2.1.length ns194_9), (.slice as194_10 s194.2.2.2.2.2.2.2.2.2.2.length ns194_10)] 214), es194_10, (sb b27 #[(sv (([] : UQ))), (vi 0), (vi 0), (vi 0), (.slice none ([] : List Int).length 0), (.slice none ([] : List Line).length 0)] 27)] /\ Uw F13 F15 /\ FI f [] [(2, (.slice a2_0 x2.length n2_0)), (6, (pt b27 0)), (12, (pt b163 0)), (14, (.slice as194_0 s194.1.length ns194_0)), (90, (.bool j274))]) (fun wd269 hw270 => ?_) ?_
    ·refine Dl 0 (fun _ hq => (hq.1.2 4 _ _ rfl)) ?_
     refine Dv [1, 2, 3] <| Dl 4 (fun _ hq => (hq.1.2 1 _ _ rfl)) <| D1 5 ?_
     obtain ⟨r283, hr284, h285⟩ := bind_some hj281
     refine Aw.callLentP (l' := [true, true, true, true, true, true, false]) (zd := true) (by kernel_rfl) (by kernel_rfl) (by kernel_rfl) (q := 2) (v0 := (.bool r283)) (dst := (some 89)) (ty := 4) (g := none) (by kernel_rfl) rfl (f0 := (.func 25)) (aos := #[(.tmp 84), (.tmp 88)]) (ats := #[23, 27]) (fid := 25) (first := #[]) (cap := #[]) (args := [(.agg (Ak x0)), (.agg #[(sv s194.2.2.2.2.2.1), (vi s194.2.2.2.2.2.2.1), (vi s194.2.2.2.2.2.2.2.1), (vi s194.2.2.2.2.2.2.2.2.1), (.slice as194_9 s194.2.2.2.2.2.2.2.2.2.1.length ns194_9), (.slice as194_10 s194.2.2.2.2.2.2.2.2.2.2.length ns194_10)])]) rfl Kl rfl hw270 rfl (K6 N wd269 (GJ F13 es194_10) (HS.lend hw270 (q := 2) rfl).2 (hG.mono (((le36.t le45).trans le197).trans (HS.lend hw270 (q := 2) rfl).1)) ({ Report := x0.Report, Serial := x0.Serial, Zone := x0.Zone } : Ac) ({ Call := s194.2.2.2.2.2.1, Category := s194.2.2.2.2.2.2.1, Power := s194.2.2.2.2.2.2.2.1, Claimed := s194.2.2.2.2.2.2.2.2.1, Jumps := s194.2.2.2.2.2.2.2.2.2.1, Lines := s194.2.2.2.2.2.2.2.2.2.2 } : Log) as194_9 ns194_9 hbs194_9 (Uz hss194_9 (HS.lend hw270 (q := 2) rfl).1) as194_10 ns194_10 (UK hrs194_10) (Ap.freeze hrs194_10 (HS.lend hw270 (q := 2) rfl).1) _ hr284) (fun F16 w286 (hs287 : HS w0 F0 w286 F16 [es194_0, (sb b163 #[(.bool s194.2.2.1), (.bool s194.2.2.2.1), (.bool s194.2.2.2.2.1), (sv s194.2.2.2.2.2.1), (vi s194.2.2.2.2.2.2.1), (vi s194.2.2.2.2.2.2.2.1), (vi s194.2.2.2.2.2.2.2.2.1), (.slice as194_9 s194.2.2.2.2.2.2.2.2.2.1.length ns194_9), (.slice as194_10 s194.2.2.2.2.2.2.2.2.2.2.length ns194_10)] 214), es194_10, (sb b27 #[(sv (([] : UQ))), (vi 0), (vi 0), (vi 0), (.slice none ([] : List Int).length 0), (.slice none ([] : List Line).length 0)] 27), (sb b21 (Ak x0) 23)]) le288 => ?_)
     refine Dv [6] ?_
     obtain rfl := Aa h285
     exact UJ (by kernel_rfl) ⟨F16, hs287.dr4, le288, fI⟩
    ·rintro f w271 ⟨F15, hs272, le273, ⟨_, rfl⟩⟩
     refine Ab <| Cd h282 (fun hb289 h290 => ?_) (fun hb289 h291 => ?_)
     ·cases h290
     ·refine Sc ?_
      refine Ab <| Sq (Rg (rG 9) ?_)
      refine Vs 3 <| Ld hs272.at1 <| Vs 1 <| St3 #[(sv s194.2.2.2.2.2.1), (vi s194.2.2.2.2.2.2.1), (vi s194.2.2.2.2.2.2.2.1), (vi s194.2.2.2.2.2.2.2.2.1), (.slice as194_9 s194.2.2.2.2.2.2.2.2.2.1.length ns194_9), (.slice as194_10 s194.2.2.2.2.2.2.2.2.2.2.length ns194_10)] hs272 (fun w292 hs293 => ?_)
      refine Vs 3 <| Nt <| Rt ?_
      obtain rfl := Aa h291
      exact ⟨rfl, (.tuple #[(.agg #[(sv s194.2.2.2.2.2.1), (vi s194.2.2.2.2.2.2.1), (vi s194.2.2.2.2.2.2.2.1), (vi s194.2.2.2.2.2.2.2.2.1), (.slice as194_9 s194.2.2.2.2.2.2.2.2.2.1.length ns194_9), (.slice as194_10 s194.2.2.2.2.2.2.2.2.2.2.length ns194_10)]), (.slice as194_0 s194.1.length ns194_0), (vi 0), (vi 0)]), AR (l := [.cell 6 27, .tmp 7, .tmp 8, .tmp 9]) (by kernel_rfl) (vs := [(.agg #[(sv s194.2.2.2.2.2.1), (vi s194.2.2.2.2.2.2.1), (vi s194.2.2.2.2.2.2.2.1), (vi s194.2.2.2.2.2.2.2.2.1), (.slice as194_9 s194.2.2.2.2.2.2.2.2.2.1.length ns194_9), (.slice as194_10 s194.2.2.2.2.2.2.2.2.2.2.length ns194_10)]), (.slice as194_0 s194.1.length ns194_0), (vi 0), (vi 0)]) ⟨b27, 0, rfl, Am (t := 27) (g := true) (s := 6) (by kernel_rfl) hs293.at3 rfl (by decide), ⟨rfl, ⟨rfl, ⟨rfl, trivial⟩⟩⟩⟩, (.tuple #[(.agg #[(sv s194.2.2.2.2.2.1), (vi s194.2.2.2.2.2.2.1), (vi s194.2.2.2.2.2.2.2.1), (vi s194.2.2.2.2.2.2.2.2.1), (.slice as194_9 s194.2.2.2.2.2.2.2.2.2.1.length ns194_9), (.slice as194_10 s194.2.2.2.2.2.2.2.2.2.2.length ns194_10)]), (.slice as194_0 s194.1.length ns194_0), (vi 0), (vi 0)]), F15, _, rfl, hs293.dr1.dr2.pk1, ⟨as194_9, ns194_9, as194_10, ns194_10, es194_10, as194_0, ns194_0, es194_0, rfl, rfl, hbs194_9, (Uz hss194_9 le273), (hrs194_10.mono le273), (hrs194_0.mono le273)⟩⟩
end Go.Proofs.YthljkpeimofbbaaGreatDoor
