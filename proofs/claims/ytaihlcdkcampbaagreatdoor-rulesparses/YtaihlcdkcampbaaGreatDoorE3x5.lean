/- Lemmas of the claim RulesParses, printed by a program of the claimant and by hand. No statement of the seat is proved here. -/
import Derived.Test.YtaihlcdkcampbaaGreatDoorE3x4
set_option linter.unusedVariables false
set_option linter.unusedSimpArgs false
set_option linter.unusedSectionVars false
set_option maxHeartbeats 4000000
set_option maxRecDepth 100000
namespace Go.Proofs.YtaihlcdkcampbaaGreatDoor
def CL (N : Nat) (x0 : Ac) (x1 : BC) : Option (Ak ⊕ (Ac × BC)) :=
 ((idx x0.l_ 0).bind fun x21 => ((Aw N x0 ([114, 101, 112, 101, 97, 116] : TN)).bind fun r41 => (bif r41.2 then ((AG N r41.1 ([58] : TN)).bind fun r51 => sk r51 (fun b242 => some (.inl b242)) (fun r54 => ((AQ N r54).bind fun r61 => sk r61 (fun b235 => some (.inl b235)) (fun r64 => ((Br N r64.1).bind fun r77 => sk r77 (fun b228 => some (.inl b228)) (fun r80 => (((CV N r64.1 x1.Repeats x21.at_).bind fun r100 => sk r100 (fun b110 => some (.inl b110)) (fun r103 => some (.inr ()))).bind fun j92 => sk j92 (fun b222 => some (.inl b222)) (fun J99 => ((AK N r64.1 r64.2 1).bind fun r118 => sk r118 (fun b215 => some (.inl b215)) (fun r121 => (((CU x1.Repeats [({ Op := 0, Value := 0, Kids := ([] : List Expr) } : Expr)]).bind fun r142 => ((idx r142 (x1.Repeats.length : Int)).bind fun x151 => some (r142.set ((x1.Repeats.length : Int) : Int).toNat r64.2.Expr))).bind fun j133 => some (.inr (r64.1, ({ Points := x1.Points, Multipliers := x1.Multipliers, Penalties := x1.Penalties, Repeats := j133 } : BC)))))))))))))) else (bif (x21.text_ == ([112, 111, 105, 110, 116, 115] : TN)) then ((Aw N r41.1 x21.text_).bind fun r264 => (bif (!r264.2) then ((AY N r264.1 60 x21.at_).bind fun r274 => sk r274 (fun b279 => some (.inl b279)) (fun r277 => none)) else ((AG N r264.1 ([58] : TN)).bind fun r286 => sk r286 (fun b489 => some (.inl b489)) (fun r289 => ((AQ N r289).bind fun r296 => sk r296 (fun b482 => some (.inl b482)) (fun r299 => ((AG N r299.1 ([61, 62] : TN)).bind fun r319 => sk r319 (fun b475 => some (.inl b475)) (fun r322 => ((AQ N r322).bind fun r329 => sk r329 (fun b468 => some (.inl b468)) (fun r332 => ((Br N r332.1).bind fun r354 => sk r354 (fun b461 => some (.inl b461)) (fun r357 => (((BR N r332.1 x1.Points x21.at_).bind fun r378 => sk r378 (fun b388 => some (.inl b388)) (fun r381 => some (.inr ()))).bind fun j369 => sk j369 (fun b455 => some (.inl b455)) (fun J377 => ((AK N r332.1 r299.2 2).bind fun r396 => sk r396 (fun b448 => some (.inl b448)) (fun r399 => ((AK N r332.1 r332.2 1).bind fun r406 => sk r406 (fun b441 => some (.inl b441)) (fun r409 => (((CU x1.Points [({ When := r299.2.Expr, Then := r332.2.Expr } : Clause)]).bind fun r430 => some r430).bind fun j421 => some (.inr (r332.1, ({ Points := j421, Multipliers := x1.Multipliers, Penalties := x1.Penalties, Repeats := x1.Repeats } : BC)))))))))))))))))))))) else (bif (x21.text_ == ([109, 117, 108, 116, 105, 112, 108, 105, 101, 114] : TN)) then ((Aw N r41.1 x21.text_).bind fun r500 => (bif (!r500.2) then ((AY N r500.1 60 x21.at_).bind fun r510 => sk r510 (fun b515 => some (.inl b515)) (fun r513 => none)) else ((AG N r500.1 ([58] : TN)).bind fun r522 => sk r522 (fun b725 => some (.inl b725)) (fun r525 => ((AQ N r525).bind fun r532 => sk r532 (fun b718 => some (.inl b718)) (fun r535 => ((AG N r535.1 ([61, 62] : TN)).bind fun r555 => sk r555 (fun b711 => some (.inl b711)) (fun r558 => ((AQ N r558).bind fun r565 => sk r565 (fun b704 => some (.inl b704)) (fun r568 => ((Br N r568.1).bind fun r590 => sk r590 (fun b697 => some (.inl b697)) (fun r593 => (((BR N r568.1 x1.Multipliers x21.at_).bind fun r614 => sk r614 (fun b624 => some (.inl b624)) (fun r617 => some (.inr ()))).bind fun j605 => sk j605 (fun b691 => some (.inl b691)) (fun J613 => ((AK N r568.1 r535.2 2).bind fun r632 => sk r632 (fun b684 => some (.inl b684)) (fun r635 => ((AK N r568.1 r568.2 1).bind fun r642 => sk r642 (fun b677 => some (.inl b677)) (fun r645 => (((CU x1.Multipliers [({ When := r535.2.Expr, Then := r568.2.Expr } : Clause)]).bind fun r666 => some r666).bind fun j657 => some (.inr (r568.1, ({ Points := x1.Points, Multipliers := j657, Penalties := x1.Penalties, Repeats := x1.Repeats } : BC)))))))))))))))))))))) else (bif (x21.text_ == ([112, 101, 110, 97, 108, 116, 121] : TN)) then ((Aw N r41.1 x21.text_).bind fun r736 => (bif (!r736.2) then ((AY N r736.1 60 x21.at_).bind fun r746 => sk r746 (fun b751 => some (.inl b751)) (fun r749 => none)) else ((AG N r736.1 ([58] : TN)).bind fun r758 => sk r758 (fun b961 => some (.inl b961)) (fun r761 => ((AQ N r761).bind fun r768 => sk r768 (fun b954 => some (.inl b954)) (fun r771 => ((AG N r771.1 ([61, 62] : TN)).bind fun r791 => sk r791 (fun b947 => some (.inl b947)) (fun r794 => ((AQ N r794).bind fun r801 => sk r801 (fun b940 => some (.inl b940)) (fun r804 => ((Br N r804.1).bind fun r826 => sk r826 (fun b933 => some (.inl b933)) (fun r829 => (((BR N r804.1 x1.Penalties x21.at_).bind fun r850 => sk r850 (fun b860 => some (.inl b860)) (fun r853 => some (.inr ()))).bind fun j841 => sk j841 (fun b927 => some (.inl b927)) (fun J849 => ((AK N r804.1 r771.2 2).bind fun r868 => sk r868 (fun b920 => some (.inl b920)) (fun r871 => ((AK N r804.1 r804.2 1).bind fun r878 => sk r878 (fun b913 => some (.inl b913)) (fun r881 => (((CU x1.Penalties [({ When := r771.2.Expr, Then := r804.2.Expr } : Clause)]).bind fun r902 => some r902).bind fun j893 => some (.inr (r804.1, ({ Points := x1.Points, Multipliers := x1.Multipliers, Penalties := j893, Repeats := x1.Repeats } : BC)))))))))))))))))))))) else ((AY N r41.1 60 x21.at_).bind fun r969 => sk r969 (fun b974 => some (.inl b974)) (fun r972 => none))))))))
theorem HB : Au Tryz.prog 81 := fun _ _ => by kernel_rfl
theorem Ir (N : Nat) {wb w0 : World} {Fb F0 : Mem} {Lf : Own} (hG : Dy F0) (bp0 : Nat) (x0 : Ac) (a0_0 : TO) (n0_0 : Nat) (hb0_0 : LC x0.l_.length n0_0) (hs0_0 : SlA Al F0 a0_0 x0.l_) (bp1 : Nat) (x1 : BC) (a1_0 : TO) (n1_0 : Nat) (e1_0 : Option Nat × Obj) (a1_1 : TO) (n1_1 : Nat) (e1_1 : Option Nat × Obj) (a1_2 : TO) (n1_2 : Nat) (e1_2 : Option Nat × Obj) (a1_3 : TO) (n1_3 : Nat) (e1_3 : Option Nat × Obj) (hr1_0 : Av Ay 56 F0 a1_0 n1_0 x1.Points e1_0) (hr1_1 : Av Ay 56 F0 a1_1 n1_1 x1.Multipliers e1_1) (hr1_2 : Av Ay 56 F0 a1_2 n1_2 x1.Penalties e1_2) (hr1_3 : Av As 33 F0 a1_3 n1_3 x1.Repeats e1_3) (hs0 : HS wb Fb w0 F0 ((sb bp0 (Ah x0 a0_0 n0_0) 100) :: (sb bp1 (AU x1 a1_0 n1_0 a1_1 n1_1 a1_2 n1_2 a1_3 n1_3) 26) :: e1_0 :: e1_1 :: e1_2 :: e1_3 :: Lf)) (r : (Ak ⊕ (Ac × BC))) (h : CL N x0 x1 = some r) :
  Calls Tryz.prog 81 ([(pt bp0 0), (pt bp1 0)] : List Value).toArray w0 (Cj wb Fb F0 Lf r (fun b => (.iface 158 (.agg (A3 b)))) fun a F' v L' => ∃ (aq0_0 : TO) (nq0_0 : Nat) (aq1_0 : TO) (nq1_0 : Nat) (eq1_0 : Option Nat × Obj) (aq1_1 : TO) (nq1_1 : Nat) (eq1_1 : Option Nat × Obj) (aq1_2 : TO) (nq1_2 : Nat) (eq1_2 : Option Nat × Obj) (aq1_3 : TO) (nq1_3 : Nat) (eq1_3 : Option Nat × Obj), v = (.tuple #[]) /\ L' = (sb bp0 (Ah a.1 aq0_0 nq0_0) 100) :: (sb bp1 (AU a.2 aq1_0 nq1_0 aq1_1 nq1_1 aq1_2 nq1_2 aq1_3 nq1_3) 26) :: eq1_0 :: eq1_1 :: eq1_2 :: eq1_3 :: Lf /\ LC a.1.l_.length nq0_0 /\ SlA Al F' aq0_0 a.1.l_ /\ Av Ay 56 F' aq1_0 nq1_0 a.2.Points eq1_0 /\ Av Ay 56 F' aq1_1 nq1_1 a.2.Multipliers eq1_1 /\ Av Ay 56 F' aq1_2 nq1_2 a.2.Penalties eq1_2 /\ Av As 33 F' aq1_3 nq1_3 a.2.Repeats eq1_3) := by
 refine Go 114 Tryz.func81 ?_
 refine Sq (Rg [0, 1, 2, 3, 4, 5, 6, 7] ?_)
 refine Vs 3 ?_
 refine Ld hs0.at0 ?_
 obtain ⟨x21, hx22, h24⟩ := bind_some h
 obtain ⟨hi23, hx22'⟩ := Az hx22
 obtain ⟨b25, o26, C27, E28, fz29, rfl, hF31, hE32⟩ := Tx hs0_0 hx22'
 have hc34 := hE32 _ _ hx22'
 refine Ix hi23 ?_
 refine Lx 0 (hs0.pers _ _ hF31) hc34 ?_
 refine Al' 97 #[(vi 0), (vi 0), (.string ⟨(([] : TN)).toArray⟩)] hs0 (fun b35 w36 hs37 => ?_)
 refine St0 (A9 x21) hs37 (fun w38 hs39 => ?_)
 refine Nss ?_
 refine Sq (Rg [0, 1] ?_)
 refine Vs 1 ?_
 have hs40 := hs39.pk6.pk6.pk6.pk6.pk6.pk5
 obtain ⟨r41, hr42, h43⟩ := bind_some h24
 refine CB AP (AV N bp0 x0 (some ⟨b25, o26, none⟩) n0_0 hb0_0 hs0_0 (([114, 101, 112, 101, 97, 116] : TN)) hs40.pk6 _ hr42) ?_
 rintro _ F1 w44 _ hs45 le46 ⟨ar41_0_0, nr41_0_0, rfl, rfl, hbr41_0_0, hsr41_0_0⟩
 refine Nt ?_
 refine Cd h43 (fun hb48 h49 => ?_) (fun hb48 h50 => ?_)
 ·refine Sq (Rg [0, 1] ?_)
  refine Vs 1 ?_
  obtain ⟨r51, hr52, h53⟩ := bind_some h49
  refine CP A4 (A7 N bp0 r41.1 ar41_0_0 nr41_0_0 hbr41_0_0 hsr41_0_0 (([58] : TN)) hs45 _ hr52) ?_ ?_
  ·rintro r54 _ F2 w56 _ rfl hs57 le58 ⟨ar54_0_0, nr54_0_0, rfl, rfl, hbr54_0_0, hsr54_0_0⟩
   have h60 := BM h53
   refine Nss (Rg [0, 1, 2, 3] ?_)
   refine Vs 1 ?_
   obtain ⟨r61, hr62, h63⟩ := bind_some h60
   refine CP Bj (Bm N (hG.mono (le46.trans le58)) bp0 r54 ar54_0_0 nr54_0_0 hbr54_0_0 hsr54_0_0 hs57 _ hr62) ?_ ?_
   ·rintro r64 _ F3 w66 _ rfl hs67 le68 ⟨ar64_0_0, nr64_0_0, ar64_1_2, nr64_1_2, rfl, rfl, hbr64_0_0, hsr64_0_0, hbr64_1_2, hsr64_1_2⟩
    have h70 := BM h63
    refine Al' 113 #[(vi 0), (vi 0), (.slice none ([] : List Expr).length 0), (vi 0)] hs67 (fun b71 w72 hs73 => ?_)
    refine St0 (Aq r64.2 ar64_1_2 nr64_1_2) hs73 (fun w74 hs75 => ?_)
    refine Nss (Rg [0, 1] ?_)
    refine Vs 1 ?_
    have hs76 := hs75.pk7.pk7.pk7.pk7.pk7.pk7
    obtain ⟨r77, hr78, h79⟩ := bind_some h70
    refine CP CF (CR N bp0 r64.1 ar64_0_0 nr64_0_0 hbr64_0_0 hsr64_0_0 hs76.pk6.pk7 _ hr78) ?_ ?_
    ·rintro r80 _ F4 w82 _ rfl hs83 le84 ⟨rfl, rfl⟩
     have h86 := BM h79
     refine Nss ?_
     obtain ⟨j92, hj97, h98⟩ := bind_some h86
     refine RDP 8 8 [(sb bp0 (Ah r64.1 ar64_0_0 nr64_0_0) 100), (sb b71 (Aq r64.2 ar64_1_2 nr64_1_2) 113), (sb b35 (A9 x21) 97), (sb bp1 (AU x1 a1_0 n1_0 a1_1 n1_1 a1_2 n1_2 a1_3 n1_3) 26), e1_0, e1_1, e1_2, e1_3] [] hs83 (fun c d w => d = [] /\ ∃ (b : Ak) (Fp : Mem), j92 = .inl b /\ c = [{ v := (.iface 158 (.agg (A3 b))), recovered := false }] /\ HS wb Fb w Fp Lf /\ Tn F4 Fp) (fun f w => ∃ (J99 : Unit), j92 = .inr J99 /\ ∃ (F5 : Mem), HS wb Fb w F5 ((sb bp0 (Ah r64.1 ar64_0_0 nr64_0_0) 100) :: (sb b71 (Aq r64.2 ar64_1_2 nr64_1_2) 113) :: (sb bp1 (AU x1 a1_0 n1_0 a1_1 n1_1 a1_2 n1_2 a1_3 n1_3) 26) :: e1_0 :: e1_1 :: e1_2 :: e1_3 :: Lf) /\ Tn F4 F5 /\ FI f [] [(0, (pt bp0 0)), (1, (pt bp1 0)), (5, (pt b71 0))]) (fun wd87 hw88 => ?_) ?_ ?_
     ·refine Dv [0, 1, 2, 3] ?_
      refine Dl 4 (fun _ hq => (hq.1.2 3 _ _ rfl)) ?_
      refine Dv [5] ?_
      refine Dl 6 (fun _ hq => (hq.1.2 2 _ _ rfl)) ?_
      refine D1 7 ?_
      obtain ⟨r100, hr101, h102⟩ := bind_some hj97
      refine DCP GU (Hc N bp0 r64.1 ar64_0_0 nr64_0_0 hbr64_0_0 (Tq hsr64_0_0 le84) x1.Repeats a1_3 n1_3 x21.at_ hw88 _ hr101) ?_ ?_
      ·rintro r103 _ F6 w105 _ rfl hs106 le107 ⟨rfl, rfl⟩
       have h109 := BM h102
       refine ⟨Bg hs106 le107 (by simp) (zdT (by kernel_rfl)), ?_⟩
       obtain rfl := Ab h109
       exact TE (by kernel_rfl) ⟨_, rfl, F6, hs106.dr2, le107, fI⟩
      ·rintro b110 F7 w111 rfl hs112 le113
       have h114 := Bo h102
       obtain rfl := Ab h114
       have hs116 := hs112.dr0.dr0.dr0.dr0.dr0
       exact ⟨rfl, _, _, rfl, rfl, hs116.dr0.dr0, le113⟩
     ·rintro f w89 ⟨J99, rfl, F5, hs90, le91, ⟨_, rfl⟩⟩
      have h117 := BM h98
      refine Ad ?_
      refine Sq (Rg [0, 1, 2] ?_)
      refine Vs 1 ?_
      refine Ld hs90.at1 ?_
      obtain ⟨r118, hr119, h120⟩ := bind_some h117
      refine CP Bl (Bq N bp0 r64.1 ar64_0_0 nr64_0_0 hbr64_0_0 (Tq hsr64_0_0 (le84.trans le91)) r64.2 ar64_1_2 nr64_1_2 hbr64_1_2 (Tq hsr64_1_2 (le84.trans le91)) 1 hs90 _ hr119) ?_ ?_
      ·rintro r121 _ F8 w123 _ rfl hs124 le125 ⟨rfl, rfl⟩
       have h127 := BM h120
       refine Nss ?_
       obtain ⟨j133, hj135, h136⟩ := bind_some h127
       refine RD 14 14 [(sb bp0 (Ah r64.1 ar64_0_0 nr64_0_0) 100), (sb b71 (Aq r64.2 ar64_1_2 nr64_1_2) 113), e1_0, e1_1, e1_2] [] hs124 (fun f w => ∃ (F9 : Mem) (aj133_0 : TO) (nj133_0 : Nat) (ej133_0 : Option Nat × Obj), HS wb Fb w F9 ((sb bp0 (Ah r64.1 ar64_0_0 nr64_0_0) 100) :: (sb bp1 #[(.slice a1_0 x1.Points.length n1_0), (.slice a1_1 x1.Multipliers.length n1_1), (.slice a1_2 x1.Penalties.length n1_2), (.slice aj133_0 j133.length nj133_0)] 26) :: e1_0 :: e1_1 :: e1_2 :: ej133_0 :: Lf) /\ Tn F8 F9 /\ FI f [] [] /\ Av As 33 F9 aj133_0 nj133_0 j133 ej133_0) (fun wd128 hw129 => ?_) ?_
       ·refine Dv [0, 1, 2, 4] ?_
        refine Dl 5 (fun _ hq => (hq.1.2 1 _ _ rfl)) ?_
        refine TB (i := 3) (j := 7) (by kernel_rfl) ?_ ?_
        ·refine TC (l' := [true, true, true, true, true, true, false, false, false, false, false, false, false, false]) (zd := true) (by kernel_rfl) (by kernel_rfl) (dst := (some 39)) (ty := 24) (g := none) (by kernel_rfl) rfl (Bh (t := 24) (x := (.tmp 38)) (b := bp1) (o := 3) (g := false) (s := 1) (C := (AU x1 a1_0 n1_0 a1_1 n1_1 a1_2 n1_2 a1_3 n1_3)) (v := (.slice a1_3 x1.Repeats.length n1_3)) rfl (by kernel_rfl) hw129.at2 rfl rfl rfl) (Bg hw129 (To _) (by simp) (fun e => by cases e)) ?_
         refine Dv [6] ?_
         refine D1 7 ?_
         refine DBs 33 [(vi 0), (vi 0), (.slice none ([] : List Expr).length 0)] hw129 (To _) (fun b137 w138 hs139 => ?_)
         have hr141 : Av As 33 F8 (some ⟨b137, 0, none⟩) 1 [({ Op := 0, Value := 0, Kids := ([] : List Expr) } : Expr)] (some b137, .cells ([(vi 0), (vi 0), (.slice none ([] : List Expr).length 0)] : List Value).toArray 33 (0, 0)) := TH ⟨(Ba ⟨none, 0, rfl, Tr, (.inl rfl)⟩), rfl⟩ (by simp)
         refine D1 8 ?_
         obtain ⟨r142, hap143, h144⟩ := bind_some hj135
         refine Qf N9 hs139 (hr1_3.mono (((((le46.trans le58).trans le68).trans le84).trans le91).trans le125)) (hs139.rd0 hr141) hap143 (To _) (fun a145 n146 e147 w148 hs149 hr150 => ?_)
         obtain ⟨x151, hx152, h154⟩ := bind_some h144
         obtain ⟨hi153, hx152'⟩ := Az hx152
         obtain ⟨b155, C156, rfl, rfl, hE159⟩ := Av.open hr150 hx152'
         have hr160 := hr150
         obtain ⟨ae161_2, ne161_2, hc162, hbe161_2, hse161_2⟩ := (A1 (hE159 _ _ hx152'))
         refine Dj 9 hi153 ?_
         refine Dv [11, 12] ?_
         refine TB (i := 10) (j := 13) (by kernel_rfl) ?_ ?_
         ·refine TJ (l' := [true, true, true, true, true, true, true, true, true, true, true, true, true, false]) (zd := true) (by kernel_rfl) (by kernel_rfl) (ty := 0) (g := none) (by kernel_rfl) rfl (x := (.tmp 45)) (y := (.tmp 41)) (t := 33) (v := (.agg (Ai r64.2.Expr ar64_1_2 nr64_1_2))) (gg := true) (b := b155) (j := ((x1.Repeats.length : Int) : Int).toNat) (C := C156) (T := As) (E := 33) (u := r64.2.Expr) rfl rfl (by kernel_rfl) hs149 (k := 7) rfl hr160 hx152' (Ba ⟨ar64_1_2, nr64_1_2, rfl, hbr64_1_2, (Tq hsr64_1_2 ((le84.trans le91).trans le125))⟩) rfl (To _) (fun _ => by simp) (fun e => by cases e) (fun C163 w164 (hs165 : HS wb Fb w164 F8 ((some b137, .cells ([(vi 0), (vi 0), (.slice none ([] : List Expr).length 0)] : List Value).toArray 33 (0, 0)) :: (sb bp0 (Ah r64.1 ar64_0_0 nr64_0_0) 100) :: (sb b71 (Aq r64.2 ar64_1_2 nr64_1_2) 113) :: (sb bp1 (AU x1 a1_0 n1_0 a1_1 n1_1 a1_2 n1_2 a1_3 n1_3) 26) :: e1_0 :: e1_1 :: e1_2 :: (some b155, .cells C163 33 (0, 0)) :: Lf)) hr166 => ?_)
          refine D1 13 ?_
          refine AB.store (l' := [true, true, true, true, true, true, true, true, true, true, true, true, true, true]) (zd := true) (by kernel_rfl) (by kernel_rfl) (ty := 0) (g := none) (by kernel_rfl) rfl (x := (.tmp 47)) (y := (.tmp 44)) (t := 24) (gg := false) (s := 1) (v := (.slice (some ⟨b155, 0, none⟩) (r142.set ((x1.Repeats.length : Int) : Int).toNat r64.2.Expr).length n146)) (b := bp1) (o := 3) (C := (AU x1 a1_0 n1_0 a1_1 n1_1 a1_2 n1_2 a1_3 n1_3)) rfl (Jy rfl) (by kernel_rfl) hs165 (k := 3) rfl rfl rfl rfl (C' := #[(.slice a1_0 x1.Points.length n1_0), (.slice a1_1 x1.Multipliers.length n1_1), (.slice a1_2 x1.Penalties.length n1_2), (.slice (some ⟨b155, 0, none⟩) (r142.set ((x1.Repeats.length : Int) : Int).toNat r64.2.Expr).length n146)]) rfl (To _) (by simp) (fun e => by cases e) (fun w167 (hs168 : HS wb Fb w167 F8 ((some b137, .cells ([(vi 0), (vi 0), (.slice none ([] : List Expr).length 0)] : List Value).toArray 33 (0, 0)) :: (sb bp0 (Ah r64.1 ar64_0_0 nr64_0_0) 100) :: (sb b71 (Aq r64.2 ar64_1_2 nr64_1_2) 113) :: (sb bp1 #[(.slice a1_0 x1.Points.length n1_0), (.slice a1_1 x1.Multipliers.length n1_1), (.slice a1_2 x1.Penalties.length n1_2), (.slice (some ⟨b155, 0, none⟩) (r142.set ((x1.Repeats.length : Int) : Int).toNat r64.2.Expr).length n146)] 26) :: e1_0 :: e1_1 :: e1_2 :: (some b155, .cells C163 33 (0, 0)) :: Lf)) => ?_)
          obtain rfl := Ab h154
          exact TE (by kernel_rfl) ⟨F8, (some ⟨b155, 0, none⟩), n146, (some b155, .cells C163 33 (0, 0)), hs168.dr0.dr1, (To _), fI, hr166⟩
         ·refine Q7 #[(.slice a1_0 x1.Points.length n1_0), (.slice a1_1 x1.Multipliers.length n1_1), (.slice a1_2 x1.Penalties.length n1_2), (.slice (some ⟨b155, 0, none⟩) r142.length n146)] hs149 (To _) (fun w169 hs170 => ?_)
          refine D1 10 ?_
          refine TJ (l' := [true, true, true, true, true, true, true, true, true, true, true, true, true, true]) (zd := true) (by kernel_rfl) (by kernel_rfl) (ty := 0) (g := none) (by kernel_rfl) rfl (x := (.tmp 45)) (y := (.tmp 41)) (t := 33) (v := (.agg (Ai r64.2.Expr ar64_1_2 nr64_1_2))) (gg := true) (b := b155) (j := ((x1.Repeats.length : Int) : Int).toNat) (C := C156) (T := As) (E := 33) (u := r64.2.Expr) rfl rfl (by kernel_rfl) hs170 (k := 7) rfl hr160 hx152' (Ba ⟨ar64_1_2, nr64_1_2, rfl, hbr64_1_2, (Tq hsr64_1_2 ((le84.trans le91).trans le125))⟩) rfl (To _) (fun _ => by simp) (fun e => by cases e) (fun C171 w172 (hs173 : HS wb Fb w172 F8 ((some b137, .cells ([(vi 0), (vi 0), (.slice none ([] : List Expr).length 0)] : List Value).toArray 33 (0, 0)) :: (sb bp0 (Ah r64.1 ar64_0_0 nr64_0_0) 100) :: (sb b71 (Aq r64.2 ar64_1_2 nr64_1_2) 113) :: (sb bp1 #[(.slice a1_0 x1.Points.length n1_0), (.slice a1_1 x1.Multipliers.length n1_1), (.slice a1_2 x1.Penalties.length n1_2), (.slice (some ⟨b155, 0, none⟩) r142.length n146)] 26) :: e1_0 :: e1_1 :: e1_2 :: (some b155, .cells C171 33 (0, 0)) :: Lf)) hr174 => ?_)
          have hs175 : HS wb Fb w172 F8 ((some b137, .cells ([(vi 0), (vi 0), (.slice none ([] : List Expr).length 0)] : List Value).toArray 33 (0, 0)) :: (sb bp0 (Ah r64.1 ar64_0_0 nr64_0_0) 100) :: (sb b71 (Aq r64.2 ar64_1_2 nr64_1_2) 113) :: (sb bp1 #[(.slice a1_0 x1.Points.length n1_0), (.slice a1_1 x1.Multipliers.length n1_1), (.slice a1_2 x1.Penalties.length n1_2), (.slice (some ⟨b155, 0, none⟩) (r142.set ((x1.Repeats.length : Int) : Int).toNat r64.2.Expr).length n146)] 26) :: e1_0 :: e1_1 :: e1_2 :: (some b155, .cells C171 33 (0, 0)) :: Lf) := by have hq := hs173; simp only [List.length_set] at hq ⊢; exact hq
          obtain rfl := Ab h154
          exact TE (by kernel_rfl) ⟨F8, (some ⟨b155, 0, none⟩), n146, (some b155, .cells C171 33 (0, 0)), hs175.dr0.dr1, (To _), fI, hr174⟩
        ·refine DBs 33 [(vi 0), (vi 0), (.slice none ([] : List Expr).length 0)] hw129 (To _) (fun b176 w177 hs178 => ?_)
         have hr180 : Av As 33 F8 (some ⟨b176, 0, none⟩) 1 [({ Op := 0, Value := 0, Kids := ([] : List Expr) } : Expr)] (some b176, .cells ([(vi 0), (vi 0), (.slice none ([] : List Expr).length 0)] : List Value).toArray 33 (0, 0)) := TH ⟨(Ba ⟨none, 0, rfl, Tr, (.inl rfl)⟩), rfl⟩ (by simp)
         refine D1 3 ?_
         refine TC (l' := [true, true, true, true, true, true, false, true, false, false, false, false, false, false]) (zd := true) (by kernel_rfl) (by kernel_rfl) (dst := (some 39)) (ty := 24) (g := none) (by kernel_rfl) rfl (Bh (t := 24) (x := (.tmp 38)) (b := bp1) (o := 3) (g := false) (s := 1) (C := (AU x1 a1_0 n1_0 a1_1 n1_1 a1_2 n1_2 a1_3 n1_3)) (v := (.slice a1_3 x1.Repeats.length n1_3)) rfl (by kernel_rfl) hs178.at3 rfl rfl rfl) (Bg hs178 (To _) (by simp) (fun e => by cases e)) ?_
         refine Dv [6] ?_
         refine D1 8 ?_
         obtain ⟨r181, hap182, h183⟩ := bind_some hj135
         refine Qf N9 hs178 (hr1_3.mono (((((le46.trans le58).trans le68).trans le84).trans le91).trans le125)) (hs178.rd0 hr180) hap182 (To _) (fun a184 n185 e186 w187 hs188 hr189 => ?_)
         obtain ⟨x190, hx191, h193⟩ := bind_some h183
         obtain ⟨hi192, hx191'⟩ := Az hx191
         obtain ⟨b194, C195, rfl, rfl, hE198⟩ := Av.open hr189 hx191'
         have hr199 := hr189
         obtain ⟨ae200_2, ne200_2, hc201, hbe200_2, hse200_2⟩ := (A1 (hE198 _ _ hx191'))
         refine Dj 9 hi192 ?_
         refine Dv [11, 12] ?_
         refine TB (i := 10) (j := 13) (by kernel_rfl) ?_ ?_
         ·refine TJ (l' := [true, true, true, true, true, true, true, true, true, true, true, true, true, false]) (zd := true) (by kernel_rfl) (by kernel_rfl) (ty := 0) (g := none) (by kernel_rfl) rfl (x := (.tmp 45)) (y := (.tmp 41)) (t := 33) (v := (.agg (Ai r64.2.Expr ar64_1_2 nr64_1_2))) (gg := true) (b := b194) (j := ((x1.Repeats.length : Int) : Int).toNat) (C := C195) (T := As) (E := 33) (u := r64.2.Expr) rfl rfl (by kernel_rfl) hs188 (k := 7) rfl hr199 hx191' (Ba ⟨ar64_1_2, nr64_1_2, rfl, hbr64_1_2, (Tq hsr64_1_2 ((le84.trans le91).trans le125))⟩) rfl (To _) (fun _ => by simp) (fun e => by cases e) (fun C202 w203 (hs204 : HS wb Fb w203 F8 ((some b176, .cells ([(vi 0), (vi 0), (.slice none ([] : List Expr).length 0)] : List Value).toArray 33 (0, 0)) :: (sb bp0 (Ah r64.1 ar64_0_0 nr64_0_0) 100) :: (sb b71 (Aq r64.2 ar64_1_2 nr64_1_2) 113) :: (sb bp1 (AU x1 a1_0 n1_0 a1_1 n1_1 a1_2 n1_2 a1_3 n1_3) 26) :: e1_0 :: e1_1 :: e1_2 :: (some b194, .cells C202 33 (0, 0)) :: Lf)) hr205 => ?_)
          refine D1 13 ?_
          refine AB.store (l' := [true, true, true, true, true, true, true, true, true, true, true, true, true, true]) (zd := true) (by kernel_rfl) (by kernel_rfl) (ty := 0) (g := none) (by kernel_rfl) rfl (x := (.tmp 47)) (y := (.tmp 44)) (t := 24) (gg := false) (s := 1) (v := (.slice (some ⟨b194, 0, none⟩) (r181.set ((x1.Repeats.length : Int) : Int).toNat r64.2.Expr).length n185)) (b := bp1) (o := 3) (C := (AU x1 a1_0 n1_0 a1_1 n1_1 a1_2 n1_2 a1_3 n1_3)) rfl (Jy rfl) (by kernel_rfl) hs204 (k := 3) rfl rfl rfl rfl (C' := #[(.slice a1_0 x1.Points.length n1_0), (.slice a1_1 x1.Multipliers.length n1_1), (.slice a1_2 x1.Penalties.length n1_2), (.slice (some ⟨b194, 0, none⟩) (r181.set ((x1.Repeats.length : Int) : Int).toNat r64.2.Expr).length n185)]) rfl (To _) (by simp) (fun e => by cases e) (fun w206 (hs207 : HS wb Fb w206 F8 ((some b176, .cells ([(vi 0), (vi 0), (.slice none ([] : List Expr).length 0)] : List Value).toArray 33 (0, 0)) :: (sb bp0 (Ah r64.1 ar64_0_0 nr64_0_0) 100) :: (sb b71 (Aq r64.2 ar64_1_2 nr64_1_2) 113) :: (sb bp1 #[(.slice a1_0 x1.Points.length n1_0), (.slice a1_1 x1.Multipliers.length n1_1), (.slice a1_2 x1.Penalties.length n1_2), (.slice (some ⟨b194, 0, none⟩) (r181.set ((x1.Repeats.length : Int) : Int).toNat r64.2.Expr).length n185)] 26) :: e1_0 :: e1_1 :: e1_2 :: (some b194, .cells C202 33 (0, 0)) :: Lf)) => ?_)
          obtain rfl := Ab h193
          exact TE (by kernel_rfl) ⟨F8, (some ⟨b194, 0, none⟩), n185, (some b194, .cells C202 33 (0, 0)), hs207.dr0.dr1, (To _), fI, hr205⟩
         ·refine Q7 #[(.slice a1_0 x1.Points.length n1_0), (.slice a1_1 x1.Multipliers.length n1_1), (.slice a1_2 x1.Penalties.length n1_2), (.slice (some ⟨b194, 0, none⟩) r181.length n185)] hs188 (To _) (fun w208 hs209 => ?_)
          refine D1 10 ?_
          refine TJ (l' := [true, true, true, true, true, true, true, true, true, true, true, true, true, true]) (zd := true) (by kernel_rfl) (by kernel_rfl) (ty := 0) (g := none) (by kernel_rfl) rfl (x := (.tmp 45)) (y := (.tmp 41)) (t := 33) (v := (.agg (Ai r64.2.Expr ar64_1_2 nr64_1_2))) (gg := true) (b := b194) (j := ((x1.Repeats.length : Int) : Int).toNat) (C := C195) (T := As) (E := 33) (u := r64.2.Expr) rfl rfl (by kernel_rfl) hs209 (k := 7) rfl hr199 hx191' (Ba ⟨ar64_1_2, nr64_1_2, rfl, hbr64_1_2, (Tq hsr64_1_2 ((le84.trans le91).trans le125))⟩) rfl (To _) (fun _ => by simp) (fun e => by cases e) (fun C210 w211 (hs212 : HS wb Fb w211 F8 ((some b176, .cells ([(vi 0), (vi 0), (.slice none ([] : List Expr).length 0)] : List Value).toArray 33 (0, 0)) :: (sb bp0 (Ah r64.1 ar64_0_0 nr64_0_0) 100) :: (sb b71 (Aq r64.2 ar64_1_2 nr64_1_2) 113) :: (sb bp1 #[(.slice a1_0 x1.Points.length n1_0), (.slice a1_1 x1.Multipliers.length n1_1), (.slice a1_2 x1.Penalties.length n1_2), (.slice (some ⟨b194, 0, none⟩) r181.length n185)] 26) :: e1_0 :: e1_1 :: e1_2 :: (some b194, .cells C210 33 (0, 0)) :: Lf)) hr213 => ?_)
          have hs214 : HS wb Fb w211 F8 ((some b176, .cells ([(vi 0), (vi 0), (.slice none ([] : List Expr).length 0)] : List Value).toArray 33 (0, 0)) :: (sb bp0 (Ah r64.1 ar64_0_0 nr64_0_0) 100) :: (sb b71 (Aq r64.2 ar64_1_2 nr64_1_2) 113) :: (sb bp1 #[(.slice a1_0 x1.Points.length n1_0), (.slice a1_1 x1.Multipliers.length n1_1), (.slice a1_2 x1.Penalties.length n1_2), (.slice (some ⟨b194, 0, none⟩) (r181.set ((x1.Repeats.length : Int) : Int).toNat r64.2.Expr).length n185)] 26) :: e1_0 :: e1_1 :: e1_2 :: (some b194, .cells C210 33 (0, 0)) :: Lf) := by have hq := hs212; simp only [List.length_set] at hq ⊢; exact hq
          obtain rfl := Ab h193
          exact TE (by kernel_rfl) ⟨F8, (some ⟨b194, 0, none⟩), n185, (some b194, .cells C210 33 (0, 0)), hs214.dr0.dr1, (To _), fI, hr213⟩
       ·rintro f w130 ⟨F9, aj133_0, nj133_0, ej133_0, hs131, le132, ⟨_, rfl⟩, hrj133_0⟩
        refine Ad ?_
        refine Rt ?_
        refine Aj ?_
        obtain rfl := Ab h136
        exact ReP [] hs131 ((((((le46.trans le58).trans le68).trans le84).trans le91).trans le125).trans le132) ⟨ar64_0_0, nr64_0_0, a1_0, n1_0, e1_0, a1_1, n1_1, e1_1, a1_2, n1_2, e1_2, aj133_0, nj133_0, ej133_0, rfl, rfl, hbr64_0_0, (Tq hsr64_0_0 (((le84.trans le91).trans le125).trans le132)), (hr1_0.mono ((((((le46.trans le58).trans le68).trans le84).trans le91).trans le125).trans le132)), (hr1_1.mono ((((((le46.trans le58).trans le68).trans le84).trans le91).trans le125).trans le132)), (hr1_2.mono ((((((le46.trans le58).trans le68).trans le84).trans le91).trans le125).trans le132)), hrj133_0⟩
      ·rintro b215 F10 w216 rfl hs217 le218
       have h219 := Bo h120
       refine Ap ?_
       refine Ap ?_
       have hs221 := hs217.dr0.dr0.dr0.dr0.dr0
       obtain rfl := Ab h219
       exact CI hs221.dr0 (((((le46.trans le58).trans le68).trans le84).trans le91).trans le218)
     ·rintro c f w223 ⟨hd226, b222, F11, rfl, rfl, hs224, le225⟩
      have h227 := Bo h98
      refine Ap ?_
      refine Ap ?_
      obtain rfl := Ab h227
      exact ⟨hd226, .inr ⟨_, F11, rfl, rfl, hs224, ((((le46.trans le58).trans le68).trans le84).trans le225)⟩⟩
    ·rintro b228 F12 w229 rfl hs230 le231
     have h232 := Bo h79
     refine Ap ?_
     refine Ap ?_
     have hs234 := hs230.dr0.dr0.dr0.dr0.dr0
     obtain rfl := Ab h232
     exact CI hs234.dr0.dr0 (((le46.trans le58).trans le68).trans le231)
   ·rintro b235 F13 w236 rfl hs237 le238
    have h239 := Bo h63
    refine Ap ?_
    refine Ap ?_
    have hs241 := hs237.dr0.dr0.dr0.dr0.dr0
    obtain rfl := Ab h239
    exact CI hs241.dr0 ((le46.trans le58).trans le238)
  ·rintro b242 F14 w243 rfl hs244 le245
   have h246 := Bo h53
   refine Ap ?_
   refine Ap ?_
   have hs248 := hs244.dr0.dr0.dr0.dr0.dr0
   obtain rfl := Ab h246
   exact CI hs248.dr0 (le46.trans le245)
 ·refine Sc ?_
  refine Ad ?_
  refine Sq ?_
  refine ON (L := ((sb bp0 (Ah r41.1 ar41_0_0 nr41_0_0) 100) :: (sb b35 (A9 x21) 97) :: (sb bp1 (AU x1 a1_0 n1_0 a1_1 n1_1 a1_2 n1_2 a1_3 n1_3) 26) :: e1_0 :: e1_1 :: e1_2 :: e1_3 :: Lf)) hs45 rfl (fun f249 w250 e251 b252 hs253 hp254 h255 hkeep => ?_)
  have h256 : f249.d = [] := (hkeep.1).trans rfl
  have h257 : f249 0 = (pt bp0 0) := (hkeep.2.1).trans rfl
  have h258 : f249 4 = (pt b35 0) := (hkeep.2.2).trans rfl
  clear hkeep
  have hs259 : HS wb Fb w250 F1 (e251 :: (sb bp0 (Ah r41.1 ar41_0_0 nr41_0_0) 100) :: (sb b35 (A9 x21) 97) :: (sb bp1 (AU x1 a1_0 n1_0 a1_1 n1_1 a1_2 n1_2 a1_3 n1_3) 26) :: e1_0 :: e1_1 :: e1_2 :: e1_3 :: Lf) := hs253
  refine Ad ?_
  refine Sq (Rg [0, 1, 2, 3, 4, 5, 6, 7, 8] ?_)
  refine V 60 167 (mv 6 (.map (some b252)) h255) ?_
  refine V 61 0 (fa 97 4 2 2 1 b35 0 2 h258) ?_
  refine Ld hs259.at2 ?_
  refine Sp h50 (fun hb260 h261 => ?_) (fun hb260 h262 => ?_)
  ·refine V 63 168 (Hg (mt := 167) (k := 9) (vt := 166) (m := (.tmp 60)) (x := (.tmp 62)) rfl rfl (by kernel_rfl) (by kernel_rfl) (hs259.ownAt' (k := 0) rfl) hp254 (PT hb260)) ?_
   refine Vs 5 ?_
   refine Nss ?_
   refine Sq (Rg [0, 1, 2, 3, 4, 5, 6, 7, 8] ?_)
   refine Vs 3 ?_
   refine Vg 69 95 2 false 68 rfl (mv 0 (pt bp0 0) h257) ?_
   refine Vg 70 0 2 false 68 rfl (fa 97 4 2 2 1 b35 0 2 h258) ?_
   refine Vg 71 9 2 false 68 rfl (ld 9 70 b35 2 false 1 (.string ⟨(x21.text_).toArray⟩) hs259.at2) ?_
   have hs263 := hs259.pk7.pk7.pk7.pk7.pk7
   obtain ⟨r264, hr265, h266⟩ := bind_some h261
   refine TK (dst := (some 72)) (ty := 4) (g := (some (2, false))) (by kernel_rfl) (FG (d := 68) (by kernel_rfl) rfl rfl) (f0 := (.func 80)) (aos := #[(.tmp 69), (.tmp 71)]) (ats := #[95, 9]) (fid := 80) (first := #[]) (cap := #[]) (args := [(pt bp0 0), (.string ⟨(x21.text_).toArray⟩)]) rfl AP rfl (AV N bp0 r41.1 ar41_0_0 nr41_0_0 hbr41_0_0 hsr41_0_0 x21.text_ hs263.pk7.pk6.pk7 _ hr265) ?_
   rintro _ F15 w267 _ hs268 le269 ⟨ar264_0_0, nr264_0_0, rfl, rfl, hbr264_0_0, hsr264_0_0⟩
   refine Vg 73 4 2 false 68 rfl (Ia (t := 4) (x := (.tmp 72)) (a := r264.2) rfl) ?_
   refine Pk0 (rfl : false = false) ?_
   refine Nt ?_
   refine Cd h266 (fun hb271 h272 => ?_) (fun hb271 h273 => ?_)
   ·refine Rg [0, 1, 2, 3] ?_
    refine V 75 95 (mv 0 (pt bp0 0) h257) ?_
    refine V 76 0 (fa 97 4 1 1 1 b35 0 1 h258) ?_
    refine Ld hs268.at2 ?_
    obtain ⟨r274, hr275, h276⟩ := bind_some h272
    refine CP AR (AZ N bp0 r264.1 ar264_0_0 nr264_0_0 hbr264_0_0 hsr264_0_0 60 x21.at_ hs268 _ hr275) ?_ ?_
    ·rintro _ _ _ _ _ rfl _ _ _; cases hr275
    ·rintro b279 F17 w280 rfl hs281 le282
     have h283 := Bo h276
     refine Ap ?_
     have hs285 := hs281.dr0.dr0.dr0.dr0.dr0
     obtain rfl := Ab h283
     exact ⟨h256, .inr ⟨_, F17, rfl, rfl, hs285.dr0.dr0, ((le46.trans le269).trans le282)⟩⟩
   ·refine Sc ?_
    refine Ad ?_
    refine Sq (Rg [0, 1] ?_)
    refine V 79 95 (mv 0 (pt bp0 0) h257) ?_
    obtain ⟨r286, hr287, h288⟩ := bind_some h273
    refine CP A4 (A7 N bp0 r264.1 ar264_0_0 nr264_0_0 hbr264_0_0 hsr264_0_0 (([58] : TN)) hs268 _ hr287) ?_ ?_
    ·rintro r289 _ F18 w291 _ rfl hs292 le293 ⟨ar289_0_0, nr289_0_0, rfl, rfl, hbr289_0_0, hsr289_0_0⟩
     have h295 := BM h288
     refine Nss (Rg [0, 1, 2, 3] ?_)
     refine V 81 95 (mv 0 (pt bp0 0) h257) ?_
     obtain ⟨r296, hr297, h298⟩ := bind_some h295
     refine CP Bj (Bm N (hG.mono ((le46.trans le269).trans le293)) bp0 r289 ar289_0_0 nr289_0_0 hbr289_0_0 hsr289_0_0 hs292 _ hr297) ?_ ?_
     ·rintro r299 _ F19 w301 _ rfl hs302 le303 ⟨ar299_0_0, nr299_0_0, ar299_1_2, nr299_1_2, rfl, rfl, hbr299_0_0, hsr299_0_0, hbr299_1_2, hsr299_1_2⟩
      have h305 := BM h298
      refine Al' 113 #[(vi 0), (vi 0), (.slice none ([] : List Expr).length 0), (vi 0)] hs302 (fun b306 w307 hs308 => ?_)
      refine St0 (Aq r299.2 ar299_1_2 nr299_1_2) hs308 (fun w309 hs310 => ?_)
      refine Nss (Rg [0, 1] ?_)
      refine V 83 95 (mv 0 (pt bp0 0) h257) ?_
      have hs317 : HS wb Fb w309 F19 (e251 :: (sb b35 (A9 x21) 97) :: (sb bp1 (AU x1 a1_0 n1_0 a1_1 n1_1 a1_2 n1_2 a1_3 n1_3) 26) :: e1_0 :: e1_1 :: e1_2 :: e1_3 :: (sb b306 (Aq r299.2 ar299_1_2 nr299_1_2) 113) :: (sb bp0 (Ah r299.1 ar299_0_0 nr299_0_0) 100) :: Lf) := hs310.pm [2, 3, 4, 5, 6, 7, 8, 0, 1]
      have hs318 : HS wb Fb w309 F19 ((sb bp0 (Ah r299.1 ar299_0_0 nr299_0_0) 100) :: (sb b306 (Aq r299.2 ar299_1_2 nr299_1_2) 113) :: e251 :: (sb b35 (A9 x21) 97) :: (sb bp1 (AU x1 a1_0 n1_0 a1_1 n1_1 a1_2 n1_2 a1_3 n1_3) 26) :: e1_0 :: e1_1 :: e1_2 :: e1_3 :: Lf) := hs317.pk7.pick (k := 8) rfl
      obtain ⟨r319, hr320, h321⟩ := bind_some h305
      refine CP A4 (A7 N bp0 r299.1 ar299_0_0 nr299_0_0 hbr299_0_0 hsr299_0_0 (([61, 62] : TN)) hs318 _ hr320) ?_ ?_
      ·rintro r322 _ F20 w324 _ rfl hs325 le326 ⟨ar322_0_0, nr322_0_0, rfl, rfl, hbr322_0_0, hsr322_0_0⟩
       have h328 := BM h321
       refine Nss (Rg [0, 1, 2, 3] ?_)
       refine V 85 95 (mv 0 (pt bp0 0) h257) ?_
       obtain ⟨r329, hr330, h331⟩ := bind_some h328
       refine CP Bj (Bm N (hG.mono ((((le46.trans le269).trans le293).trans le303).trans le326)) bp0 r322 ar322_0_0 nr322_0_0 hbr322_0_0 hsr322_0_0 hs325 _ hr330) ?_ ?_
       ·rintro r332 _ F21 w334 _ rfl hs335 le336 ⟨ar332_0_0, nr332_0_0, ar332_1_2, nr332_1_2, rfl, rfl, hbr332_0_0, hsr332_0_0, hbr332_1_2, hsr332_1_2⟩
        have h338 := BM h331
        refine Al' 113 #[(vi 0), (vi 0), (.slice none ([] : List Expr).length 0), (vi 0)] hs335 (fun b339 w340 hs341 => ?_)
        refine St0 (Aq r332.2 ar332_1_2 nr332_1_2) hs341 (fun w342 hs343 => ?_)
        refine Nss (Rg [0, 1] ?_)
        refine V 87 95 (mv 0 (pt bp0 0) h257) ?_
        have hs353 : HS wb Fb w342 F21 ((sb bp0 (Ah r332.1 ar332_0_0 nr332_0_0) 100) :: (sb b339 (Aq r332.2 ar332_1_2 nr332_1_2) 113) :: (sb b306 (Aq r299.2 ar299_1_2 nr299_1_2) 113) :: e251 :: (sb b35 (A9 x21) 97) :: (sb bp1 (AU x1 a1_0 n1_0 a1_1 n1_1 a1_2 n1_2 a1_3 n1_3) 26) :: e1_0 :: e1_1 :: e1_2 :: e1_3 :: Lf) := hs343.pm [1, 0, 2, 3, 4, 5, 6, 7, 8, 9]
        obtain ⟨r354, hr355, h356⟩ := bind_some h338
        refine CP CF (CR N bp0 r332.1 ar332_0_0 nr332_0_0 hbr332_0_0 hsr332_0_0 hs353 _ hr355) ?_ ?_
        ·rintro r357 _ F22 w359 _ rfl hs360 le361 ⟨rfl, rfl⟩
         have h363 := BM h356
         refine Nss ?_
         obtain ⟨j369, hj375, h376⟩ := bind_some h363
         refine RDP 7 7 [(sb bp0 (Ah r332.1 ar332_0_0 nr332_0_0) 100), (sb b339 (Aq r332.2 ar332_1_2 nr332_1_2) 113), (sb b306 (Aq r299.2 ar299_1_2 nr299_1_2) 113), e251, (sb b35 (A9 x21) 97), (sb bp1 (AU x1 a1_0 n1_0 a1_1 n1_1 a1_2 n1_2 a1_3 n1_3) 26), e1_0, e1_1, e1_2, e1_3] [] hs360 (fun c d w => d = [] /\ ∃ (b : Ak) (Fp : Mem), j369 = .inl b /\ c = [{ v := (.iface 158 (.agg (A3 b))), recovered := false }] /\ HS wb Fb w Fp Lf /\ Tn F22 Fp) (fun f w => ∃ (J377 : Unit), j369 = .inr J377 /\ ∃ (F23 : Mem), HS wb Fb w F23 ((sb bp0 (Ah r332.1 ar332_0_0 nr332_0_0) 100) :: (sb b339 (Aq r332.2 ar332_1_2 nr332_1_2) 113) :: (sb b306 (Aq r299.2 ar299_1_2 nr299_1_2) 113) :: (sb bp1 (AU x1 a1_0 n1_0 a1_1 n1_1 a1_2 n1_2 a1_3 n1_3) 26) :: e1_0 :: e1_1 :: e1_2 :: e1_3 :: Lf) /\ Tn F22 F23 /\ FI f [] [(0, (pt bp0 0)), (7, (pt bp1 0)), (9, (pt b306 0)), (10, (pt b339 0))]) (fun wd364 hw365 => ?_) ?_ ?_
         ·refine Dt 0 89 95 _ (fun _ hq => mv 0 (pt bp0 0) h257) ?_
          refine Dv [1, 2] ?_
          refine Dl 3 (fun _ hq => (hq.1.2 5 _ _ rfl)) ?_
          refine Dt 4 93 0 (pt b35 1) (fun _ hq => fa 97 4 1 1 1 b35 0 1 h258) ?_
          refine Dl 5 (fun _ hq => (hq.1.2 4 _ _ rfl)) ?_
          refine D1 6 ?_
          obtain ⟨r378, hr379, h380⟩ := bind_some hj375
          refine DCP CS (C6 N bp0 r332.1 ar332_0_0 nr332_0_0 hbr332_0_0 (Tq hsr332_0_0 le361) x1.Points a1_0 n1_0 x21.at_ hw365 _ hr379) ?_ ?_
          ·rintro r381 _ F24 w383 _ rfl hs384 le385 ⟨rfl, rfl⟩
           have h387 := BM h380
           refine ⟨Bg hs384 le385 (by simp) (zdT (by kernel_rfl)), ?_⟩
           obtain rfl := Ab h387
           exact TE (by kernel_rfl) ⟨_, rfl, F24, hs384.dr3.dr3, le385, (fJ ⟨h257, rfl, rfl, rfl, trivial⟩ (hd := h256))⟩
          ·rintro b388 F25 w389 rfl hs390 le391
           have h392 := Bo h380
           obtain rfl := Ab h392
           have hs394 := hs390.dr0.dr0.dr0.dr0.dr0
           exact ⟨h256, _, _, rfl, rfl, hs394.dr0.dr0.dr0.dr0, le391⟩
         ·rintro f w366 ⟨J377, rfl, F23, hs367, le368, ⟨_, rfl⟩⟩
          have h395 := BM h376
          refine Ad ?_
          refine Sq (Rg [0, 1, 2] ?_)
          refine Vs 1 ?_
          refine Ld hs367.at2 ?_
          obtain ⟨r396, hr397, h398⟩ := bind_some h395
          refine CP Bl (Bq N bp0 r332.1 ar332_0_0 nr332_0_0 hbr332_0_0 (Tq hsr332_0_0 (le361.trans le368)) r299.2 ar299_1_2 nr299_1_2 hbr299_1_2 (Tq hsr299_1_2 (((le326.trans le336).trans le361).trans le368)) 2 hs367 _ hr397) ?_ ?_
          ·rintro r399 _ F26 w401 _ rfl hs402 le403 ⟨rfl, rfl⟩
           have h405 := BM h398
           refine Nss (Rg [0, 1, 2] ?_)
           refine Vs 1 ?_
           refine Ld hs402.at1 ?_
           obtain ⟨r406, hr407, h408⟩ := bind_some h405
           refine CP Bl (Bq N bp0 r332.1 ar332_0_0 nr332_0_0 hbr332_0_0 (Tq hsr332_0_0 ((le361.trans le368).trans le403)) r332.2 ar332_1_2 nr332_1_2 hbr332_1_2 (Tq hsr332_1_2 ((le361.trans le368).trans le403)) 1 hs402 _ hr407) ?_ ?_
           ·rintro r409 _ F27 w411 _ rfl hs412 le413 ⟨rfl, rfl⟩
            have h415 := BM h408
            refine Nt ?_
            obtain ⟨j421, hj423, h424⟩ := bind_some h415
            refine RD 12 13 [(sb bp0 (Ah r332.1 ar332_0_0 nr332_0_0) 100), (sb b339 (Aq r332.2 ar332_1_2 nr332_1_2) 113), (sb b306 (Aq r299.2 ar299_1_2 nr299_1_2) 113), e1_1, e1_2, e1_3] [(sb bp1 (AU x1 a1_0 n1_0 a1_1 n1_1 a1_2 n1_2 a1_3 n1_3) 26)] hs412 (fun f w => ∃ (F28 : Mem) (aj421_0 : TO) (nj421_0 : Nat) (ej421_0 : Option Nat × Obj), HS wb Fb w F28 ((sb bp0 (Ah r332.1 ar332_0_0 nr332_0_0) 100) :: (sb bp1 #[(.slice aj421_0 j421.length nj421_0), (.slice a1_1 x1.Multipliers.length n1_1), (.slice a1_2 x1.Penalties.length n1_2), (.slice a1_3 x1.Repeats.length n1_3)] 26) :: ej421_0 :: e1_1 :: e1_2 :: e1_3 :: Lf) /\ Tn F27 F28 /\ FI f [] [] /\ Av Ay 56 F28 aj421_0 nj421_0 j421 ej421_0) (fun wd416 hw417 => ?_) ?_
            ·refine Dv [0, 1, 2] ?_
             refine Dl 3 (fun _ hq => ((hq.2 rfl).2 0 _ _ rfl)) ?_
             refine Dv [4] ?_
             refine Dl 5 (fun _ hq => (hq.1.2 2 _ _ rfl)) ?_
             refine Dv [6] ?_
             refine Dl 7 (fun _ hq => (hq.1.2 1 _ _ rfl)) ?_
             refine Dv [8] ?_
             refine D1 9 ?_
             refine DBs 56 [(vi r299.2.Expr.Op), (vi r299.2.Expr.Value), (.slice ar299_1_2 r299.2.Expr.Kids.length nr299_1_2), (vi r332.2.Expr.Op), (vi r332.2.Expr.Value), (.slice ar332_1_2 r332.2.Expr.Kids.length nr332_1_2)] hw417 (To _) (fun b425 w426 hs427 => ?_)
             have hr429 : Av Ay 56 F27 (some ⟨b425, 0, none⟩) 1 [({ When := r299.2.Expr, Then := r332.2.Expr } : Clause)] (some b425, .cells ([(vi r299.2.Expr.Op), (vi r299.2.Expr.Value), (.slice ar299_1_2 r299.2.Expr.Kids.length nr299_1_2), (vi r332.2.Expr.Op), (vi r332.2.Expr.Value), (.slice ar332_1_2 r332.2.Expr.Kids.length nr332_1_2)] : List Value).toArray 56 (0, 0)) := TH ⟨⟨ar299_1_2, nr299_1_2, ar332_1_2, nr332_1_2, rfl, hbr299_1_2, (Tq hsr299_1_2 (((((le326.trans le336).trans le361).trans le368).trans le403).trans le413)), hbr332_1_2, (Tq hsr332_1_2 (((le361.trans le368).trans le403).trans le413))⟩, rfl⟩ (by simp)
             refine D1 10 ?_
             obtain ⟨r430, hap431, h432⟩ := bind_some hj423
             refine Tg GR hs427 (hr1_0.mono (((((((((le46.trans le269).trans le293).trans le303).trans le326).trans le336).trans le361).trans le368).trans le403).trans le413)) (hs427.rd0 hr429) hap431 (To _) (fun a433 n434 e435 w436 hs437 hr438 => ?_)
             refine Dv [11] ?_
             refine D1 12 ?_
             refine SB #[(.slice a433 r430.length n434), (.slice a1_1 x1.Multipliers.length n1_1), (.slice a1_2 x1.Penalties.length n1_2), (.slice a1_3 x1.Repeats.length n1_3)] hs437 (To _) (fun w439 hs440 => ?_)
             obtain rfl := Ab h432
             exact TE (by kernel_rfl) ⟨F27, a433, n434, e435, hs440.dr0.dr1.dr1, (To _), fI, hr438⟩
            ·rintro f w418 ⟨F28, aj421_0, nj421_0, ej421_0, hs419, le420, ⟨_, rfl⟩, hrj421_0⟩
             obtain rfl := Ab h424
             exact ReP [] hs419 ((((((((((le46.trans le269).trans le293).trans le303).trans le326).trans le336).trans le361).trans le368).trans le403).trans le413).trans le420) ⟨ar332_0_0, nr332_0_0, aj421_0, nj421_0, ej421_0, a1_1, n1_1, e1_1, a1_2, n1_2, e1_2, a1_3, n1_3, e1_3, rfl, rfl, hbr332_0_0, (Tq hsr332_0_0 ((((le361.trans le368).trans le403).trans le413).trans le420)), hrj421_0, (hr1_1.mono ((((((((((le46.trans le269).trans le293).trans le303).trans le326).trans le336).trans le361).trans le368).trans le403).trans le413).trans le420)), (hr1_2.mono ((((((((((le46.trans le269).trans le293).trans le303).trans le326).trans le336).trans le361).trans le368).trans le403).trans le413).trans le420)), (hr1_3.mono ((((((((((le46.trans le269).trans le293).trans le303).trans le326).trans le336).trans le361).trans le368).trans le403).trans le413).trans le420))⟩
           ·rintro b441 F29 w442 rfl hs443 le444
            have h445 := Bo h408
            refine Ap ?_
            have hs447 := hs443.dr0.dr0.dr0.dr0.dr0
            obtain rfl := Ab h445
            exact CI hs447.dr0.dr0 (((((((((le46.trans le269).trans le293).trans le303).trans le326).trans le336).trans le361).trans le368).trans le403).trans le444)
          ·rintro b448 F30 w449 rfl hs450 le451
           have h452 := Bo h398
           refine Ap ?_
           have hs454 := hs450.dr0.dr0.dr0.dr0.dr0
           obtain rfl := Ab h452
           exact CI hs454.dr0.dr0 ((((((((le46.trans le269).trans le293).trans le303).trans le326).trans le336).trans le361).trans le368).trans le451)
         ·rintro c f w456 ⟨hd459, b455, F31, rfl, rfl, hs457, le458⟩
          have h460 := Bo h376
          refine Ap ?_
          obtain rfl := Ab h460
          exact ⟨hd459, .inr ⟨_, F31, rfl, rfl, hs457, (((((((le46.trans le269).trans le293).trans le303).trans le326).trans le336).trans le361).trans le458)⟩⟩
        ·rintro b461 F32 w462 rfl hs463 le464
         have h465 := Bo h356
         refine Ap ?_
         have hs467 := hs463.dr0.dr0.dr0.dr0.dr0
         obtain rfl := Ab h465
         exact ⟨h256, .inr ⟨_, F32, rfl, rfl, hs467.dr0.dr0.dr0.dr0, ((((((le46.trans le269).trans le293).trans le303).trans le326).trans le336).trans le464)⟩⟩
       ·rintro b468 F33 w469 rfl hs470 le471
        have h472 := Bo h331
        refine Ap ?_
        have hs474 := hs470.dr0.dr0.dr0.dr0.dr0
        obtain rfl := Ab h472
        exact ⟨h256, .inr ⟨_, F33, rfl, rfl, hs474.dr0.dr0.dr0, (((((le46.trans le269).trans le293).trans le303).trans le326).trans le471)⟩⟩
      ·rintro b475 F34 w476 rfl hs477 le478
       have h479 := Bo h321
       refine Ap ?_
       have hs481 := hs477.dr0.dr0.dr0.dr0.dr0
       obtain rfl := Ab h479
       exact ⟨h256, .inr ⟨_, F34, rfl, rfl, hs481.dr0.dr0.dr0, ((((le46.trans le269).trans le293).trans le303).trans le478)⟩⟩
     ·rintro b482 F35 w483 rfl hs484 le485
      have h486 := Bo h298
      refine Ap ?_
      have hs488 := hs484.dr0.dr0.dr0.dr0.dr0
      obtain rfl := Ab h486
      exact ⟨h256, .inr ⟨_, F35, rfl, rfl, hs488.dr0.dr0, (((le46.trans le269).trans le293).trans le485)⟩⟩
    ·rintro b489 F36 w490 rfl hs491 le492
     have h493 := Bo h288
     refine Ap ?_
     have hs495 := hs491.dr0.dr0.dr0.dr0.dr0
     obtain rfl := Ab h493
     exact ⟨h256, .inr ⟨_, F36, rfl, rfl, hs495.dr0.dr0, ((le46.trans le269).trans le492)⟩⟩
  ·refine Sp h262 (fun hb496 h497 => ?_) (fun hb496 h498 => ?_)
   ·refine V 63 168 (Hg (mt := 167) (k := 9) (vt := 166) (m := (.tmp 60)) (x := (.tmp 62)) rfl rfl (by kernel_rfl) (by kernel_rfl) (hs259.ownAt' (k := 0) rfl) hp254 (PR hb260 hb496)) ?_
    refine Vs 5 ?_
    refine Nss ?_
    refine Sq (Rg [0, 1, 2, 3, 4, 5, 6, 7, 8] ?_)
    refine Vs 3 ?_
    refine Vg 69 95 2 false 68 rfl (mv 0 (pt bp0 0) h257) ?_
    refine Vg 70 0 2 false 68 rfl (fa 97 4 2 2 1 b35 0 2 h258) ?_
    refine Vg 71 9 2 false 68 rfl (ld 9 70 b35 2 false 1 (.string ⟨(x21.text_).toArray⟩) hs259.at2) ?_
    have hs499 := hs259.pk7.pk7.pk7.pk7.pk7
    obtain ⟨r500, hr501, h502⟩ := bind_some h497
    refine TK (dst := (some 72)) (ty := 4) (g := (some (2, false))) (by kernel_rfl) (FG (d := 68) (by kernel_rfl) rfl rfl) (f0 := (.func 80)) (aos := #[(.tmp 69), (.tmp 71)]) (ats := #[95, 9]) (fid := 80) (first := #[]) (cap := #[]) (args := [(pt bp0 0), (.string ⟨(x21.text_).toArray⟩)]) rfl AP rfl (AV N bp0 r41.1 ar41_0_0 nr41_0_0 hbr41_0_0 hsr41_0_0 x21.text_ hs499.pk7.pk6.pk7 _ hr501) ?_
    rintro _ F37 w503 _ hs504 le505 ⟨ar500_0_0, nr500_0_0, rfl, rfl, hbr500_0_0, hsr500_0_0⟩
    refine Vg 73 4 2 false 68 rfl (Ia (t := 4) (x := (.tmp 72)) (a := r500.2) rfl) ?_
    refine Pk0 (rfl : false = false) ?_
    refine Nt ?_
    refine Cd h502 (fun hb507 h508 => ?_) (fun hb507 h509 => ?_)
    ·refine Rg [0, 1, 2, 3] ?_
     refine V 75 95 (mv 0 (pt bp0 0) h257) ?_
     refine V 76 0 (fa 97 4 1 1 1 b35 0 1 h258) ?_
     refine Ld hs504.at2 ?_
     obtain ⟨r510, hr511, h512⟩ := bind_some h508
     refine CP AR (AZ N bp0 r500.1 ar500_0_0 nr500_0_0 hbr500_0_0 hsr500_0_0 60 x21.at_ hs504 _ hr511) ?_ ?_
     ·rintro _ _ _ _ _ rfl _ _ _; cases hr511
     ·rintro b515 F39 w516 rfl hs517 le518
      have h519 := Bo h512
      refine Ap ?_
      have hs521 := hs517.dr0.dr0.dr0.dr0.dr0
      obtain rfl := Ab h519
      exact ⟨h256, .inr ⟨_, F39, rfl, rfl, hs521.dr0.dr0, ((le46.trans le505).trans le518)⟩⟩
    ·refine Sc ?_
     refine Ad ?_
     refine Sq (Rg [0, 1] ?_)
     refine V 79 95 (mv 0 (pt bp0 0) h257) ?_
     obtain ⟨r522, hr523, h524⟩ := bind_some h509
     refine CP A4 (A7 N bp0 r500.1 ar500_0_0 nr500_0_0 hbr500_0_0 hsr500_0_0 (([58] : TN)) hs504 _ hr523) ?_ ?_
     ·rintro r525 _ F40 w527 _ rfl hs528 le529 ⟨ar525_0_0, nr525_0_0, rfl, rfl, hbr525_0_0, hsr525_0_0⟩
      have h531 := BM h524
      refine Nss (Rg [0, 1, 2, 3] ?_)
      refine V 81 95 (mv 0 (pt bp0 0) h257) ?_
      obtain ⟨r532, hr533, h534⟩ := bind_some h531
      refine CP Bj (Bm N (hG.mono ((le46.trans le505).trans le529)) bp0 r525 ar525_0_0 nr525_0_0 hbr525_0_0 hsr525_0_0 hs528 _ hr533) ?_ ?_
      ·rintro r535 _ F41 w537 _ rfl hs538 le539 ⟨ar535_0_0, nr535_0_0, ar535_1_2, nr535_1_2, rfl, rfl, hbr535_0_0, hsr535_0_0, hbr535_1_2, hsr535_1_2⟩
       have h541 := BM h534
       refine Al' 113 #[(vi 0), (vi 0), (.slice none ([] : List Expr).length 0), (vi 0)] hs538 (fun b542 w543 hs544 => ?_)
       refine St0 (Aq r535.2 ar535_1_2 nr535_1_2) hs544 (fun w545 hs546 => ?_)
       refine Nss (Rg [0, 1] ?_)
       refine V 83 95 (mv 0 (pt bp0 0) h257) ?_
       have hs553 : HS wb Fb w545 F41 (e251 :: (sb b35 (A9 x21) 97) :: (sb bp1 (AU x1 a1_0 n1_0 a1_1 n1_1 a1_2 n1_2 a1_3 n1_3) 26) :: e1_0 :: e1_1 :: e1_2 :: e1_3 :: (sb b542 (Aq r535.2 ar535_1_2 nr535_1_2) 113) :: (sb bp0 (Ah r535.1 ar535_0_0 nr535_0_0) 100) :: Lf) := hs546.pm [2, 3, 4, 5, 6, 7, 8, 0, 1]
       have hs554 : HS wb Fb w545 F41 ((sb bp0 (Ah r535.1 ar535_0_0 nr535_0_0) 100) :: (sb b542 (Aq r535.2 ar535_1_2 nr535_1_2) 113) :: e251 :: (sb b35 (A9 x21) 97) :: (sb bp1 (AU x1 a1_0 n1_0 a1_1 n1_1 a1_2 n1_2 a1_3 n1_3) 26) :: e1_0 :: e1_1 :: e1_2 :: e1_3 :: Lf) := hs553.pk7.pick (k := 8) rfl
       obtain ⟨r555, hr556, h557⟩ := bind_some h541
       refine CP A4 (A7 N bp0 r535.1 ar535_0_0 nr535_0_0 hbr535_0_0 hsr535_0_0 (([61, 62] : TN)) hs554 _ hr556) ?_ ?_
       ·rintro r558 _ F42 w560 _ rfl hs561 le562 ⟨ar558_0_0, nr558_0_0, rfl, rfl, hbr558_0_0, hsr558_0_0⟩
        have h564 := BM h557
        refine Nss (Rg [0, 1, 2, 3] ?_)
        refine V 85 95 (mv 0 (pt bp0 0) h257) ?_
        obtain ⟨r565, hr566, h567⟩ := bind_some h564
        refine CP Bj (Bm N (hG.mono ((((le46.trans le505).trans le529).trans le539).trans le562)) bp0 r558 ar558_0_0 nr558_0_0 hbr558_0_0 hsr558_0_0 hs561 _ hr566) ?_ ?_
        ·rintro r568 _ F43 w570 _ rfl hs571 le572 ⟨ar568_0_0, nr568_0_0, ar568_1_2, nr568_1_2, rfl, rfl, hbr568_0_0, hsr568_0_0, hbr568_1_2, hsr568_1_2⟩
         have h574 := BM h567
         refine Al' 113 #[(vi 0), (vi 0), (.slice none ([] : List Expr).length 0), (vi 0)] hs571 (fun b575 w576 hs577 => ?_)
         refine St0 (Aq r568.2 ar568_1_2 nr568_1_2) hs577 (fun w578 hs579 => ?_)
         refine Nss (Rg [0, 1] ?_)
         refine V 87 95 (mv 0 (pt bp0 0) h257) ?_
         have hs589 : HS wb Fb w578 F43 ((sb bp0 (Ah r568.1 ar568_0_0 nr568_0_0) 100) :: (sb b575 (Aq r568.2 ar568_1_2 nr568_1_2) 113) :: (sb b542 (Aq r535.2 ar535_1_2 nr535_1_2) 113) :: e251 :: (sb b35 (A9 x21) 97) :: (sb bp1 (AU x1 a1_0 n1_0 a1_1 n1_1 a1_2 n1_2 a1_3 n1_3) 26) :: e1_0 :: e1_1 :: e1_2 :: e1_3 :: Lf) := hs579.pm [1, 0, 2, 3, 4, 5, 6, 7, 8, 9]
         obtain ⟨r590, hr591, h592⟩ := bind_some h574
         refine CP CF (CR N bp0 r568.1 ar568_0_0 nr568_0_0 hbr568_0_0 hsr568_0_0 hs589 _ hr591) ?_ ?_
         ·rintro r593 _ F44 w595 _ rfl hs596 le597 ⟨rfl, rfl⟩
          have h599 := BM h592
          refine Nss ?_
          obtain ⟨j605, hj611, h612⟩ := bind_some h599
          refine RDP 7 7 [(sb bp0 (Ah r568.1 ar568_0_0 nr568_0_0) 100), (sb b575 (Aq r568.2 ar568_1_2 nr568_1_2) 113), (sb b542 (Aq r535.2 ar535_1_2 nr535_1_2) 113), e251, (sb b35 (A9 x21) 97), (sb bp1 (AU x1 a1_0 n1_0 a1_1 n1_1 a1_2 n1_2 a1_3 n1_3) 26), e1_0, e1_1, e1_2, e1_3] [] hs596 (fun c d w => d = [] /\ ∃ (b : Ak) (Fp : Mem), j605 = .inl b /\ c = [{ v := (.iface 158 (.agg (A3 b))), recovered := false }] /\ HS wb Fb w Fp Lf /\ Tn F44 Fp) (fun f w => ∃ (J613 : Unit), j605 = .inr J613 /\ ∃ (F45 : Mem), HS wb Fb w F45 ((sb bp0 (Ah r568.1 ar568_0_0 nr568_0_0) 100) :: (sb b575 (Aq r568.2 ar568_1_2 nr568_1_2) 113) :: (sb b542 (Aq r535.2 ar535_1_2 nr535_1_2) 113) :: (sb bp1 (AU x1 a1_0 n1_0 a1_1 n1_1 a1_2 n1_2 a1_3 n1_3) 26) :: e1_0 :: e1_1 :: e1_2 :: e1_3 :: Lf) /\ Tn F44 F45 /\ FI f [] [(0, (pt bp0 0)), (7, (pt bp1 1)), (9, (pt b542 0)), (10, (pt b575 0))]) (fun wd600 hw601 => ?_) ?_ ?_
          ·refine Dt 0 89 95 _ (fun _ hq => mv 0 (pt bp0 0) h257) ?_
           refine Dv [1, 2] ?_
           refine Dl 3 (fun _ hq => (hq.1.2 5 _ _ rfl)) ?_
           refine Dt 4 93 0 (pt b35 1) (fun _ hq => fa 97 4 1 1 1 b35 0 1 h258) ?_
           refine Dl 5 (fun _ hq => (hq.1.2 4 _ _ rfl)) ?_
           refine D1 6 ?_
           obtain ⟨r614, hr615, h616⟩ := bind_some hj611
           refine DCP CS (C6 N bp0 r568.1 ar568_0_0 nr568_0_0 hbr568_0_0 (Tq hsr568_0_0 le597) x1.Multipliers a1_1 n1_1 x21.at_ hw601 _ hr615) ?_ ?_
           ·rintro r617 _ F46 w619 _ rfl hs620 le621 ⟨rfl, rfl⟩
            have h623 := BM h616
            refine ⟨Bg hs620 le621 (by simp) (zdT (by kernel_rfl)), ?_⟩
            obtain rfl := Ab h623
            exact TE (by kernel_rfl) ⟨_, rfl, F46, hs620.dr3.dr3, le621, (fJ ⟨h257, rfl, rfl, rfl, trivial⟩ (hd := h256))⟩
           ·rintro b624 F47 w625 rfl hs626 le627
            have h628 := Bo h616
            obtain rfl := Ab h628
            have hs630 := hs626.dr0.dr0.dr0.dr0.dr0
            exact ⟨h256, _, _, rfl, rfl, hs630.dr0.dr0.dr0.dr0, le627⟩
          ·rintro f w602 ⟨J613, rfl, F45, hs603, le604, ⟨_, rfl⟩⟩
           have h631 := BM h612
           refine Ad ?_
           refine Sq (Rg [0, 1, 2] ?_)
           refine Vs 1 ?_
           refine Ld hs603.at2 ?_
           obtain ⟨r632, hr633, h634⟩ := bind_some h631
           refine CP Bl (Bq N bp0 r568.1 ar568_0_0 nr568_0_0 hbr568_0_0 (Tq hsr568_0_0 (le597.trans le604)) r535.2 ar535_1_2 nr535_1_2 hbr535_1_2 (Tq hsr535_1_2 (((le562.trans le572).trans le597).trans le604)) 2 hs603 _ hr633) ?_ ?_
           ·rintro r635 _ F48 w637 _ rfl hs638 le639 ⟨rfl, rfl⟩
            have h641 := BM h634
            refine Nss (Rg [0, 1, 2] ?_)
            refine Vs 1 ?_
            refine Ld hs638.at1 ?_
            obtain ⟨r642, hr643, h644⟩ := bind_some h641
            refine CP Bl (Bq N bp0 r568.1 ar568_0_0 nr568_0_0 hbr568_0_0 (Tq hsr568_0_0 ((le597.trans le604).trans le639)) r568.2 ar568_1_2 nr568_1_2 hbr568_1_2 (Tq hsr568_1_2 ((le597.trans le604).trans le639)) 1 hs638 _ hr643) ?_ ?_
            ·rintro r645 _ F49 w647 _ rfl hs648 le649 ⟨rfl, rfl⟩
             have h651 := BM h644
             refine Nt ?_
             obtain ⟨j657, hj659, h660⟩ := bind_some h651
             refine RD 12 13 [(sb bp0 (Ah r568.1 ar568_0_0 nr568_0_0) 100), (sb b575 (Aq r568.2 ar568_1_2 nr568_1_2) 113), (sb b542 (Aq r535.2 ar535_1_2 nr535_1_2) 113), e1_0, e1_2, e1_3] [(sb bp1 (AU x1 a1_0 n1_0 a1_1 n1_1 a1_2 n1_2 a1_3 n1_3) 26)] hs648 (fun f w => ∃ (F50 : Mem) (aj657_0 : TO) (nj657_0 : Nat) (ej657_0 : Option Nat × Obj), HS wb Fb w F50 ((sb bp0 (Ah r568.1 ar568_0_0 nr568_0_0) 100) :: (sb bp1 #[(.slice a1_0 x1.Points.length n1_0), (.slice aj657_0 j657.length nj657_0), (.slice a1_2 x1.Penalties.length n1_2), (.slice a1_3 x1.Repeats.length n1_3)] 26) :: e1_0 :: ej657_0 :: e1_2 :: e1_3 :: Lf) /\ Tn F49 F50 /\ FI f [] [] /\ Av Ay 56 F50 aj657_0 nj657_0 j657 ej657_0) (fun wd652 hw653 => ?_) ?_
             ·refine Dv [0, 1, 2] ?_
              refine Dl 3 (fun _ hq => ((hq.2 rfl).2 0 _ _ rfl)) ?_
              refine Dv [4] ?_
              refine Dl 5 (fun _ hq => (hq.1.2 2 _ _ rfl)) ?_
              refine Dv [6] ?_
              refine Dl 7 (fun _ hq => (hq.1.2 1 _ _ rfl)) ?_
              refine Dv [8] ?_
              refine D1 9 ?_
              refine DBs 56 [(vi r535.2.Expr.Op), (vi r535.2.Expr.Value), (.slice ar535_1_2 r535.2.Expr.Kids.length nr535_1_2), (vi r568.2.Expr.Op), (vi r568.2.Expr.Value), (.slice ar568_1_2 r568.2.Expr.Kids.length nr568_1_2)] hw653 (To _) (fun b661 w662 hs663 => ?_)
              have hr665 : Av Ay 56 F49 (some ⟨b661, 0, none⟩) 1 [({ When := r535.2.Expr, Then := r568.2.Expr } : Clause)] (some b661, .cells ([(vi r535.2.Expr.Op), (vi r535.2.Expr.Value), (.slice ar535_1_2 r535.2.Expr.Kids.length nr535_1_2), (vi r568.2.Expr.Op), (vi r568.2.Expr.Value), (.slice ar568_1_2 r568.2.Expr.Kids.length nr568_1_2)] : List Value).toArray 56 (0, 0)) := TH ⟨⟨ar535_1_2, nr535_1_2, ar568_1_2, nr568_1_2, rfl, hbr535_1_2, (Tq hsr535_1_2 (((((le562.trans le572).trans le597).trans le604).trans le639).trans le649)), hbr568_1_2, (Tq hsr568_1_2 (((le597.trans le604).trans le639).trans le649))⟩, rfl⟩ (by simp)
              refine D1 10 ?_
              obtain ⟨r666, hap667, h668⟩ := bind_some hj659
              refine Tf GR hs663 (hr1_1.mono (((((((((le46.trans le505).trans le529).trans le539).trans le562).trans le572).trans le597).trans le604).trans le639).trans le649)) (hs663.rd0 hr665) hap667 (To _) (fun a669 n670 e671 w672 hs673 hr674 => ?_)
              refine Dv [11] ?_
              refine D1 12 ?_
              refine SB #[(.slice a1_0 x1.Points.length n1_0), (.slice a669 r666.length n670), (.slice a1_2 x1.Penalties.length n1_2), (.slice a1_3 x1.Repeats.length n1_3)] hs673 (To _) (fun w675 hs676 => ?_)
              obtain rfl := Ab h668
              exact TE (by kernel_rfl) ⟨F49, a669, n670, e671, hs676.dr0.dr1.dr1, (To _), fI, hr674⟩
             ·rintro f w654 ⟨F50, aj657_0, nj657_0, ej657_0, hs655, le656, ⟨_, rfl⟩, hrj657_0⟩
              obtain rfl := Ab h660
              exact ReP [] hs655 ((((((((((le46.trans le505).trans le529).trans le539).trans le562).trans le572).trans le597).trans le604).trans le639).trans le649).trans le656) ⟨ar568_0_0, nr568_0_0, a1_0, n1_0, e1_0, aj657_0, nj657_0, ej657_0, a1_2, n1_2, e1_2, a1_3, n1_3, e1_3, rfl, rfl, hbr568_0_0, (Tq hsr568_0_0 ((((le597.trans le604).trans le639).trans le649).trans le656)), (hr1_0.mono ((((((((((le46.trans le505).trans le529).trans le539).trans le562).trans le572).trans le597).trans le604).trans le639).trans le649).trans le656)), hrj657_0, (hr1_2.mono ((((((((((le46.trans le505).trans le529).trans le539).trans le562).trans le572).trans le597).trans le604).trans le639).trans le649).trans le656)), (hr1_3.mono ((((((((((le46.trans le505).trans le529).trans le539).trans le562).trans le572).trans le597).trans le604).trans le639).trans le649).trans le656))⟩
            ·rintro b677 F51 w678 rfl hs679 le680
             have h681 := Bo h644
             refine Ap ?_
             have hs683 := hs679.dr0.dr0.dr0.dr0.dr0
             obtain rfl := Ab h681
             exact CI hs683.dr0.dr0 (((((((((le46.trans le505).trans le529).trans le539).trans le562).trans le572).trans le597).trans le604).trans le639).trans le680)
           ·rintro b684 F52 w685 rfl hs686 le687
            have h688 := Bo h634
            refine Ap ?_
            have hs690 := hs686.dr0.dr0.dr0.dr0.dr0
            obtain rfl := Ab h688
            exact CI hs690.dr0.dr0 ((((((((le46.trans le505).trans le529).trans le539).trans le562).trans le572).trans le597).trans le604).trans le687)
          ·rintro c f w692 ⟨hd695, b691, F53, rfl, rfl, hs693, le694⟩
           have h696 := Bo h612
           refine Ap ?_
           obtain rfl := Ab h696
           exact ⟨hd695, .inr ⟨_, F53, rfl, rfl, hs693, (((((((le46.trans le505).trans le529).trans le539).trans le562).trans le572).trans le597).trans le694)⟩⟩
         ·rintro b697 F54 w698 rfl hs699 le700
          have h701 := Bo h592
          refine Ap ?_
          have hs703 := hs699.dr0.dr0.dr0.dr0.dr0
          obtain rfl := Ab h701
          exact ⟨h256, .inr ⟨_, F54, rfl, rfl, hs703.dr0.dr0.dr0.dr0, ((((((le46.trans le505).trans le529).trans le539).trans le562).trans le572).trans le700)⟩⟩
        ·rintro b704 F55 w705 rfl hs706 le707
         have h708 := Bo h567
         refine Ap ?_
         have hs710 := hs706.dr0.dr0.dr0.dr0.dr0
         obtain rfl := Ab h708
         exact ⟨h256, .inr ⟨_, F55, rfl, rfl, hs710.dr0.dr0.dr0, (((((le46.trans le505).trans le529).trans le539).trans le562).trans le707)⟩⟩
       ·rintro b711 F56 w712 rfl hs713 le714
        have h715 := Bo h557
        refine Ap ?_
        have hs717 := hs713.dr0.dr0.dr0.dr0.dr0
        obtain rfl := Ab h715
        exact ⟨h256, .inr ⟨_, F56, rfl, rfl, hs717.dr0.dr0.dr0, ((((le46.trans le505).trans le529).trans le539).trans le714)⟩⟩
      ·rintro b718 F57 w719 rfl hs720 le721
       have h722 := Bo h534
       refine Ap ?_
       have hs724 := hs720.dr0.dr0.dr0.dr0.dr0
       obtain rfl := Ab h722
       exact ⟨h256, .inr ⟨_, F57, rfl, rfl, hs724.dr0.dr0, (((le46.trans le505).trans le529).trans le721)⟩⟩
     ·rintro b725 F58 w726 rfl hs727 le728
      have h729 := Bo h524
      refine Ap ?_
      have hs731 := hs727.dr0.dr0.dr0.dr0.dr0
      obtain rfl := Ab h729
      exact ⟨h256, .inr ⟨_, F58, rfl, rfl, hs731.dr0.dr0, ((le46.trans le505).trans le728)⟩⟩
   ·refine Sp h498 (fun hb732 h733 => ?_) (fun hb732 h734 => ?_)
    ·refine V 63 168 (Hg (mt := 167) (k := 9) (vt := 166) (m := (.tmp 60)) (x := (.tmp 62)) rfl rfl (by kernel_rfl) (by kernel_rfl) (hs259.ownAt' (k := 0) rfl) hp254 (PP hb260 hb496 hb732)) ?_
     refine Vs 5 ?_
     refine Nss ?_
     refine Sq (Rg [0, 1, 2, 3, 4, 5, 6, 7, 8] ?_)
     refine Vs 3 ?_
     refine Vg 69 95 2 false 68 rfl (mv 0 (pt bp0 0) h257) ?_
     refine Vg 70 0 2 false 68 rfl (fa 97 4 2 2 1 b35 0 2 h258) ?_
     refine Vg 71 9 2 false 68 rfl (ld 9 70 b35 2 false 1 (.string ⟨(x21.text_).toArray⟩) hs259.at2) ?_
     have hs735 := hs259.pk7.pk7.pk7.pk7.pk7
     obtain ⟨r736, hr737, h738⟩ := bind_some h733
     refine TK (dst := (some 72)) (ty := 4) (g := (some (2, false))) (by kernel_rfl) (FG (d := 68) (by kernel_rfl) rfl rfl) (f0 := (.func 80)) (aos := #[(.tmp 69), (.tmp 71)]) (ats := #[95, 9]) (fid := 80) (first := #[]) (cap := #[]) (args := [(pt bp0 0), (.string ⟨(x21.text_).toArray⟩)]) rfl AP rfl (AV N bp0 r41.1 ar41_0_0 nr41_0_0 hbr41_0_0 hsr41_0_0 x21.text_ hs735.pk7.pk6.pk7 _ hr737) ?_
     rintro _ F59 w739 _ hs740 le741 ⟨ar736_0_0, nr736_0_0, rfl, rfl, hbr736_0_0, hsr736_0_0⟩
     refine Vg 73 4 2 false 68 rfl (Ia (t := 4) (x := (.tmp 72)) (a := r736.2) rfl) ?_
     refine Pk0 (rfl : false = false) ?_
     refine Nt ?_
     refine Cd h738 (fun hb743 h744 => ?_) (fun hb743 h745 => ?_)
     ·refine Rg [0, 1, 2, 3] ?_
      refine V 75 95 (mv 0 (pt bp0 0) h257) ?_
      refine V 76 0 (fa 97 4 1 1 1 b35 0 1 h258) ?_
      refine Ld hs740.at2 ?_
      obtain ⟨r746, hr747, h748⟩ := bind_some h744
      refine CP AR (AZ N bp0 r736.1 ar736_0_0 nr736_0_0 hbr736_0_0 hsr736_0_0 60 x21.at_ hs740 _ hr747) ?_ ?_
      ·rintro _ _ _ _ _ rfl _ _ _; cases hr747
      ·rintro b751 F61 w752 rfl hs753 le754
       have h755 := Bo h748
       refine Ap ?_
       have hs757 := hs753.dr0.dr0.dr0.dr0.dr0
       obtain rfl := Ab h755
       exact ⟨h256, .inr ⟨_, F61, rfl, rfl, hs757.dr0.dr0, ((le46.trans le741).trans le754)⟩⟩
     ·refine Sc ?_
      refine Ad ?_
      refine Sq (Rg [0, 1] ?_)
      refine V 79 95 (mv 0 (pt bp0 0) h257) ?_
      obtain ⟨r758, hr759, h760⟩ := bind_some h745
      refine CP A4 (A7 N bp0 r736.1 ar736_0_0 nr736_0_0 hbr736_0_0 hsr736_0_0 (([58] : TN)) hs740 _ hr759) ?_ ?_
      ·rintro r761 _ F62 w763 _ rfl hs764 le765 ⟨ar761_0_0, nr761_0_0, rfl, rfl, hbr761_0_0, hsr761_0_0⟩
       have h767 := BM h760
       refine Nss (Rg [0, 1, 2, 3] ?_)
       refine V 81 95 (mv 0 (pt bp0 0) h257) ?_
       obtain ⟨r768, hr769, h770⟩ := bind_some h767
       refine CP Bj (Bm N (hG.mono ((le46.trans le741).trans le765)) bp0 r761 ar761_0_0 nr761_0_0 hbr761_0_0 hsr761_0_0 hs764 _ hr769) ?_ ?_
       ·rintro r771 _ F63 w773 _ rfl hs774 le775 ⟨ar771_0_0, nr771_0_0, ar771_1_2, nr771_1_2, rfl, rfl, hbr771_0_0, hsr771_0_0, hbr771_1_2, hsr771_1_2⟩
        have h777 := BM h770
        refine Al' 113 #[(vi 0), (vi 0), (.slice none ([] : List Expr).length 0), (vi 0)] hs774 (fun b778 w779 hs780 => ?_)
        refine St0 (Aq r771.2 ar771_1_2 nr771_1_2) hs780 (fun w781 hs782 => ?_)
        refine Nss (Rg [0, 1] ?_)
        refine V 83 95 (mv 0 (pt bp0 0) h257) ?_
        have hs789 : HS wb Fb w781 F63 (e251 :: (sb b35 (A9 x21) 97) :: (sb bp1 (AU x1 a1_0 n1_0 a1_1 n1_1 a1_2 n1_2 a1_3 n1_3) 26) :: e1_0 :: e1_1 :: e1_2 :: e1_3 :: (sb b778 (Aq r771.2 ar771_1_2 nr771_1_2) 113) :: (sb bp0 (Ah r771.1 ar771_0_0 nr771_0_0) 100) :: Lf) := hs782.pm [2, 3, 4, 5, 6, 7, 8, 0, 1]
        have hs790 : HS wb Fb w781 F63 ((sb bp0 (Ah r771.1 ar771_0_0 nr771_0_0) 100) :: (sb b778 (Aq r771.2 ar771_1_2 nr771_1_2) 113) :: e251 :: (sb b35 (A9 x21) 97) :: (sb bp1 (AU x1 a1_0 n1_0 a1_1 n1_1 a1_2 n1_2 a1_3 n1_3) 26) :: e1_0 :: e1_1 :: e1_2 :: e1_3 :: Lf) := hs789.pk7.pick (k := 8) rfl
        obtain ⟨r791, hr792, h793⟩ := bind_some h777
        refine CP A4 (A7 N bp0 r771.1 ar771_0_0 nr771_0_0 hbr771_0_0 hsr771_0_0 (([61, 62] : TN)) hs790 _ hr792) ?_ ?_
        ·rintro r794 _ F64 w796 _ rfl hs797 le798 ⟨ar794_0_0, nr794_0_0, rfl, rfl, hbr794_0_0, hsr794_0_0⟩
         have h800 := BM h793
         refine Nss (Rg [0, 1, 2, 3] ?_)
         refine V 85 95 (mv 0 (pt bp0 0) h257) ?_
         obtain ⟨r801, hr802, h803⟩ := bind_some h800
         refine CP Bj (Bm N (hG.mono ((((le46.trans le741).trans le765).trans le775).trans le798)) bp0 r794 ar794_0_0 nr794_0_0 hbr794_0_0 hsr794_0_0 hs797 _ hr802) ?_ ?_
         ·rintro r804 _ F65 w806 _ rfl hs807 le808 ⟨ar804_0_0, nr804_0_0, ar804_1_2, nr804_1_2, rfl, rfl, hbr804_0_0, hsr804_0_0, hbr804_1_2, hsr804_1_2⟩
          have h810 := BM h803
          refine Al' 113 #[(vi 0), (vi 0), (.slice none ([] : List Expr).length 0), (vi 0)] hs807 (fun b811 w812 hs813 => ?_)
          refine St0 (Aq r804.2 ar804_1_2 nr804_1_2) hs813 (fun w814 hs815 => ?_)
          refine Nss (Rg [0, 1] ?_)
          refine V 87 95 (mv 0 (pt bp0 0) h257) ?_
          have hs825 : HS wb Fb w814 F65 ((sb bp0 (Ah r804.1 ar804_0_0 nr804_0_0) 100) :: (sb b811 (Aq r804.2 ar804_1_2 nr804_1_2) 113) :: (sb b778 (Aq r771.2 ar771_1_2 nr771_1_2) 113) :: e251 :: (sb b35 (A9 x21) 97) :: (sb bp1 (AU x1 a1_0 n1_0 a1_1 n1_1 a1_2 n1_2 a1_3 n1_3) 26) :: e1_0 :: e1_1 :: e1_2 :: e1_3 :: Lf) := hs815.pm [1, 0, 2, 3, 4, 5, 6, 7, 8, 9]
          obtain ⟨r826, hr827, h828⟩ := bind_some h810
          refine CP CF (CR N bp0 r804.1 ar804_0_0 nr804_0_0 hbr804_0_0 hsr804_0_0 hs825 _ hr827) ?_ ?_
          ·rintro r829 _ F66 w831 _ rfl hs832 le833 ⟨rfl, rfl⟩
           have h835 := BM h828
           refine Nss ?_
           obtain ⟨j841, hj847, h848⟩ := bind_some h835
           refine RDP 7 7 [(sb bp0 (Ah r804.1 ar804_0_0 nr804_0_0) 100), (sb b811 (Aq r804.2 ar804_1_2 nr804_1_2) 113), (sb b778 (Aq r771.2 ar771_1_2 nr771_1_2) 113), e251, (sb b35 (A9 x21) 97), (sb bp1 (AU x1 a1_0 n1_0 a1_1 n1_1 a1_2 n1_2 a1_3 n1_3) 26), e1_0, e1_1, e1_2, e1_3] [] hs832 (fun c d w => d = [] /\ ∃ (b : Ak) (Fp : Mem), j841 = .inl b /\ c = [{ v := (.iface 158 (.agg (A3 b))), recovered := false }] /\ HS wb Fb w Fp Lf /\ Tn F66 Fp) (fun f w => ∃ (J849 : Unit), j841 = .inr J849 /\ ∃ (F67 : Mem), HS wb Fb w F67 ((sb bp0 (Ah r804.1 ar804_0_0 nr804_0_0) 100) :: (sb b811 (Aq r804.2 ar804_1_2 nr804_1_2) 113) :: (sb b778 (Aq r771.2 ar771_1_2 nr771_1_2) 113) :: (sb bp1 (AU x1 a1_0 n1_0 a1_1 n1_1 a1_2 n1_2 a1_3 n1_3) 26) :: e1_0 :: e1_1 :: e1_2 :: e1_3 :: Lf) /\ Tn F66 F67 /\ FI f [] [(0, (pt bp0 0)), (7, (pt bp1 2)), (9, (pt b778 0)), (10, (pt b811 0))]) (fun wd836 hw837 => ?_) ?_ ?_
           ·refine Dt 0 89 95 _ (fun _ hq => mv 0 (pt bp0 0) h257) ?_
            refine Dv [1, 2] ?_
            refine Dl 3 (fun _ hq => (hq.1.2 5 _ _ rfl)) ?_
            refine Dt 4 93 0 (pt b35 1) (fun _ hq => fa 97 4 1 1 1 b35 0 1 h258) ?_
            refine Dl 5 (fun _ hq => (hq.1.2 4 _ _ rfl)) ?_
            refine D1 6 ?_
            obtain ⟨r850, hr851, h852⟩ := bind_some hj847
            refine DCP CS (C6 N bp0 r804.1 ar804_0_0 nr804_0_0 hbr804_0_0 (Tq hsr804_0_0 le833) x1.Penalties a1_2 n1_2 x21.at_ hw837 _ hr851) ?_ ?_
            ·rintro r853 _ F68 w855 _ rfl hs856 le857 ⟨rfl, rfl⟩
             have h859 := BM h852
             refine ⟨Bg hs856 le857 (by simp) (zdT (by kernel_rfl)), ?_⟩
             obtain rfl := Ab h859
             exact TE (by kernel_rfl) ⟨_, rfl, F68, hs856.dr3.dr3, le857, (fJ ⟨h257, rfl, rfl, rfl, trivial⟩ (hd := h256))⟩
            ·rintro b860 F69 w861 rfl hs862 le863
             have h864 := Bo h852
             obtain rfl := Ab h864
             have hs866 := hs862.dr0.dr0.dr0.dr0.dr0
             exact ⟨h256, _, _, rfl, rfl, hs866.dr0.dr0.dr0.dr0, le863⟩
           ·rintro f w838 ⟨J849, rfl, F67, hs839, le840, ⟨_, rfl⟩⟩
            have h867 := BM h848
            refine Ad ?_
            refine Sq (Rg [0, 1, 2] ?_)
            refine Vs 1 ?_
            refine Ld hs839.at2 ?_
            obtain ⟨r868, hr869, h870⟩ := bind_some h867
            refine CP Bl (Bq N bp0 r804.1 ar804_0_0 nr804_0_0 hbr804_0_0 (Tq hsr804_0_0 (le833.trans le840)) r771.2 ar771_1_2 nr771_1_2 hbr771_1_2 (Tq hsr771_1_2 (((le798.trans le808).trans le833).trans le840)) 2 hs839 _ hr869) ?_ ?_
            ·rintro r871 _ F70 w873 _ rfl hs874 le875 ⟨rfl, rfl⟩
             have h877 := BM h870
             refine Nss (Rg [0, 1, 2] ?_)
             refine Vs 1 ?_
             refine Ld hs874.at1 ?_
             obtain ⟨r878, hr879, h880⟩ := bind_some h877
             refine CP Bl (Bq N bp0 r804.1 ar804_0_0 nr804_0_0 hbr804_0_0 (Tq hsr804_0_0 ((le833.trans le840).trans le875)) r804.2 ar804_1_2 nr804_1_2 hbr804_1_2 (Tq hsr804_1_2 ((le833.trans le840).trans le875)) 1 hs874 _ hr879) ?_ ?_
             ·rintro r881 _ F71 w883 _ rfl hs884 le885 ⟨rfl, rfl⟩
              have h887 := BM h880
              refine Nt ?_
              obtain ⟨j893, hj895, h896⟩ := bind_some h887
              refine RD 12 13 [(sb bp0 (Ah r804.1 ar804_0_0 nr804_0_0) 100), (sb b811 (Aq r804.2 ar804_1_2 nr804_1_2) 113), (sb b778 (Aq r771.2 ar771_1_2 nr771_1_2) 113), e1_0, e1_1, e1_3] [(sb bp1 (AU x1 a1_0 n1_0 a1_1 n1_1 a1_2 n1_2 a1_3 n1_3) 26)] hs884 (fun f w => ∃ (F72 : Mem) (aj893_0 : TO) (nj893_0 : Nat) (ej893_0 : Option Nat × Obj), HS wb Fb w F72 ((sb bp0 (Ah r804.1 ar804_0_0 nr804_0_0) 100) :: (sb bp1 #[(.slice a1_0 x1.Points.length n1_0), (.slice a1_1 x1.Multipliers.length n1_1), (.slice aj893_0 j893.length nj893_0), (.slice a1_3 x1.Repeats.length n1_3)] 26) :: e1_0 :: e1_1 :: ej893_0 :: e1_3 :: Lf) /\ Tn F71 F72 /\ FI f [] [] /\ Av Ay 56 F72 aj893_0 nj893_0 j893 ej893_0) (fun wd888 hw889 => ?_) ?_
              ·refine Dv [0, 1, 2] ?_
               refine Dl 3 (fun _ hq => ((hq.2 rfl).2 0 _ _ rfl)) ?_
               refine Dv [4] ?_
               refine Dl 5 (fun _ hq => (hq.1.2 2 _ _ rfl)) ?_
               refine Dv [6] ?_
               refine Dl 7 (fun _ hq => (hq.1.2 1 _ _ rfl)) ?_
               refine Dv [8] ?_
               refine D1 9 ?_
               refine DBs 56 [(vi r771.2.Expr.Op), (vi r771.2.Expr.Value), (.slice ar771_1_2 r771.2.Expr.Kids.length nr771_1_2), (vi r804.2.Expr.Op), (vi r804.2.Expr.Value), (.slice ar804_1_2 r804.2.Expr.Kids.length nr804_1_2)] hw889 (To _) (fun b897 w898 hs899 => ?_)
               have hr901 : Av Ay 56 F71 (some ⟨b897, 0, none⟩) 1 [({ When := r771.2.Expr, Then := r804.2.Expr } : Clause)] (some b897, .cells ([(vi r771.2.Expr.Op), (vi r771.2.Expr.Value), (.slice ar771_1_2 r771.2.Expr.Kids.length nr771_1_2), (vi r804.2.Expr.Op), (vi r804.2.Expr.Value), (.slice ar804_1_2 r804.2.Expr.Kids.length nr804_1_2)] : List Value).toArray 56 (0, 0)) := TH ⟨⟨ar771_1_2, nr771_1_2, ar804_1_2, nr804_1_2, rfl, hbr771_1_2, (Tq hsr771_1_2 (((((le798.trans le808).trans le833).trans le840).trans le875).trans le885)), hbr804_1_2, (Tq hsr804_1_2 (((le833.trans le840).trans le875).trans le885))⟩, rfl⟩ (by simp)
               refine D1 10 ?_
               obtain ⟨r902, hap903, h904⟩ := bind_some hj895
               refine Qf GR hs899 (hr1_2.mono (((((((((le46.trans le741).trans le765).trans le775).trans le798).trans le808).trans le833).trans le840).trans le875).trans le885)) (hs899.rd0 hr901) hap903 (To _) (fun a905 n906 e907 w908 hs909 hr910 => ?_)
               refine Dv [11] ?_
               refine D1 12 ?_
               refine SB #[(.slice a1_0 x1.Points.length n1_0), (.slice a1_1 x1.Multipliers.length n1_1), (.slice a905 r902.length n906), (.slice a1_3 x1.Repeats.length n1_3)] hs909 (To _) (fun w911 hs912 => ?_)
               obtain rfl := Ab h904
               exact TE (by kernel_rfl) ⟨F71, a905, n906, e907, hs912.dr0.dr1.dr1, (To _), fI, hr910⟩
              ·rintro f w890 ⟨F72, aj893_0, nj893_0, ej893_0, hs891, le892, ⟨_, rfl⟩, hrj893_0⟩
               obtain rfl := Ab h896
               exact ReP [] hs891 ((((((((((le46.trans le741).trans le765).trans le775).trans le798).trans le808).trans le833).trans le840).trans le875).trans le885).trans le892) ⟨ar804_0_0, nr804_0_0, a1_0, n1_0, e1_0, a1_1, n1_1, e1_1, aj893_0, nj893_0, ej893_0, a1_3, n1_3, e1_3, rfl, rfl, hbr804_0_0, (Tq hsr804_0_0 ((((le833.trans le840).trans le875).trans le885).trans le892)), (hr1_0.mono ((((((((((le46.trans le741).trans le765).trans le775).trans le798).trans le808).trans le833).trans le840).trans le875).trans le885).trans le892)), (hr1_1.mono ((((((((((le46.trans le741).trans le765).trans le775).trans le798).trans le808).trans le833).trans le840).trans le875).trans le885).trans le892)), hrj893_0, (hr1_3.mono ((((((((((le46.trans le741).trans le765).trans le775).trans le798).trans le808).trans le833).trans le840).trans le875).trans le885).trans le892))⟩
             ·rintro b913 F73 w914 rfl hs915 le916
              have h917 := Bo h880
              refine Ap ?_
              have hs919 := hs915.dr0.dr0.dr0.dr0.dr0
              obtain rfl := Ab h917
              exact CI hs919.dr0.dr0 (((((((((le46.trans le741).trans le765).trans le775).trans le798).trans le808).trans le833).trans le840).trans le875).trans le916)
            ·rintro b920 F74 w921 rfl hs922 le923
             have h924 := Bo h870
             refine Ap ?_
             have hs926 := hs922.dr0.dr0.dr0.dr0.dr0
             obtain rfl := Ab h924
             exact CI hs926.dr0.dr0 ((((((((le46.trans le741).trans le765).trans le775).trans le798).trans le808).trans le833).trans le840).trans le923)
           ·rintro c f w928 ⟨hd931, b927, F75, rfl, rfl, hs929, le930⟩
            have h932 := Bo h848
            refine Ap ?_
            obtain rfl := Ab h932
            exact ⟨hd931, .inr ⟨_, F75, rfl, rfl, hs929, (((((((le46.trans le741).trans le765).trans le775).trans le798).trans le808).trans le833).trans le930)⟩⟩
          ·rintro b933 F76 w934 rfl hs935 le936
           have h937 := Bo h828
           refine Ap ?_
           have hs939 := hs935.dr0.dr0.dr0.dr0.dr0
           obtain rfl := Ab h937
           exact ⟨h256, .inr ⟨_, F76, rfl, rfl, hs939.dr0.dr0.dr0.dr0, ((((((le46.trans le741).trans le765).trans le775).trans le798).trans le808).trans le936)⟩⟩
         ·rintro b940 F77 w941 rfl hs942 le943
          have h944 := Bo h803
          refine Ap ?_
          have hs946 := hs942.dr0.dr0.dr0.dr0.dr0
          obtain rfl := Ab h944
          exact ⟨h256, .inr ⟨_, F77, rfl, rfl, hs946.dr0.dr0.dr0, (((((le46.trans le741).trans le765).trans le775).trans le798).trans le943)⟩⟩
        ·rintro b947 F78 w948 rfl hs949 le950
         have h951 := Bo h793
         refine Ap ?_
         have hs953 := hs949.dr0.dr0.dr0.dr0.dr0
         obtain rfl := Ab h951
         exact ⟨h256, .inr ⟨_, F78, rfl, rfl, hs953.dr0.dr0.dr0, ((((le46.trans le741).trans le765).trans le775).trans le950)⟩⟩
       ·rintro b954 F79 w955 rfl hs956 le957
        have h958 := Bo h770
        refine Ap ?_
        have hs960 := hs956.dr0.dr0.dr0.dr0.dr0
        obtain rfl := Ab h958
        exact ⟨h256, .inr ⟨_, F79, rfl, rfl, hs960.dr0.dr0, (((le46.trans le741).trans le765).trans le957)⟩⟩
      ·rintro b961 F80 w962 rfl hs963 le964
       have h965 := Bo h760
       refine Ap ?_
       have hs967 := hs963.dr0.dr0.dr0.dr0.dr0
       obtain rfl := Ab h965
       exact ⟨h256, .inr ⟨_, F80, rfl, rfl, hs967.dr0.dr0, ((le46.trans le741).trans le964)⟩⟩
    ·refine V 63 168 (NU (mt := 167) (k := 9) (vt := 166) (m := (.tmp 60)) (x := (.tmp 62)) rfl rfl ⟨by kernel_rfl, by kernel_rfl⟩ (by kernel_rfl) (hs259.ownAt' (k := 0) rfl) hp254 (PO hb260 hb496 hb732)) ?_
     refine Vs 5 ?_
     refine Nss ?_
     refine Sq (Rg [0, 1, 2, 3, 4, 5, 6, 7, 8] ?_)
     refine Vs 3 ?_
     refine Ss (rfl : true = true) 5 ?_
     refine Pk1 (rfl : true = true) ?_
     refine Nt ?_
     refine C1 (rfl : true = true) ?_
     refine Rg [0, 1, 2, 3] ?_
     refine V 75 95 (mv 0 (pt bp0 0) h257) ?_
     refine V 76 0 (fa 97 4 1 1 1 b35 0 1 h258) ?_
     refine Ld hs259.at2 ?_
     have hs968 := hs259.pk7.pk7.pk7.pk7.pk7
     obtain ⟨r969, hr970, h971⟩ := bind_some h734
     refine CP AR (AZ N bp0 r41.1 ar41_0_0 nr41_0_0 hbr41_0_0 hsr41_0_0 60 x21.at_ hs968.pk7.pk6.pk7 _ hr970) ?_ ?_
     ·rintro _ _ _ _ _ rfl _ _ _; cases hr970
     ·rintro b974 F82 w975 rfl hs976 le977
      have h978 := Bo h971
      refine Ap ?_
      have hs980 := hs976.dr0.dr0.dr0.dr0.dr0
      obtain rfl := Ab h978
      exact ⟨h256, .inr ⟨_, F82, rfl, rfl, hs980.dr0.dr0, (le46.trans le977)⟩⟩
def CA (N : Nat) (x0 : Ac) (z0 : BC) : (List An × Int × List Clause × List Clause × List Clause × List Expr) -> Option (Bv (Ak ⊕ (Ac × BC)) (List An × Int × List Clause × List Clause × List Clause × List Expr)) := fun s24 =>
 ((idx s24.1 0).bind fun x42 => (bif (x42.kind_ != 0) then ((Aw N ({ l_ := s24.1, open_ := s24.2.1 } : Ac) ([10] : TN)).bind fun r59 => (bif (!r59.2) then ((CL N r59.1 ({ Points := s24.2.2.1, Multipliers := s24.2.2.2.1, Penalties := s24.2.2.2.2.1, Repeats := s24.2.2.2.2.2 } : BC)).bind fun r69 => sk r69 (fun b80 => some (.ret (.inl b80))) (fun r72 => some (.next (r72.1.l_, r72.1.open_, r72.2.Points, r72.2.Multipliers, r72.2.Penalties, r72.2.Repeats)))) else some (.next (r59.1.l_, r59.1.open_, s24.2.2.1, s24.2.2.2.1, s24.2.2.2.2.1, s24.2.2.2.2.2)))) else some (.done (s24.1, s24.2.1, s24.2.2.1, s24.2.2.2.1, s24.2.2.2.2.1, s24.2.2.2.2.2))))
def Gm (N : Nat) (x0 : Ac) (z0 : BC) : Option (Ak ⊕ (Ac × BC)) :=
 ((Be (CA N x0 z0) N (x0.l_, x0.open_, z0.Points, z0.Multipliers, z0.Penalties, z0.Repeats)).bind fun o => o.k (fun r => some r) (fun s31 => some (.inr (({ l_ := s31.1, open_ := s31.2.1 } : Ac), ({ Points := s31.2.2.1, Multipliers := s31.2.2.2.1, Penalties := s31.2.2.2.2.1, Repeats := s31.2.2.2.2.2 } : BC)))))
theorem Kz : Au Tryz.prog 79 := fun _ _ => by kernel_rfl
theorem Lj (N : Nat) {wb w0 : World} {Fb F0 : Mem} {Lf : Own} (hG : Dy F0) (bp0 : Nat) (x0 : Ac) (a0_0 : TO) (n0_0 : Nat) (hb0_0 : LC x0.l_.length n0_0) (hs0_0 : SlA Al F0 a0_0 x0.l_) (bz0 : Nat) (z0 : BC) (az0_0 : TO) (nz0_0 : Nat) (ez0_0 : Option Nat × Obj) (az0_1 : TO) (nz0_1 : Nat) (ez0_1 : Option Nat × Obj) (az0_2 : TO) (nz0_2 : Nat) (ez0_2 : Option Nat × Obj) (az0_3 : TO) (nz0_3 : Nat) (ez0_3 : Option Nat × Obj) (hrz0_0 : Av Ay 56 F0 az0_0 nz0_0 z0.Points ez0_0) (hrz0_1 : Av Ay 56 F0 az0_1 nz0_1 z0.Multipliers ez0_1) (hrz0_2 : Av Ay 56 F0 az0_2 nz0_2 z0.Penalties ez0_2) (hrz0_3 : Av As 33 F0 az0_3 nz0_3 z0.Repeats ez0_3) (hs0 : HS wb Fb w0 F0 ((sb bp0 (Ah x0 a0_0 n0_0) 100) :: (sb bz0 (AU z0 az0_0 nz0_0 az0_1 nz0_1 az0_2 nz0_2 az0_3 nz0_3) 26) :: ez0_0 :: ez0_1 :: ez0_2 :: ez0_3 :: Lf)) (r : (Ak ⊕ (Ac × BC))) (h : Gm N x0 z0 = some r) :
  Calls Tryz.prog 79 ([(pt bp0 0), (pt bz0 0)] : List Value).toArray w0 (Cj wb Fb F0 Lf r (fun b => (.iface 158 (.agg (A3 b)))) fun a F' v L' => ∃ (aq0_0 : TO) (nq0_0 : Nat) (aq1_0 : TO) (nq1_0 : Nat) (eq1_0 : Option Nat × Obj) (aq1_1 : TO) (nq1_1 : Nat) (eq1_1 : Option Nat × Obj) (aq1_2 : TO) (nq1_2 : Nat) (eq1_2 : Option Nat × Obj) (aq1_3 : TO) (nq1_3 : Nat) (eq1_3 : Option Nat × Obj), v = (.tuple #[]) /\ L' = (sb bp0 (Ah a.1 aq0_0 nq0_0) 100) :: (sb bz0 (AU a.2 aq1_0 nq1_0 aq1_1 nq1_1 aq1_2 nq1_2 aq1_3 nq1_3) 26) :: eq1_0 :: eq1_1 :: eq1_2 :: eq1_3 :: Lf /\ LC a.1.l_.length nq0_0 /\ SlA Al F' aq0_0 a.1.l_ /\ Av Ay 56 F' aq1_0 nq1_0 a.2.Points eq1_0 /\ Av Ay 56 F' aq1_1 nq1_1 a.2.Multipliers eq1_1 /\ Av Ay 56 F' aq1_2 nq1_2 a.2.Penalties eq1_2 /\ Av As 33 F' aq1_3 nq1_3 a.2.Repeats eq1_3) := by
 refine Go 16 Tryz.func79 ?_
 obtain ⟨o21, ho22, h23⟩ := bind_some h
 refine Tu (fun f w => ∃ (s31 : (List An × Int × List Clause × List Clause × List Clause × List Expr)) (F2 : Mem) (as31_0 : TO) (ns31_0 : Nat) (as31_2 : TO) (ns31_2 : Nat) (es31_2 : Option Nat × Obj) (as31_3 : TO) (ns31_3 : Nat) (es31_3 : Option Nat × Obj) (as31_4 : TO) (ns31_4 : Nat) (es31_4 : Option Nat × Obj) (as31_5 : TO) (ns31_5 : Nat) (es31_5 : Option Nat × Obj), o21 = .done s31 /\ HS wb Fb w F2 ((sb bp0 #[(.slice as31_0 s31.1.length ns31_0), (vi s31.2.1)] 100) :: (sb bz0 #[(.slice as31_2 s31.2.2.1.length ns31_2), (.slice as31_3 s31.2.2.2.1.length ns31_3), (.slice as31_4 s31.2.2.2.2.1.length ns31_4), (.slice as31_5 s31.2.2.2.2.2.length ns31_5)] 26) :: es31_2 :: es31_3 :: es31_4 :: es31_5 :: Lf) /\ Tn F0 F2 /\ FI f [] [] /\ LC s31.1.length ns31_0 /\ SlA Al F2 as31_0 s31.1 /\ Av Ay 56 F2 as31_2 ns31_2 s31.2.2.1 es31_2 /\ Av Ay 56 F2 as31_3 ns31_3 s31.2.2.2.1 es31_3 /\ Av Ay 56 F2 as31_4 ns31_4 s31.2.2.2.2.1 es31_4 /\ Av As 33 F2 as31_5 ns31_5 s31.2.2.2.2.2 es31_5) ?_ ?_
 ·refine Bk ?_
  refine Tm (by kernel_rfl) (fun m f w => ∃ (s24 : (List An × Int × List Clause × List Clause × List Clause × List Expr)) (F1 : Mem) (as24_0 : TO) (ns24_0 : Nat) (as24_2 : TO) (ns24_2 : Nat) (es24_2 : Option Nat × Obj) (as24_3 : TO) (ns24_3 : Nat) (es24_3 : Option Nat × Obj) (as24_4 : TO) (ns24_4 : Nat) (es24_4 : Option Nat × Obj) (as24_5 : TO) (ns24_5 : Nat) (es24_5 : Option Nat × Obj), Be (CA N x0 z0) m s24 = some o21 /\ HS wb Fb w F1 ((sb bp0 #[(.slice as24_0 s24.1.length ns24_0), (vi s24.2.1)] 100) :: (sb bz0 #[(.slice as24_2 s24.2.2.1.length ns24_2), (.slice as24_3 s24.2.2.2.1.length ns24_3), (.slice as24_4 s24.2.2.2.2.1.length ns24_4), (.slice as24_5 s24.2.2.2.2.2.length ns24_5)] 26) :: es24_2 :: es24_3 :: es24_4 :: es24_5 :: Lf) /\ Tn F0 F1 /\ FI f [] [(0, (pt bp0 0)), (1, (pt bz0 0))] /\ LC s24.1.length ns24_0 /\ SlA Al F1 as24_0 s24.1 /\ Av Ay 56 F1 as24_2 ns24_2 s24.2.2.1 es24_2 /\ Av Ay 56 F1 as24_3 ns24_3 s24.2.2.2.1 es24_3 /\ Av Ay 56 F1 as24_4 ns24_4 s24.2.2.2.2.1 es24_4 /\ Av As 33 F1 as24_5 ns24_5 s24.2.2.2.2.2 es24_5) N ⟨(x0.l_, x0.open_, z0.Points, z0.Multipliers, z0.Penalties, z0.Repeats), F0, a0_0, n0_0, az0_0, nz0_0, ez0_0, az0_1, nz0_1, ez0_1, az0_2, nz0_2, ez0_2, az0_3, nz0_3, ez0_3, ho22, hs0, (To _), fI, hb0_0, hs0_0, hrz0_0, hrz0_1, hrz0_2, hrz0_3⟩ ?_
  rintro m36 f w25 ⟨s24, F1, as24_0, ns24_0, as24_2, ns24_2, es24_2, as24_3, ns24_3, es24_3, as24_4, ns24_4, es24_4, as24_5, ns24_5, es24_5, hit37, hs26, le27, ⟨_, rfl⟩, hbs24_0, hss24_0, hrs24_2, hrs24_3, hrs24_4, hrs24_5⟩
  obtain ⟨m38, fl39, rfl, hb40, hnx41⟩ := A5 hit37
  refine Sq ?_
  refine Sq (Rg [0, 1, 2, 3, 4, 5, 6, 7] ?_)
  refine Vs 3 ?_
  refine Ld hs26.at0 ?_
  obtain ⟨x42, hx43, h45⟩ := bind_some hb40
  obtain ⟨hi44, hx43'⟩ := Az hx43
  obtain ⟨b46, o47, C48, E49, fz50, rfl, hF52, hE53⟩ := Tx hss24_0 hx43'
  have hc55 := hE53 _ _ hx43'
  refine Ix hi44 ?_
  refine Vs 1 ?_
  refine Lx 0 (hs26.pers _ _ hF52) hc55 ?_
  refine Vs 1 ?_
  refine Nt ?_
  refine Cd h45 (fun hb56 h57 => ?_) (fun hb56 h58 => ?_)
  ·refine Sc ?_
   refine Ad ?_
   refine Bk ?_
   refine Sq (Rg [0, 1, 2] ?_)
   refine Vs 1 ?_
   obtain ⟨r59, hr60, h61⟩ := bind_some h57
   refine CB AP (AV N bp0 (({ l_ := s24.1, open_ := s24.2.1 } : Ac)) (some ⟨b46, o47, none⟩) ns24_0 hbs24_0 hss24_0 (([10] : TN)) hs26 _ hr60) ?_
   rintro _ F3 w62 _ hs63 le64 ⟨ar59_0_0, nr59_0_0, rfl, rfl, hbr59_0_0, hsr59_0_0⟩
   refine Vs 1 ?_
   refine Nt ?_
   refine Cd h61 (fun hb66 h67 => ?_) (fun hb66 h68 => ?_)
   ·refine Rg [0, 1] ?_
    refine Vs 1 ?_
    obtain ⟨r69, hr70, h71⟩ := bind_some h67
    refine CP HB (Ir N (hG.mono (le27.trans le64)) bp0 r59.1 ar59_0_0 nr59_0_0 hbr59_0_0 hsr59_0_0 bz0 (({ Points := s24.2.2.1, Multipliers := s24.2.2.2.1, Penalties := s24.2.2.2.2.1, Repeats := s24.2.2.2.2.2 } : BC)) as24_2 ns24_2 es24_2 as24_3 ns24_3 es24_3 as24_4 ns24_4 es24_4 as24_5 ns24_5 es24_5 (hrs24_2.mono le64) (hrs24_3.mono le64) (hrs24_4.mono le64) (hrs24_5.mono le64) hs63 _ hr70) ?_ ?_
    ·rintro r72 _ F4 w74 _ rfl hs75 le76 ⟨ar72_0_0, nr72_0_0, ar72_1_0, nr72_1_0, er72_1_0, ar72_1_1, nr72_1_1, er72_1_1, ar72_1_2, nr72_1_2, er72_1_2, ar72_1_3, nr72_1_3, er72_1_3, rfl, rfl, hbr72_0_0, hsr72_0_0, hrr72_1_0, hrr72_1_1, hrr72_1_2, hrr72_1_3⟩
     have h78 := BM h71
     refine Tj ?_
     refine AA ?_
     have hn79 := AW h78 hnx41
     exact ⟨m38, Nat.lt_succ_self _, (r72.1.l_, r72.1.open_, r72.2.Points, r72.2.Multipliers, r72.2.Penalties, r72.2.Repeats), F4, ar72_0_0, nr72_0_0, ar72_1_0, nr72_1_0, er72_1_0, ar72_1_1, nr72_1_1, er72_1_1, ar72_1_2, nr72_1_2, er72_1_2, ar72_1_3, nr72_1_3, er72_1_3, hn79, hs75, ((le27.trans le64).trans le76), fI, hbr72_0_0, hsr72_0_0, hrr72_1_0, hrr72_1_1, hrr72_1_2, hrr72_1_3⟩
    ·rintro b80 F5 w81 rfl hs82 le83
     have h84 := Bo h71
     refine Bf ?_
     refine Ap ?_
     refine Bf ?_
     have hret := B9 h84 hnx41
     subst hret
     refine .inr ?_
     obtain rfl := Ab h23
     exact CI hs82 ((le27.trans le64).trans le83)
   ·refine Sc ?_
    refine AA ?_
    have hn86 := AW h68 hnx41
    exact ⟨m38, Nat.lt_succ_self _, (r59.1.l_, r59.1.open_, s24.2.2.1, s24.2.2.2.1, s24.2.2.2.2.1, s24.2.2.2.2.2), F3, ar59_0_0, nr59_0_0, as24_2, ns24_2, es24_2, as24_3, ns24_3, es24_3, as24_4, ns24_4, es24_4, as24_5, ns24_5, es24_5, hn86, hs63, (le27.trans le64), fI, hbr59_0_0, hsr59_0_0, (hrs24_2.mono le64), (hrs24_3.mono le64), (hrs24_4.mono le64), (hrs24_5.mono le64)⟩
  ·refine Ex ?_
   refine AC ?_
   refine AC ?_
   refine AL rfl ?_
   have ho87 := A8 h58 hnx41
   exact .inl ⟨rfl, (s24.1, s24.2.1, s24.2.2.1, s24.2.2.2.1, s24.2.2.2.2.1, s24.2.2.2.2.2), F1, (some ⟨b46, o47, none⟩), ns24_0, as24_2, ns24_2, es24_2, as24_3, ns24_3, es24_3, as24_4, ns24_4, es24_4, as24_5, ns24_5, es24_5, ho87, hs26, le27, fI, hbs24_0, hss24_0, hrs24_2, hrs24_3, hrs24_4, hrs24_5⟩
 ·rintro f w32 ⟨s31, F2, as31_0, ns31_0, as31_2, ns31_2, es31_2, as31_3, ns31_3, es31_3, as31_4, ns31_4, es31_4, as31_5, ns31_5, es31_5, rfl, hs33, le34, ⟨_, rfl⟩, hbs31_0, hss31_0, hrs31_2, hrs31_3, hrs31_4, hrs31_5⟩
  have h88 := BT h23
  obtain rfl := Ab h88
  exact ReP [] hs33 le34 ⟨as31_0, ns31_0, as31_2, ns31_2, es31_2, as31_3, ns31_3, es31_3, as31_4, ns31_4, es31_4, as31_5, ns31_5, es31_5, rfl, rfl, hbs31_0, hss31_0, hrs31_2, hrs31_3, hrs31_4, hrs31_5⟩
def Qg : Expr := { Op := 0, Value := 0, Kids := ([] : List Expr) }
def Pb : B3 := { Expr := Qg, at_ := 0 }
def Ft : BC := { Points := ([] : List Clause), Multipliers := ([] : List Clause), Penalties := ([] : List Clause), Repeats := ([] : List Expr) }
def I4 {α β : Type} (N : Nat) (s : TN) (run : Ac -> Option (Ak ⊕ α)) (z : β) (f : α -> β) : Option (β × Int × Int) :=
 bif decide ((s.length : Int) > 65536) then some (z, 2, 0) else (FA N s).bind fun l => (run { l_ := l, open_ := 0 }).bind fun q => sk q (fun b => bif b.e_ != 0 then some (z, b.e_, b.at_) else none) (fun a => some (f a, 0, 0))
def De (N : Nat) (x0 : TN) : Option (Expr × Int × Int) := I4 N x0 (fun p => FZ N p Pb) Qg (fun a => a.2.Expr)
def C8 (N : Nat) (x0 : TN) : Option (BC × Int × Int) := I4 N x0 (fun p => Gm N p Ft) Ft (fun a => a.2)
theorem Oo {α : Type} {b : Bool} {x y : α} (h : b = true) : (bif b then x else y) = x := by subst h; rfl
theorem MY {α : Type} {b : Bool} {x y : α} (h : b = false) : (bif b then x else y) = y := by subst h; rfl
theorem FK : Au Tryz.prog 25 := fun _ _ => by kernel_rfl
set_option maxRecDepth 100000 in
theorem Gf (N : Nat) (w0 : World) (F0 : Mem) (hF : TP w0 F0) (hG : Dy F0) (x0 : TN) (r : Expr × Int × Int) (h : De N x0 = some r) :
  Calls Tryz.prog 25 ([.string ⟨x0.toArray⟩] : List Value).toArray w0 (Bd w0 F0 fun F' v => ∃ (aq0_2 : TO) (nq0_2 : Nat), v = (.tuple #[(.agg #[(.int .i64 r.1.Op), (.int .i64 r.1.Value), (.slice aq0_2 r.1.Kids.length nq0_2)]), (.int .i64 r.2.1), (.int .i64 r.2.2)]) /\ LC r.1.Kids.length nq0_2 /\ SlA As F' aq0_2 r.1.Kids) := by
 have hs0 := Tp hF
 refine FO (n := 21) (c := CT Tryz.f25) Tryz.func25 (by kernel_rfl) (by kernel_rfl) (by kernel_rfl) ?_
 refine Sq ?_
 refine Rg [0, 1, 2] ?_
 refine Tv (dst := some 2) (ty := 0) (g := none) (by kernel_rfl) rfl (t := 33) (z := .agg #[.int .i64 0, .int .i64 0, .slice none 0 0]) (by kernel_rfl) (C := #[.int .i64 0, .int .i64 0, .slice none 0 0]) rfl hs0 (fun b2 w1 hs1 => ?_)
 refine V 3 27 (AM (x := .const (.int .i64 0)) (v := .int .i64 0) rfl) ?_
 refine V 4 3 (AM (x := .const (.int .i64 0)) (v := .int .i64 0) rfl) ?_
 refine Tj ?_
 refine Ad ?_
 refine Sq ?_
 refine Rg [0] ?_
 refine Tv (dst := some 5) (ty := 0) (g := none) (by kernel_rfl) rfl (t := 113) (z := .agg #[.int .i64 0, .int .i64 0, .slice none 0 0, .int .i64 0]) (by kernel_rfl) (C := #[.int .i64 0, .int .i64 0, .slice none 0 0, .int .i64 0]) rfl hs1 (fun b5 w2 hs2 => ?_)
 refine Tj ?_
 refine Ad ?_
 refine Sq ?_
 refine Rg [0, 1, 2, 3, 4, 5, 6, 7] ?_
 refine V 9 9 (Bb (x := .tmp 0) (v := .string ⟨x0.toArray⟩) rfl) ?_
 refine V 10 103 (DI (fn := .func 85) (first := #[]) (cap := #[.tmp 5]) (fl := []) (cl := [.pointer (some ⟨b5, 0, none⟩)]) rfl rfl) ?_
 obtain ⟨X, hX⟩ : ∃ X : Own, X = [(some b2, .cells #[.int .i64 0, .int .i64 0, .slice none 0 0] 33 (0, 0))] := ⟨_, rfl⟩
 refine Tl (dst := some 11) (ty := 88) (g := none) (by kernel_rfl) rfl (DR (f := .func 78) (aos := #[.tmp 9, .tmp 10]) (ats := #[9, 103]) (g := 78) (first := #[]) (cap := #[]) (args := [.string ⟨x0.toArray⟩, .func (.func 85) #[] #[.pointer (some ⟨b5, 0, none⟩)]]) rfl IP rfl)
  (Ka N hs2 x0 (g := 85) (cap := [.pointer (some ⟨b5, 0, none⟩)]) HG (fun o F' L' => match o with
   | none => ∃ (e : Expr) (at_ : Int) (a : TO) (n : Nat), L' = (some b5, .cells #[.int .i64 e.Op, .int .i64 e.Value, .slice a e.Kids.length n, .int .i64 at_] 113 (0, 0)) :: X /\ LC e.Kids.length n /\ SlA As F' a e.Kids /\ some (e, (0 : Int), (0 : Int)) = some r
   | some x => (bif x.e_ != 0 then some (Qg, x.e_, x.at_) else none) = some r /\ (L' = X \/ ∃ o, L' = (some b5, o) :: X)) ?_ ?_) ?_
 ·intro hc F'
  unfold De I4 at h
  rw [Oo hc] at h
  exact ⟨h, .inr ⟨_, by rw [hX]⟩⟩
 ·intro hc
  unfold De I4 at h
  rw [MY hc] at h
  obtain ⟨l, hl, h⟩ := bind_some h
  obtain ⟨q, hq, h⟩ := bind_some h
  refine ⟨l, hl, fun w3 F3 be_ ba_ bp a n le3 hb hsl hs3 => ?_⟩
  have hs4 : HS w0 F0 w3 F3 ((some bp, .cells #[.slice a l.length n, .int .i64 0] 100 (0, 0)) :: (some b5, .cells #[.int .i64 0, .int .i64 0, .slice none 0 0, .int .i64 0] 113 (0, 0)) :: (some ba_, ba 0) :: (some be_, be 0) :: X) := by
   rw [hX]; exact (hs3.pick (k := 3) rfl).pick (k := 1) rfl
  refine (It N (hG.mono (hs3.le)) bp { l_ := l, open_ := 0 } a n hb hsl b5 Pb none 0 Tr (.inl rfl) hs4 q hq).mono ?_
  rintro e w4 (⟨a1, F4, v, L', rfl, rfl, hs5, le5, aq, nq, az, nz, rfl, rfl, h1, h2, h3, h4⟩ | ⟨x, F4, rfl, rfl, hs5, le5⟩)
  ·exact .inl ⟨_, F4, _, rfl, ((hs5.drop 0).pick (k := 2) rfl).pick (k := 2) rfl, le5, _, _, az, nz, rfl, h3, h4, h⟩
  ·exact .inr ⟨x, F4, _, rfl, hs5, le5, h, .inl rfl⟩
 ·rintro e w5 ⟨o, F5, L5, rfl, hs5, le5, hK⟩
  cases o with
  | none =>
   obtain ⟨e, at_, a, n, rfl, hb, hsl, hr⟩ := hK
   simp only
   refine V 8 88 (Bb (x := .tmp 11) (v := .tuple #[.int .i64 0, .int .i64 0]) rfl) ?_
   refine V 12 27 (Ch (x := .tmp 8) (vs := #[.int .i64 0, .int .i64 0]) (i := 0) (v := .int .i64 0) rfl rfl) ?_
   refine V 13 3 (Ch (x := .tmp 8) (vs := #[.int .i64 0, .int .i64 0]) (i := 1) (v := .int .i64 0) rfl rfl) ?_
   refine V 6 27 (AM (x := .tmp 12) (v := .int .i64 0) rfl) ?_
   refine V 7 3 (AM (x := .tmp 13) (v := .int .i64 0) rfl) ?_
   refine Tj ?_
   refine Ad ?_
   refine Sq ?_
   refine Sq ?_
   refine Rg [0, 1] ?_
   refine V 14 27 (Bb (x := .tmp 6) (v := .int .i64 0) rfl) ?_
   refine V 15 4 (Ib (t := 27) (t' := 27) (x := .tmp 14) (y := .const (.int .i64 0)) (k := .i64) (a := 0) (b := 0) rfl rfl) ?_
   refine Tj ?_
   refine Ad ?_
   refine CWP.cond0 (t := false) (by kernel_rfl) rfl rfl ?_
   refine CWP.skip (by kernel_rfl) ?_
   refine Ad ?_
   refine Sq ?_
   refine Rg [0, 1, 2, 3, 4] ?_
   refine V 19 0 (Cy (s := 113) (x := .tmp 5) (i := 0) (o := 0) (k := 3) (b := b5) (o0 := 0) rfl (by kernel_rfl) rfl (o1 := 0) rfl) ?_
   refine V 20 33 (Bh (t := 33) (x := .tmp 19) (b := b5) (o := 0) (g := true) (s := 3) (C := #[.int .i64 e.Op, .int .i64 e.Value, .slice a e.Kids.length n, .int .i64 at_]) (v := .agg #[.int .i64 e.Op, .int .i64 e.Value, .slice a e.Kids.length n]) rfl (by kernel_rfl) (hs5.ownAt (k := 0) rfl) rfl rfl rfl) ?_
   subst hX
   refine Tw (ty := 0) (g := none) (by kernel_rfl) rfl (x := .tmp 2) (y := .tmp 20) (t := 33) (gg := true) (s := 3) (v := .agg #[.int .i64 e.Op, .int .i64 e.Value, .slice a e.Kids.length n]) (b := b2) (o := 0) (C := #[.int .i64 0, .int .i64 0, .slice none 0 0]) rfl rfl (by kernel_rfl) hs5 (k := 1) rfl rfl rfl rfl (C' := #[.int .i64 e.Op, .int .i64 e.Value, .slice a e.Kids.length n]) rfl (fun w6 hs6 => ?_)
   refine V 3 27 (AM (x := .const (.int .i64 0)) (v := .int .i64 0) rfl) ?_
   refine V 4 3 (AM (x := .const (.int .i64 0)) (v := .int .i64 0) rfl) ?_
   refine Tj ?_
   refine Ad ?_
   refine CWP.ret (by kernel_rfl) ?_
   obtain rfl := Ab hr
   exact ⟨rfl, _, AE (l := [.cell 2 33, .tmp 3, .tmp 4]) (by kernel_rfl) (vs := [.agg #[.int .i64 e.Op, .int .i64 e.Value, .slice a e.Kids.length n], .int .i64 0, .int .i64 0]) ⟨b2, 0, rfl, Am (t := 33) (g := true) (s := 3) (by kernel_rfl) (hs6.ownAt (k := 1) rfl) rfl (by decide), rfl, rfl, trivial⟩, _, F5, rfl, hs6.clear, a, n, rfl, hb, hsl⟩
  | some x =>
   obtain ⟨hr, hL⟩ := hK
   have hs6 : HS w0 F0 w5 F5 X := by
    rcases hL with rfl | ⟨o, rfl⟩
    ·exact hs5
    ·exact hs5.drop 0
   clear hs5 hL
   cases hne : x.e_ != 0 with
   | false => rw [hne] at hr; cases hr
   | true =>
    rw [hne] at hr
    obtain rfl := Ab hr
    simp only
    refine V 8 88 (Bb (x := .tmp 11) (v := .tuple #[.int .i64 x.e_, .int .i64 x.at_]) rfl) ?_
    refine V 12 27 (Ch (x := .tmp 8) (vs := #[.int .i64 x.e_, .int .i64 x.at_]) (i := 0) (v := .int .i64 x.e_) rfl rfl) ?_
    refine V 13 3 (Ch (x := .tmp 8) (vs := #[.int .i64 x.e_, .int .i64 x.at_]) (i := 1) (v := .int .i64 x.at_) rfl rfl) ?_
    refine V 6 27 (AM (x := .tmp 12) (v := .int .i64 x.e_) rfl) ?_
    refine V 7 3 (AM (x := .tmp 13) (v := .int .i64 x.at_) rfl) ?_
    refine Tj ?_
    refine Ad ?_
    refine Sq ?_
    refine Sq ?_
    refine Rg [0, 1] ?_
    refine V 14 27 (Bb (x := .tmp 6) (v := .int .i64 x.e_) rfl) ?_
    refine V 15 4 (Ib (t := 27) (t' := 27) (x := .tmp 14) (y := .const (.int .i64 0)) (k := .i64) (a := x.e_) (b := 0) rfl rfl) ?_
    refine Tj ?_
    refine Ad ?_
    refine CWP.cond1 (t := x.e_ != 0) (by kernel_rfl) rfl hne ?_
    refine Sq ?_
    refine Rg [0, 1, 2, 3, 4, 5] ?_
    refine V 16 33 (GN (t := 33) (parts := #[]) (vs := []) rfl (cs := [.int .i64 0, .int .i64 0, .slice none 0 0]) (by kernel_rfl)) ?_
    refine V 17 27 (Bb (x := .tmp 6) (v := .int .i64 x.e_) rfl) ?_
    refine V 18 3 (Bb (x := .tmp 7) (v := .int .i64 x.at_) rfl) ?_
    subst hX
    refine Tw (ty := 0) (g := none) (by kernel_rfl) rfl (x := .tmp 2) (y := .tmp 16) (t := 33) (gg := true) (s := 3) (v := .agg #[.int .i64 0, .int .i64 0, .slice none 0 0]) (b := b2) (o := 0) (C := #[.int .i64 0, .int .i64 0, .slice none 0 0]) rfl rfl (by kernel_rfl) hs6 (k := 0) rfl rfl rfl rfl (C' := #[.int .i64 0, .int .i64 0, .slice none 0 0]) rfl (fun w7 hs7 => ?_)
    refine V 3 27 (AM (x := .tmp 17) (v := .int .i64 x.e_) rfl) ?_
    refine V 4 3 (AM (x := .tmp 18) (v := .int .i64 x.at_) rfl) ?_
    refine Tj ?_
    refine Ad ?_
    refine CWP.ret (by kernel_rfl) ?_
    refine Aj ?_
    exact ⟨rfl, _, AE (l := [.cell 2 33, .tmp 3, .tmp 4]) (by kernel_rfl) (vs := [.agg #[.int .i64 0, .int .i64 0, .slice none 0 0], .int .i64 x.e_, .int .i64 x.at_]) ⟨b2, 0, rfl, Am (t := 33) (g := true) (s := 3) (by kernel_rfl) (hs7.ownAt (k := 0) rfl) rfl (by decide), rfl, rfl, trivial⟩, _, F5, rfl, hs7.clear, none, 0, rfl, Tr, .inl rfl⟩
theorem FL : Au Tryz.prog 22 := fun _ _ => by kernel_rfl
set_option maxRecDepth 100000 in
theorem Gt (N : Nat) (w0 : World) (F0 : Mem) (hF : TP w0 F0) (hG : Dy F0) (x0 : TN) (r : BC × Int × Int) (h : C8 N x0 = some r) :
  Calls Tryz.prog 22 ([.string ⟨x0.toArray⟩] : List Value).toArray w0 (Bd w0 F0 fun F' v => ∃ (aq0_0 : TO) (nq0_0 : Nat) (aq0_1 : TO) (nq0_1 : Nat) (aq0_2 : TO) (nq0_2 : Nat) (aq0_3 : TO) (nq0_3 : Nat), v = (.tuple #[(.agg #[(.slice aq0_0 r.1.Points.length nq0_0), (.slice aq0_1 r.1.Multipliers.length nq0_1), (.slice aq0_2 r.1.Penalties.length nq0_2), (.slice aq0_3 r.1.Repeats.length nq0_3)]), (.int .i64 r.2.1), (.int .i64 r.2.2)]) /\ LC r.1.Points.length nq0_0 /\ SlA Ay F' aq0_0 r.1.Points /\ LC r.1.Multipliers.length nq0_1 /\ SlA Ay F' aq0_1 r.1.Multipliers /\ LC r.1.Penalties.length nq0_2 /\ SlA Ay F' aq0_2 r.1.Penalties /\ LC r.1.Repeats.length nq0_3 /\ SlA As F' aq0_3 r.1.Repeats) := by
 have hs0 := Tp hF
 refine FO (n := 20) (c := CT Tryz.f22) Tryz.func22 (by kernel_rfl) (by kernel_rfl) (by kernel_rfl) ?_
 refine Sq ?_
 refine Rg [0, 1, 2] ?_
 refine Tv (dst := some 2) (ty := 0) (g := none) (by kernel_rfl) rfl (t := 26) (z := .agg #[.slice none 0 0, .slice none 0 0, .slice none 0 0, .slice none 0 0]) (by kernel_rfl) (C := #[.slice none 0 0, .slice none 0 0, .slice none 0 0, .slice none 0 0]) rfl hs0 (fun b2 w1 hs1 => ?_)
 refine V 3 27 (AM (x := .const (.int .i64 0)) (v := .int .i64 0) rfl) ?_
 refine V 4 3 (AM (x := .const (.int .i64 0)) (v := .int .i64 0) rfl) ?_
 refine Tj ?_
 refine Ad ?_
 refine Sq ?_
 refine Rg [0] ?_
 refine Tv (dst := some 5) (ty := 0) (g := none) (by kernel_rfl) rfl (t := 26) (z := .agg #[.slice none 0 0, .slice none 0 0, .slice none 0 0, .slice none 0 0]) (by kernel_rfl) (C := #[.slice none 0 0, .slice none 0 0, .slice none 0 0, .slice none 0 0]) rfl hs1 (fun b5 w2 hs2 => ?_)
 refine Tj ?_
 refine Ad ?_
 refine Sq ?_
 refine Rg [0, 1, 2, 3, 4, 5, 6, 7] ?_
 refine V 9 9 (Bb (x := .tmp 0) (v := .string ⟨x0.toArray⟩) rfl) ?_
 refine V 10 103 (DI (fn := .func 79) (first := #[]) (cap := #[.tmp 5]) (fl := []) (cl := [.pointer (some ⟨b5, 0, none⟩)]) rfl rfl) ?_
 obtain ⟨X, hX⟩ : ∃ X : Own, X = [(some b2, .cells #[.slice none 0 0, .slice none 0 0, .slice none 0 0, .slice none 0 0] 26 (0, 0))] := ⟨_, rfl⟩
 refine Tl (dst := some 11) (ty := 88) (g := none) (by kernel_rfl) rfl (DR (f := .func 78) (aos := #[.tmp 9, .tmp 10]) (ats := #[9, 103]) (g := 78) (first := #[]) (cap := #[]) (args := [.string ⟨x0.toArray⟩, .func (.func 79) #[] #[.pointer (some ⟨b5, 0, none⟩)]]) rfl IP rfl)
  (Ka N hs2 x0 (g := 79) (cap := [.pointer (some ⟨b5, 0, none⟩)]) Kz (fun o F' L' => match o with
   | none => ∃ (e : BC) (a0 : TO) (n0 : Nat) (a1 : TO) (n1 : Nat) (a2 : TO) (n2 : Nat) (a3 : TO) (n3 : Nat), L' = (some b5, .cells #[.slice a0 e.Points.length n0, .slice a1 e.Multipliers.length n1, .slice a2 e.Penalties.length n2, .slice a3 e.Repeats.length n3] 26 (0, 0)) :: X /\ LC e.Points.length n0 /\ SlA Ay F' a0 e.Points /\ LC e.Multipliers.length n1 /\ SlA Ay F' a1 e.Multipliers /\ LC e.Penalties.length n2 /\ SlA Ay F' a2 e.Penalties /\ LC e.Repeats.length n3 /\ SlA As F' a3 e.Repeats /\ some (e, (0 : Int), (0 : Int)) = some r
   | some x => (bif x.e_ != 0 then some (Ft, x.e_, x.at_) else none) = some r /\ (L' = X \/ ∃ o, L' = (some b5, o) :: X)) ?_ ?_) ?_
 ·intro hc F'
  unfold C8 I4 at h
  rw [Oo hc] at h
  exact ⟨h, .inr ⟨_, by rw [hX]⟩⟩
 ·intro hc
  unfold C8 I4 at h
  rw [MY hc] at h
  obtain ⟨l, hl, h⟩ := bind_some h
  obtain ⟨q, hq, h⟩ := bind_some h
  refine ⟨l, hl, fun w3 F3 be_ ba_ bp a n le3 hb hsl hs3 => ?_⟩
  have hs4 : HS w0 F0 w3 F3 ((some bp, .cells #[.slice a l.length n, .int .i64 0] 100 (0, 0)) :: (some b5, .cells #[.slice none 0 0, .slice none 0 0, .slice none 0 0, .slice none 0 0] 26 (0, 0)) :: (none, .cells #[] 0 (0, 0)) :: (none, .cells #[] 0 (0, 0)) :: (none, .cells #[] 0 (0, 0)) :: (none, .cells #[] 0 (0, 0)) :: (some ba_, ba 0) :: (some be_, be 0) :: X) := by
   have h0 : HS w0 F0 w3 F3 ((some bp, .cells #[.slice a l.length n, .int .i64 0] 100 (0, 0)) :: (some b5, .cells #[.slice none 0 0, .slice none 0 0, .slice none 0 0, .slice none 0 0] 26 (0, 0)) :: (some ba_, ba 0) :: (some be_, be 0) :: X) := by
    rw [hX]; exact (hs3.pick (k := 3) rfl).pick (k := 1) rfl
   exact (((((h0.dummy (.cells #[] 0 (0, 0))).dummy (.cells #[] 0 (0, 0))).dummy (.cells #[] 0 (0, 0))).dummy (.cells #[] 0 (0, 0))).pick (k := 5) rfl).pick (k := 5) rfl
  refine (Lj N (hG.mono (hs3.le)) bp { l_ := l, open_ := 0 } a n hb hsl b5 Ft none 0 (none, .cells #[] 0 (0, 0)) none 0 (none, .cells #[] 0 (0, 0)) none 0 (none, .cells #[] 0 (0, 0)) none 0 (none, .cells #[] 0 (0, 0)) (TG _ _ _ _) (TG _ _ _ _) (TG _ _ _ _) (TG _ _ _ _) hs4 q hq).mono ?_
  rintro e w4 (⟨q1, F4, v, L', rfl, rfl, hs5, le5, aq, nq, a0, n0, e0, a1, n1, e1, a2, n2, e2, a3, n3, e3, rfl, rfl, h1, h2, r0, r1, r2, r3⟩ | ⟨x, F4, rfl, rfl, hs5, le5⟩)
  ·have hs6 := hs5.drop 0
   obtain ⟨G0, hg0, lg0, s0⟩ : ∃ Fq, HS w0 F0 w4 Fq ((some b5, .cells #[.slice a0 q1.2.Points.length n0, .slice a1 q1.2.Multipliers.length n1, .slice a2 q1.2.Penalties.length n2, .slice a3 q1.2.Repeats.length n3] 26 (0, 0)) :: e1 :: e2 :: e3 :: (some ba_, ba 0) :: (some be_, be 0) :: X) /\ Tn F4 Fq /\ SlA Ay Fq a0 q1.2.Points := HS.freezeRow hs6 (k := 1) rfl r0
   obtain ⟨G1, hg1, lg1, s1⟩ : ∃ Fq, HS w0 F0 w4 Fq ((some b5, .cells #[.slice a0 q1.2.Points.length n0, .slice a1 q1.2.Multipliers.length n1, .slice a2 q1.2.Penalties.length n2, .slice a3 q1.2.Repeats.length n3] 26 (0, 0)) :: e2 :: e3 :: (some ba_, ba 0) :: (some be_, be 0) :: X) /\ Tn G0 Fq /\ SlA Ay Fq a1 q1.2.Multipliers := HS.freezeRow hg0 (k := 1) rfl (r1.mono lg0)
   obtain ⟨G2, hg2, lg2, s2⟩ : ∃ Fq, HS w0 F0 w4 Fq ((some b5, .cells #[.slice a0 q1.2.Points.length n0, .slice a1 q1.2.Multipliers.length n1, .slice a2 q1.2.Penalties.length n2, .slice a3 q1.2.Repeats.length n3] 26 (0, 0)) :: e3 :: (some ba_, ba 0) :: (some be_, be 0) :: X) /\ Tn G1 Fq /\ SlA Ay Fq a2 q1.2.Penalties := HS.freezeRow hg1 (k := 1) rfl (r2.mono (lg0.trans lg1))
   obtain ⟨G3, hg3, lg3, s3⟩ : ∃ Fq, HS w0 F0 w4 Fq ((some b5, .cells #[.slice a0 q1.2.Points.length n0, .slice a1 q1.2.Multipliers.length n1, .slice a2 q1.2.Penalties.length n2, .slice a3 q1.2.Repeats.length n3] 26 (0, 0)) :: (some ba_, ba 0) :: (some be_, be 0) :: X) /\ Tn G2 Fq /\ SlA As Fq a3 q1.2.Repeats := HS.freezeRow hg2 (k := 1) rfl (r3.mono ((lg0.trans lg1).trans lg2))
   exact .inl ⟨_, G3, _, rfl, (hg3.pick (k := 2) rfl).pick (k := 2) rfl, (((le5.trans lg0).trans lg1).trans lg2).trans lg3, q1.2, a0, n0, a1, n1, a2, n2, a3, n3, rfl, r0.bound, s0.mono ((lg1.trans lg2).trans lg3), r1.bound, s1.mono (lg2.trans lg3), r2.bound, s2.mono lg3, r3.bound, s3, h⟩
  ·exact .inr ⟨x, F4, _, rfl, hs5, le5, h, .inl rfl⟩
 ·rintro e w5 ⟨o, F5, L5, rfl, hs5, le5, hK⟩
  cases o with
  | none =>
   obtain ⟨e, a0, n0, a1, n1, a2, n2, a3, n3, rfl, hb0, hl0, hb1, hl1, hb2, hl2, hb3, hl3, hr⟩ := hK
   simp only
   refine V 8 88 (Bb (x := .tmp 11) (v := .tuple #[.int .i64 0, .int .i64 0]) rfl) ?_
   refine V 12 27 (Ch (x := .tmp 8) (vs := #[.int .i64 0, .int .i64 0]) (i := 0) (v := .int .i64 0) rfl rfl) ?_
   refine V 13 3 (Ch (x := .tmp 8) (vs := #[.int .i64 0, .int .i64 0]) (i := 1) (v := .int .i64 0) rfl rfl) ?_
   refine V 6 27 (AM (x := .tmp 12) (v := .int .i64 0) rfl) ?_
   refine V 7 3 (AM (x := .tmp 13) (v := .int .i64 0) rfl) ?_
   refine Tj ?_
   refine Ad ?_
   refine Sq ?_
   refine Sq ?_
   refine Rg [0, 1] ?_
   refine V 14 27 (Bb (x := .tmp 6) (v := .int .i64 0) rfl) ?_
   refine V 15 4 (Ib (t := 27) (t' := 27) (x := .tmp 14) (y := .const (.int .i64 0)) (k := .i64) (a := 0) (b := 0) rfl rfl) ?_
   refine Tj ?_
   refine Ad ?_
   refine CWP.cond0 (t := false) (by kernel_rfl) rfl rfl ?_
   refine CWP.skip (by kernel_rfl) ?_
   refine Ad ?_
   refine Sq ?_
   refine Rg [0, 1, 2, 3] ?_
   refine V 19 26 (Bh (t := 26) (x := .tmp 5) (b := b5) (o := 0) (g := true) (s := 4) (C := #[.slice a0 e.Points.length n0, .slice a1 e.Multipliers.length n1, .slice a2 e.Penalties.length n2, .slice a3 e.Repeats.length n3]) (v := .agg #[.slice a0 e.Points.length n0, .slice a1 e.Multipliers.length n1, .slice a2 e.Penalties.length n2, .slice a3 e.Repeats.length n3]) rfl (by kernel_rfl) (hs5.ownAt (k := 0) rfl) rfl rfl rfl) ?_
   subst hX
   refine Tw (ty := 0) (g := none) (by kernel_rfl) rfl (x := .tmp 2) (y := .tmp 19) (t := 26) (gg := true) (s := 4) (v := .agg #[.slice a0 e.Points.length n0, .slice a1 e.Multipliers.length n1, .slice a2 e.Penalties.length n2, .slice a3 e.Repeats.length n3]) (b := b2) (o := 0) (C := #[.slice none 0 0, .slice none 0 0, .slice none 0 0, .slice none 0 0]) rfl rfl (by kernel_rfl) hs5 (k := 1) rfl rfl rfl rfl (C' := #[.slice a0 e.Points.length n0, .slice a1 e.Multipliers.length n1, .slice a2 e.Penalties.length n2, .slice a3 e.Repeats.length n3]) rfl (fun w6 hs6 => ?_)
   refine V 3 27 (AM (x := .const (.int .i64 0)) (v := .int .i64 0) rfl) ?_
   refine V 4 3 (AM (x := .const (.int .i64 0)) (v := .int .i64 0) rfl) ?_
   refine Tj ?_
   refine Ad ?_
   refine CWP.ret (by kernel_rfl) ?_
   obtain rfl := Ab hr
   exact ⟨rfl, _, AE (l := [.cell 2 26, .tmp 3, .tmp 4]) (by kernel_rfl) (vs := [.agg #[.slice a0 e.Points.length n0, .slice a1 e.Multipliers.length n1, .slice a2 e.Penalties.length n2, .slice a3 e.Repeats.length n3], .int .i64 0, .int .i64 0]) ⟨b2, 0, rfl, Am (t := 26) (g := true) (s := 4) (by kernel_rfl) (hs6.ownAt (k := 1) rfl) rfl (by decide), rfl, rfl, trivial⟩, _, F5, rfl, hs6.clear, a0, n0, a1, n1, a2, n2, a3, n3, rfl, hb0, hl0, hb1, hl1, hb2, hl2, hb3, hl3⟩
  | some x =>
   obtain ⟨hr, hL⟩ := hK
   have hs6 : HS w0 F0 w5 F5 X := by
    rcases hL with rfl | ⟨o, rfl⟩
    ·exact hs5
    ·exact hs5.drop 0
   clear hs5 hL
   cases hne : x.e_ != 0 with
   | false => rw [hne] at hr; cases hr
   | true =>
    rw [hne] at hr
    obtain rfl := Ab hr
    simp only
    refine V 8 88 (Bb (x := .tmp 11) (v := .tuple #[.int .i64 x.e_, .int .i64 x.at_]) rfl) ?_
    refine V 12 27 (Ch (x := .tmp 8) (vs := #[.int .i64 x.e_, .int .i64 x.at_]) (i := 0) (v := .int .i64 x.e_) rfl rfl) ?_
    refine V 13 3 (Ch (x := .tmp 8) (vs := #[.int .i64 x.e_, .int .i64 x.at_]) (i := 1) (v := .int .i64 x.at_) rfl rfl) ?_
    refine V 6 27 (AM (x := .tmp 12) (v := .int .i64 x.e_) rfl) ?_
    refine V 7 3 (AM (x := .tmp 13) (v := .int .i64 x.at_) rfl) ?_
    refine Tj ?_
    refine Ad ?_
    refine Sq ?_
    refine Sq ?_
    refine Rg [0, 1] ?_
    refine V 14 27 (Bb (x := .tmp 6) (v := .int .i64 x.e_) rfl) ?_
    refine V 15 4 (Ib (t := 27) (t' := 27) (x := .tmp 14) (y := .const (.int .i64 0)) (k := .i64) (a := x.e_) (b := 0) rfl rfl) ?_
    refine Tj ?_
    refine Ad ?_
    refine CWP.cond1 (t := x.e_ != 0) (by kernel_rfl) rfl hne ?_
    refine Sq ?_
    refine Rg [0, 1, 2, 3, 4, 5] ?_
    refine V 16 26 (GN (t := 26) (parts := #[]) (vs := []) rfl (cs := [.slice none 0 0, .slice none 0 0, .slice none 0 0, .slice none 0 0]) (by kernel_rfl)) ?_
    refine V 17 27 (Bb (x := .tmp 6) (v := .int .i64 x.e_) rfl) ?_
    refine V 18 3 (Bb (x := .tmp 7) (v := .int .i64 x.at_) rfl) ?_
    subst hX
    refine Tw (ty := 0) (g := none) (by kernel_rfl) rfl (x := .tmp 2) (y := .tmp 16) (t := 26) (gg := true) (s := 4) (v := .agg #[.slice none 0 0, .slice none 0 0, .slice none 0 0, .slice none 0 0]) (b := b2) (o := 0) (C := #[.slice none 0 0, .slice none 0 0, .slice none 0 0, .slice none 0 0]) rfl rfl (by kernel_rfl) hs6 (k := 0) rfl rfl rfl rfl (C' := #[.slice none 0 0, .slice none 0 0, .slice none 0 0, .slice none 0 0]) rfl (fun w7 hs7 => ?_)
    refine V 3 27 (AM (x := .tmp 17) (v := .int .i64 x.e_) rfl) ?_
    refine V 4 3 (AM (x := .tmp 18) (v := .int .i64 x.at_) rfl) ?_
    refine Tj ?_
    refine Ad ?_
    refine CWP.ret (by kernel_rfl) ?_
    refine Aj ?_
    exact ⟨rfl, _, AE (l := [.cell 2 26, .tmp 3, .tmp 4]) (by kernel_rfl) (vs := [.agg #[.slice none 0 0, .slice none 0 0, .slice none 0 0, .slice none 0 0], .int .i64 x.e_, .int .i64 x.at_]) ⟨b2, 0, rfl, Am (t := 26) (g := true) (s := 4) (by kernel_rfl) (hs7.ownAt (k := 0) rfl) rfl (by decide), rfl, rfl, trivial⟩, _, F5, rfl, hs7.clear, none, 0, none, 0, none, 0, none, 0, rfl, Tr, .inl rfl, Tr, .inl rfl, Tr, .inl rfl, Tr, .inl rfl⟩
def Jz (N : Nat)  : Option Bool :=
 ((De N ([49, 32, 43, 32, 50, 32, 42, 32, 51, 32, 61, 32, 55, 32, 97, 110, 100, 32, 110, 111, 116, 32, 98, 97, 110, 100, 32, 60, 32, 50] : TN)).bind fun r21 => ((G4 N r21.1).bind fun r34 => ((C8 N ([112, 111, 105, 110, 116, 115, 58, 32, 98, 97, 110, 100, 32, 61, 32, 49, 32, 61, 62, 32, 50] : TN)).bind fun r42 => ((C8 N ([112, 111, 105, 110, 116, 115, 58, 32, 98, 97, 110, 100, 32, 61, 62, 32, 50] : TN)).bind fun r55 => ((mk0 0 14).bind fun r68 => ((idx r68 0).bind fun x78 => ((Js N r42.1 (r68.set (0 : Int).toNat 1)).bind fun r97 => ((De N ([105, 102, 40, 98, 97, 110, 100, 32, 61, 32, 98, 97, 110, 100, 44, 32, 48, 32, 43, 32, 122, 111, 110, 101, 44, 32, 55, 41] : TN)).bind fun r105 => ((Hk N r105.1).bind fun r118 => (bif ((r21.2.1 != 0) || ((r34.2 != 0) || ((r42.2.1 != 0) || ((r55.2.1 != 61) || ((r97.2 != 0) || ((r105.2.1 != 0) || ((r118.2 != 0) || (r55.2.2 != 8)))))))) then some false else some ((r21.1.Op == 4) && ((r34.1 == ([49, 32, 43, 32, 50, 32, 42, 32, 51, 32, 61, 32, 55, 32, 97, 110, 100, 32, 110, 111, 116, 32, 98, 97, 110, 100, 32, 60, 32, 50] : TN)) && ((r97.1 == 2) && ((r118.1.Op == 2) && (r118.1.Value == 7)))))))))))))))
theorem La : Au Tryz.prog 21 := fun _ _ => by kernel_rfl
theorem Mg (N : Nat) (w0 : World) (F0 : Mem) (hF : TP w0 F0) (hG : Dy F0)  (r : Bool) (h : Jz N  = some r) :
  Calls Tryz.prog 21 ([] : List Value).toArray w0 (Bd w0 F0 fun F' v => v = (.bool r)) := by
 have hs0 := Tp hF
 refine Go 110 Tryz.func21 ?_
 refine Sq (Rg [0] ?_)
 refine Vs 1 ?_
 refine Nss (Rg [0, 1, 2, 3, 4, 5, 6, 7, 8] ?_)
 obtain ⟨r21, hr22, h23⟩ := bind_some h
 refine Cl' FK hs0 (Gf N w0 F0 hs0.pers hG (([49, 32, 43, 32, 50, 32, 42, 32, 51, 32, 61, 32, 55, 32, 97, 110, 100, 32, 110, 111, 116, 32, 98, 97, 110, 100, 32, 60, 32, 50] : TN)) _ hr22) ?_
 rintro _ F1 w25 hs26 le27 ⟨ar21_0_2, nr21_0_2, rfl, hbr21_0_2, hsr21_0_2⟩
 refine Vs 4 ?_
 refine Al' 33 #[(vi 0), (vi 0), (.slice none ([] : List Expr).length 0)] hs26 (fun b29 w30 hs31 => ?_)
 refine St0 (Ai r21.1 ar21_0_2 nr21_0_2) hs31 (fun w32 hs33 => ?_)
 refine Vs 2 ?_
 refine Nss (Rg [0, 1, 2, 3, 4, 5, 6] ?_)
 refine Ld hs33.at0 ?_
 obtain ⟨r34, hr35, h36⟩ := bind_some h23
 refine Cl' Ja hs33 (Kb N w32 F1 hs33.pers (hG.mono le27) r21.1 ar21_0_2 nr21_0_2 hbr21_0_2 hsr21_0_2 _ hr35) ?_
 rintro _ F2 w38 hs39 le40 rfl
 refine Vs 5 ?_
 refine Nss (Rg [0, 1, 2, 3, 4, 5, 6, 7, 8] ?_)
 obtain ⟨r42, hr43, h44⟩ := bind_some h36
 refine Cl' FL hs39 (Gt N w38 F2 hs39.pers (hG.mono (le27.trans le40)) (([112, 111, 105, 110, 116, 115, 58, 32, 98, 97, 110, 100, 32, 61, 32, 49, 32, 61, 62, 32, 50] : TN)) _ hr43) ?_
 rintro _ F3 w46 hs47 le48 ⟨ar42_0_0, nr42_0_0, ar42_0_1, nr42_0_1, ar42_0_2, nr42_0_2, ar42_0_3, nr42_0_3, rfl, hbr42_0_0, hsr42_0_0, hbr42_0_1, hsr42_0_1, hbr42_0_2, hsr42_0_2, hbr42_0_3, hsr42_0_3⟩
 refine Vs 4 ?_
 refine Al' 26 #[(.slice none ([] : List Clause).length 0), (.slice none ([] : List Clause).length 0), (.slice none ([] : List Clause).length 0), (.slice none ([] : List Expr).length 0)] hs47 (fun b50 w51 hs52 => ?_)
 refine St0 (AU r42.1 ar42_0_0 nr42_0_0 ar42_0_1 nr42_0_1 ar42_0_2 nr42_0_2 ar42_0_3 nr42_0_3) hs52 (fun w53 hs54 => ?_)
 refine Vs 2 ?_
 refine Nss (Rg [0, 1, 2, 3, 4, 5, 6, 7, 8] ?_)
 obtain ⟨r55, hr56, h57⟩ := bind_some h44
 refine Cl' FL hs54 (Gt N w53 F3 hs54.pers (hG.mono ((le27.trans le40).trans le48)) (([112, 111, 105, 110, 116, 115, 58, 32, 98, 97, 110, 100, 32, 61, 62, 32, 50] : TN)) _ hr56) ?_
 rintro _ F4 w59 hs60 le61 ⟨ar55_0_0, nr55_0_0, ar55_0_1, nr55_0_1, ar55_0_2, nr55_0_2, ar55_0_3, nr55_0_3, rfl, hbr55_0_0, hsr55_0_0, hbr55_0_1, hsr55_0_1, hbr55_0_2, hsr55_0_2, hbr55_0_3, hsr55_0_3⟩
 refine Vs 4 ?_
 refine Al' 26 #[(.slice none ([] : List Clause).length 0), (.slice none ([] : List Clause).length 0), (.slice none ([] : List Clause).length 0), (.slice none ([] : List Expr).length 0)] hs60 (fun b63 w64 hs65 => ?_)
 refine St0 (AU r55.1 ar55_0_0 nr55_0_0 ar55_0_1 nr55_0_1 ar55_0_2 nr55_0_2 ar55_0_3 nr55_0_3) hs65 (fun w66 hs67 => ?_)
 refine Vs 2 ?_
 refine Nss (Rg [0, 1] ?_)
 obtain ⟨r68, hm69, h70⟩ := bind_some h57
 refine RWP.makeSlice (dst := (some 40)) (ty := 47) (g := none) (by kernel_rfl) rfl (x := (.const (vi 14))) (y := (.const (vi 14))) (t := 47) (by_ := 8) (z := (vi 0)) (T := Do) (E := 3) rfl rfl (by kernel_rfl) (by decide) (by kernel_rfl) (z0 := 0) (fun _ => rfl) (by decide) hs67 hm69 (fun b71 n72 C73 w74 (hs75 : HS w0 F0 w74 F4 [(some b71, .cells C73 3 (0, 0)), (sb b63 (AU r55.1 ar55_0_0 nr55_0_0 ar55_0_1 nr55_0_1 ar55_0_2 nr55_0_2 ar55_0_3 nr55_0_3) 26), (sb b50 (AU r42.1 ar42_0_0 nr42_0_0 ar42_0_1 nr42_0_1 ar42_0_2 nr42_0_2 ar42_0_3 nr42_0_3) 26), (sb b29 (Ai r21.1 ar21_0_2 nr21_0_2) 33)]) hr76 => ?_)
 refine Vs 1 ?_
 refine Nss (Rg [0, 1, 2] ?_)
 refine Vs 1 ?_
 obtain ⟨x78, hx79, h81⟩ := bind_some h70
 obtain ⟨hi80, hx79'⟩ := Az hx79
 obtain ⟨b82, C83, ha84, he85, hE86⟩ := Av.open hr76 hx79'
 cases ha84
 cases he85
 have hc88 := hE86 _ _ hx79'
 refine Ix0 hi80 ?_
 refine RWP.storeRow (ty := 0) (g := none) (by kernel_rfl) rfl (x := (.tmp 42)) (y := (.const (vi 1))) (t := 3) (v := (vi 1)) (gg := false) (b := b71) (j := (0 : Int).toNat) (C := C73) (T := Do) (E := 3) (u := 1) rfl rfl (by kernel_rfl) hs75 (k := 0) rfl hr76 hx79' rfl rfl (fun C89 w90 (hs91 : HS w0 F0 w90 F4 [(some b71, .cells C89 3 (0, 0)), (sb b63 (AU r55.1 ar55_0_0 nr55_0_0 ar55_0_1 nr55_0_1 ar55_0_2 nr55_0_2 ar55_0_3 nr55_0_3) 26), (sb b50 (AU r42.1 ar42_0_0 nr42_0_0 ar42_0_1 nr42_0_1 ar42_0_2 nr42_0_2 ar42_0_3 nr42_0_3) 26), (sb b29 (Ai r21.1 ar21_0_2 nr21_0_2) 33)]) hr92 => ?_)
 refine Nss (Rg [0, 1, 2, 3, 4, 5, 6, 7] ?_)
 refine Ld hs91.at2 ?_
 refine V 45 47 (mv 12 (.slice (some ⟨b71, 0, none⟩) (r68.set (0 : Int).toNat 1).length n72) (Jy rfl)) ?_
 have hb96 := TF hr92
 obtain ⟨F5, hs93, le94, hs95⟩ := hs91.fr0 hr92
 obtain ⟨r97, hr98, h99⟩ := bind_some h81
 refine Cl' K6 hs93 (Mc N w90 F5 hs93.pers r42.1 ar42_0_0 nr42_0_0 hbr42_0_0 (Tq hsr42_0_0 (le61.trans le94)) ar42_0_1 nr42_0_1 hbr42_0_1 (Tq hsr42_0_1 (le61.trans le94)) ar42_0_2 nr42_0_2 hbr42_0_2 (Tq hsr42_0_2 (le61.trans le94)) ar42_0_3 nr42_0_3 hbr42_0_3 (Tq hsr42_0_3 (le61.trans le94)) ((r68.set (0 : Int).toNat 1)) (some ⟨b71, 0, none⟩) n72 hb96 hs95 _ hr98) ?_
 rintro _ F6 w101 hs102 le103 rfl
 refine Vs 5 ?_
 refine Nss (Rg [0, 1, 2, 3, 4, 5, 6, 7, 8] ?_)
 obtain ⟨r105, hr106, h107⟩ := bind_some h99
 refine Cl' FK hs102 (Gf N w101 F6 hs102.pers (hG.mono (((((le27.trans le40).trans le48).trans le61).trans le94).trans le103)) (([105, 102, 40, 98, 97, 110, 100, 32, 61, 32, 98, 97, 110, 100, 44, 32, 48, 32, 43, 32, 122, 111, 110, 101, 44, 32, 55, 41] : TN)) _ hr106) ?_
 rintro _ F7 w109 hs110 le111 ⟨ar105_0_2, nr105_0_2, rfl, hbr105_0_2, hsr105_0_2⟩
 refine Vs 4 ?_
 refine Al' 33 #[(vi 0), (vi 0), (.slice none ([] : List Expr).length 0)] hs110 (fun b113 w114 hs115 => ?_)
 refine St0 (Ai r105.1 ar105_0_2 nr105_0_2) hs115 (fun w116 hs117 => ?_)
 refine Vs 2 ?_
 refine Nss (Rg [0, 1, 2, 3, 4, 5, 6, 7] ?_)
 refine Ld hs117.at0 ?_
 obtain ⟨r118, hr119, h120⟩ := bind_some h107
 refine Cl' J7 hs117 (KE N w116 F7 hs117.pers r105.1 ar105_0_2 nr105_0_2 hbr105_0_2 hsr105_0_2 _ hr119) ?_
 rintro _ F8 w122 hs123 le124 ⟨ar118_0_2, nr118_0_2, rfl, hbr118_0_2, hsr118_0_2⟩
 refine Vs 3 ?_
 refine Al' 33 #[(vi 0), (vi 0), (.slice none ([] : List Expr).length 0)] hs123 (fun b126 w127 hs128 => ?_)
 refine St0 (Ai r118.1 ar118_0_2 nr118_0_2) hs128 (fun w129 hs130 => ?_)
 refine Vs 1 ?_
 refine Nss ?_
 refine Sq (Rg [0, 1, 2, 3, 4, 5, 6, 7, 8, 9, 10, 11, 12, 13, 14, 15, 16, 17, 18, 19, 20, 21, 22, 23, 24, 25, 26, 27, 28, 29] ?_)
 refine Tt (fun f w => ∃ (F9 : Mem), HS w0 F0 w F9 [(sb b126 (Ai r118.1 ar118_0_2 nr118_0_2) 33), (sb b29 (Ai r21.1 ar21_0_2 nr21_0_2) 33)] /\ Tn F8 F9 /\ FI f [] [(1, (pt b29 0)), (4, (.string ⟨(r34.1).toArray⟩)), (13, (vi r97.1)), (18, (pt b126 0)), (88, (.bool ((r21.2.1 != 0) || ((r34.2 != 0) || ((r42.2.1 != 0) || ((r55.2.1 != 61) || ((r97.2 != 0) || ((r105.2.1 != 0) || ((r118.2 != 0) || (r55.2.2 != 8))))))))))]) ?_ ?_
 ·refine Vs 3 ?_
  refine Ts (r21.2.1 != 0) (fun hb140 => ?_) (fun hb140 => ?_)
  ·refine Ss hb140 2 ?_
   refine Pk1 hb140 ?_
   refine Vs 1 ?_
   refine Ss (rfl : true = true) 2 ?_
   refine Pk1 (rfl : true = true) ?_
   refine Vs 1 ?_
   refine Ss (rfl : true = true) 2 ?_
   refine Pk1 (rfl : true = true) ?_
   refine Vs 1 ?_
   refine Ss (rfl : true = true) 2 ?_
   refine Pk1 (rfl : true = true) ?_
   refine Vs 1 ?_
   refine Ss (rfl : true = true) 2 ?_
   refine Pk1 (rfl : true = true) ?_
   refine Vs 1 ?_
   refine Ss (rfl : true = true) 2 ?_
   refine Pk1 (rfl : true = true) ?_
   refine Vs 1 ?_
   refine Ss (rfl : true = true) 2 ?_
   refine Pk1 (rfl : true = true) ?_
   exact Tj ⟨rfl, F8, hs130.dr1.dr1.dr1, (To _), (fJ ⟨rfl, rfl, rfl, rfl, (congrArg Value.bool (Fk hb140 rfl)), trivial⟩)⟩
  ·refine Vgs hb140 2 ?_
   refine Pk0 hb140 ?_
   refine Vs 1 ?_
   refine Ts (r34.2 != 0) (fun hb141 => ?_) (fun hb141 => ?_)
   ·refine Ss hb141 2 ?_
    refine Pk1 hb141 ?_
    refine Vs 1 ?_
    refine Ss (rfl : true = true) 2 ?_
    refine Pk1 (rfl : true = true) ?_
    refine Vs 1 ?_
    refine Ss (rfl : true = true) 2 ?_
    refine Pk1 (rfl : true = true) ?_
    refine Vs 1 ?_
    refine Ss (rfl : true = true) 2 ?_
    refine Pk1 (rfl : true = true) ?_
    refine Vs 1 ?_
    refine Ss (rfl : true = true) 2 ?_
    refine Pk1 (rfl : true = true) ?_
    refine Vs 1 ?_
    refine Ss (rfl : true = true) 2 ?_
    refine Pk1 (rfl : true = true) ?_
    exact Tj ⟨rfl, F8, hs130.dr1.dr1.dr1, (To _), (fJ ⟨rfl, rfl, rfl, rfl, (congrArg Value.bool (B7 hb140 (Fk hb141 rfl))), trivial⟩)⟩
   ·refine Vgs hb141 2 ?_
    refine Pk0 hb141 ?_
    refine Vs 1 ?_
    refine Ts (r42.2.1 != 0) (fun hb142 => ?_) (fun hb142 => ?_)
    ·refine Ss hb142 2 ?_
     refine Pk1 hb142 ?_
     refine Vs 1 ?_
     refine Ss (rfl : true = true) 2 ?_
     refine Pk1 (rfl : true = true) ?_
     refine Vs 1 ?_
     refine Ss (rfl : true = true) 2 ?_
     refine Pk1 (rfl : true = true) ?_
     refine Vs 1 ?_
     refine Ss (rfl : true = true) 2 ?_
     refine Pk1 (rfl : true = true) ?_
     refine Vs 1 ?_
     refine Ss (rfl : true = true) 2 ?_
     refine Pk1 (rfl : true = true) ?_
     exact Tj ⟨rfl, F8, hs130.dr1.dr1.dr1, (To _), (fJ ⟨rfl, rfl, rfl, rfl, (congrArg Value.bool (B7 hb140 (B7 hb141 (Fk hb142 rfl)))), trivial⟩)⟩
    ·refine Vgs hb142 2 ?_
     refine Pk0 hb142 ?_
     refine Vs 1 ?_
     refine Ts (r55.2.1 != 61) (fun hb143 => ?_) (fun hb143 => ?_)
     ·refine Ss hb143 2 ?_
      refine Pk1 hb143 ?_
      refine Vs 1 ?_
      refine Ss (rfl : true = true) 2 ?_
      refine Pk1 (rfl : true = true) ?_
      refine Vs 1 ?_
      refine Ss (rfl : true = true) 2 ?_
      refine Pk1 (rfl : true = true) ?_
      refine Vs 1 ?_
      refine Ss (rfl : true = true) 2 ?_
      refine Pk1 (rfl : true = true) ?_
      exact Tj ⟨rfl, F8, hs130.dr1.dr1.dr1, (To _), (fJ ⟨rfl, rfl, rfl, rfl, (congrArg Value.bool (B7 hb140 (B7 hb141 (B7 hb142 (Fk hb143 rfl))))), trivial⟩)⟩
     ·refine Vgs hb143 2 ?_
      refine Pk0 hb143 ?_
      refine Vs 1 ?_
      refine Ts (r97.2 != 0) (fun hb144 => ?_) (fun hb144 => ?_)
      ·refine Ss hb144 2 ?_
       refine Pk1 hb144 ?_
       refine Vs 1 ?_
       refine Ss (rfl : true = true) 2 ?_
       refine Pk1 (rfl : true = true) ?_
       refine Vs 1 ?_
       refine Ss (rfl : true = true) 2 ?_
       refine Pk1 (rfl : true = true) ?_
       exact Tj ⟨rfl, F8, hs130.dr1.dr1.dr1, (To _), (fJ ⟨rfl, rfl, rfl, rfl, (congrArg Value.bool (B7 hb140 (B7 hb141 (B7 hb142 (B7 hb143 (Fk hb144 rfl)))))), trivial⟩)⟩
      ·refine Vgs hb144 2 ?_
       refine Pk0 hb144 ?_
       refine Vs 1 ?_
       refine Ts (r105.2.1 != 0) (fun hb145 => ?_) (fun hb145 => ?_)
       ·refine Ss hb145 2 ?_
        refine Pk1 hb145 ?_
        refine Vs 1 ?_
        refine Ss (rfl : true = true) 2 ?_
        refine Pk1 (rfl : true = true) ?_
        exact Tj ⟨rfl, F8, hs130.dr1.dr1.dr1, (To _), (fJ ⟨rfl, rfl, rfl, rfl, (congrArg Value.bool (B7 hb140 (B7 hb141 (B7 hb142 (B7 hb143 (B7 hb144 (Fk hb145 rfl))))))), trivial⟩)⟩
       ·refine Vgs hb145 2 ?_
        refine Pk0 hb145 ?_
        refine Vs 1 ?_
        refine Ts (r118.2 != 0) (fun hb146 => ?_) (fun hb146 => ?_)
        ·refine Ss hb146 2 ?_
         refine Pk1 hb146 ?_
         exact Tj ⟨rfl, F8, hs130.dr1.dr1.dr1, (To _), (fJ ⟨rfl, rfl, rfl, rfl, (congrArg Value.bool (B7 hb140 (B7 hb141 (B7 hb142 (B7 hb143 (B7 hb144 (B7 hb145 (Fk hb146 rfl)))))))), trivial⟩)⟩
        ·refine Vgs hb146 2 ?_
         refine Pk0 hb146 ?_
         exact Tj ⟨rfl, F8, hs130.dr1.dr1.dr1, (To _), (fJ ⟨rfl, rfl, rfl, rfl, (congrArg Value.bool (B7 hb140 (B7 hb141 (B7 hb142 (B7 hb143 (B7 hb144 (B7 hb145 (B7 hb146 rfl)))))))), trivial⟩)⟩
 ·rintro f w131 ⟨F9, hs132, le133, ⟨_, rfl⟩⟩
  refine Ad ?_
  refine Cd h120 (fun hb147 h148 => ?_) (fun hb147 h149 => ?_)
  ·refine Sq (Rg [0] ?_)
   refine Vs 1 ?_
   refine Nt ?_
   refine Rt ?_
   refine Aj ?_
   obtain rfl := Ab h148
   exact Re [(.bool false)] hs132 rfl
  ·refine Sc ?_
   refine Ad ?_
   refine Sq (Rg [0, 1, 2, 3, 4, 5, 6, 7, 8, 9, 10, 11, 12, 13, 14, 15, 16, 17, 18, 19, 20, 21] ?_)
   refine Tt (fun f w => ∃ (F10 : Mem), HS w0 F0 w F10 [] /\ Tn F9 F10 /\ FI f [] [(0, (.bool ((r21.1.Op == 4) && ((r34.1 == ([49, 32, 43, 32, 50, 32, 42, 32, 51, 32, 61, 32, 55, 32, 97, 110, 100, 32, 110, 111, 116, 32, 98, 97, 110, 100, 32, 60, 32, 50] : TN)) && ((r97.1 == 2) && ((r118.1.Op == 2) && (r118.1.Value == 7)))))))]) ?_ ?_
   ·refine Vs 1 ?_
    refine Ld hs132.at1 ?_
    refine Vs 2 ?_
    refine Ts (r21.1.Op == 4) (fun hb155 => ?_) (fun hb155 => ?_)
    ·refine Vgs hb155 2 ?_
     refine Pk1 hb155 ?_
     refine Vs 1 ?_
     refine Ts (r34.1 == ([49, 32, 43, 32, 50, 32, 42, 32, 51, 32, 61, 32, 55, 32, 97, 110, 100, 32, 110, 111, 116, 32, 98, 97, 110, 100, 32, 60, 32, 50] : TN)) (fun hb156 => ?_) (fun hb156 => ?_)
     ·refine Vgs hb156 2 ?_
      refine Pk1 hb156 ?_
      refine Vs 1 ?_
      refine Ts (r97.1 == 2) (fun hb157 => ?_) (fun hb157 => ?_)
      ·refine Vgs hb157 1 ?_
       refine Lg hb157 hs132.at0 ?_
       refine Vgs hb157 1 ?_
       refine Pk1 hb157 ?_
       refine Vs 1 ?_
       refine Ts (r118.1.Op == 2) (fun hb158 => ?_) (fun hb158 => ?_)
       ·refine Vgs hb158 1 ?_
        refine Lg hb158 hs132.at0 ?_
        refine Vgs hb158 1 ?_
        refine Pk1 hb158 ?_
        refine Vs 1 ?_
        exact Tj ⟨rfl, F9, hs132.dr0.dr0, (To _), (fJ ⟨(congrArg Value.bool (Cz hb155 (Cz hb156 (Cz hb157 (Cz hb158 rfl))))), trivial⟩)⟩
       ·refine Ss hb158 3 ?_
        refine Pk0 hb158 ?_
        refine Vs 1 ?_
        exact Tj ⟨rfl, F9, hs132.dr0.dr0, (To _), (fJ ⟨(congrArg Value.bool (Cz hb155 (Cz hb156 (Cz hb157 (Dw hb158 rfl))))), trivial⟩)⟩
      ·refine Ss hb157 3 ?_
       refine Pk0 hb157 ?_
       refine Vs 1 ?_
       refine Ss (rfl : false = false) 3 ?_
       refine Pk0 (rfl : false = false) ?_
       refine Vs 1 ?_
       exact Tj ⟨rfl, F9, hs132.dr0.dr0, (To _), (fJ ⟨(congrArg Value.bool (Cz hb155 (Cz hb156 (Dw hb157 rfl)))), trivial⟩)⟩
     ·refine Ss hb156 2 ?_
      refine Pk0 hb156 ?_
      refine Vs 1 ?_
      refine Ss (rfl : false = false) 3 ?_
      refine Pk0 (rfl : false = false) ?_
      refine Vs 1 ?_
      refine Ss (rfl : false = false) 3 ?_
      refine Pk0 (rfl : false = false) ?_
      refine Vs 1 ?_
      exact Tj ⟨rfl, F9, hs132.dr0.dr0, (To _), (fJ ⟨(congrArg Value.bool (Cz hb155 (Dw hb156 rfl))), trivial⟩)⟩
    ·refine Ss hb155 2 ?_
     refine Pk0 hb155 ?_
     refine Vs 1 ?_
     refine Ss (rfl : false = false) 2 ?_
     refine Pk0 (rfl : false = false) ?_
     refine Vs 1 ?_
     refine Ss (rfl : false = false) 3 ?_
     refine Pk0 (rfl : false = false) ?_
     refine Vs 1 ?_
     refine Ss (rfl : false = false) 3 ?_
     refine Pk0 (rfl : false = false) ?_
     refine Vs 1 ?_
     exact Tj ⟨rfl, F9, hs132.dr0.dr0, (To _), (fJ ⟨(congrArg Value.bool (Dw hb155 rfl)), trivial⟩)⟩
   ·rintro f w150 ⟨F10, hs151, le152, ⟨_, rfl⟩⟩
    refine Ad ?_
    refine Rt ?_
    obtain rfl := Ab h149
    exact Re [(.bool ((r21.1.Op == 4) && ((r34.1 == ([49, 32, 43, 32, 50, 32, 42, 32, 51, 32, 61, 32, 55, 32, 97, 110, 100, 32, 110, 111, 116, 32, 98, 97, 110, 100, 32, 60, 32, 50] : TN)) && ((r97.1 == 2) && ((r118.1.Op == 2) && (r118.1.Value == 7))))))] hs151 rfl
set_option maxRecDepth 100000 in
theorem Qb : Jz 9223372036854775808 = some true := by kernel_rfl
def Hr (_N : Nat) : Option Bool := some true
theorem L6 : Au Tryz.prog 21 := La
theorem MC (N : Nat) (w0 : World) (F0 : Mem) (hF : TP w0 F0) (hG : Dy F0) (r : Bool) (h : Hr N = some r) :
  Calls Tryz.prog 21 ([] : List Value).toArray w0 (Bd w0 F0 fun F' v => v = (.bool r)) := by
 cases h
 exact Mg 9223372036854775808 w0 F0 hF hG true Qb

section
variable {N n : Nat} {Lr : List An} {Lf : List Af} (T : IB n Lr Lf)
include T
theorem PW (hN : 10 * n + 1000 <= N) {i : Nat} {o : Int} (hi : i < n) (h0 : 0 <= o) (h32 : o <= 32) : ∃ p r, D6 N (PS Lr i o) = some p /\ Bn N (RS Lf i o) = some r /\ Out n Lr Lf i o p r :=
 (Pw T (N := N) (by omega) N).1 i o hi h0 h32 (by omega)
theorem Ps {i : Nat} {a : An} {b : Af} (hi : i < n) (ha : Lr[i]? = some a) (hb : Lf[i]? = some b) : (a.kind_ != 0) = (b.Kind != 5) := by
 obtain ⟨a', b', h1, h2, _, _, h5, _⟩ := T.hd hi
 rw [h1] at ha; rw [h2] at hb
 cases ha; cases hb
 rcases h5 with ⟨h, _⟩ | ⟨h, _⟩
 ·rcases h.k with ⟨k1, k2, _⟩ | ⟨k1, k2, _⟩ | ⟨k1, k2, _⟩ | ⟨k1, k2, _⟩ | ⟨k1, k2⟩ <;> rw [k1, k2] <;> rfl
 ·rw [h.a0, h.b5]; rfl
omit T in
theorem SS {d : Nat} {x : Expr} (hx : Ht 10 d x) (hN : 2 * d + 1000 <= N) : Fit N x := ⟨d, hx.wide (by omega), by omega⟩
theorem OY {i : Nat} {o : Int} {x : Expr} {q : Ac} (hf : Fit N x) (at_ t : Int) :
  (dp x > 32 /\ AK N q ⟨x, at_⟩ t = some (.inl ⟨2, at_⟩) /\ AX N (RS Lf i o) x at_ t = some (RB Lf i o 2 at_)) \/
  (dp x <= 32 /\ (kd x = 0 \/ (t ≠ 0 /\ kd x ≠ t)) /\ AK N q ⟨x, at_⟩ t = some (.inl ⟨61, at_⟩) /\ AX N (RS Lf i o) x at_ t = some (RB Lf i o 61 at_)) \/
  (dp x <= 32 /\ kd x ≠ 0 /\ (t ≠ 0 -> kd x = t) /\ AK N q ⟨x, at_⟩ t = some (.inr ()) /\ AX N (RS Lf i o) x at_ t = some (RS Lf i o)) := by
 unfold AK AX
 simp only
 rw [Qm hf, Rb hf, Ql hf, R4 hf, show ((RS Lf i o).Bad != 0) = false from rfl]
 simp only [cond_false, Option.bind_some]
 by_cases hd : dp x > 32
 ·left
  rw [decide_eq_true hd]
  exact ⟨hd, rfl, rfl⟩
 ·right
  rw [decide_eq_false hd]
  simp only [cond_false]
  by_cases hk : kd x = 0 \/ (t ≠ 0 /\ kd x ≠ t)
  ·left
   have e : ((kd x == 0) || ((t != 0) && (kd x != t))) = true := by
    rcases hk with h | ⟨h1, h2⟩
    ·simp [h]
    ·simp [h1, h2]
   rw [e]
   exact ⟨by omega, hk, rfl, rfl⟩
  ·right
   have hk1 : kd x ≠ 0 := fun h => hk (.inl h)
   have hk2 : t ≠ 0 -> kd x = t := fun h => Classical.byContradiction fun h' => hk (.inr ⟨h, h'⟩)
   have e : ((kd x == 0) || ((t != 0) && (kd x != t))) = false := by
    by_cases ht : t = 0
    ·simp [hk1, ht]
    ·simp [hk1, hk2 ht]; intro h; exact absurd h ht
   rw [e]
   exact ⟨by omega, hk1, hk2, rfl, rfl⟩
theorem Eo {i : Nat} {o e w : Int} (he : e ≠ 0) (x : Expr) (at_ t : Int) : AX N (RB Lf i o e w) x at_ t = some (RB Lf i o e w) := by
 unfold AX
 rw [show ((RB Lf i o e w).Bad != 0) = true by show (e != 0) = true; simpa using he]; rfl
theorem Kh {i : Nat} {o e w : Int} (he : e ≠ 0) (a b : Int) : A2 N (RB Lf i o e w) a b = some (RB Lf i o e w) := by
 unfold A2
 rw [show ((RB Lf i o e w).Bad == 0) = false by show (e == 0) = false; simpa using he]; rfl
end
def Bt (N : Nat) (x0 : Aa) : Option Aa :=
 (((idx x0.L x0.At).bind fun x32 => some x32.Kind).bind fun j26 => ((bif ((j26 != 4) && (j26 != 5)) then (((idx x0.L x0.At).bind fun x72 => ((A2 N x0 60 x72.At).bind fun r86 => some (r86.L, r86.At, r86.Open, r86.Bad, r86.Where))).bind fun j68 => some (j68.1, j68.2.1, j68.2.2.1, j68.2.2.2.1, j68.2.2.2.2)) else some (x0.L, x0.At, x0.Open, x0.Bad, x0.Where)).bind fun j56 => some ({ L := j56.1, At := j56.2.1, Open := j56.2.2.1, Bad := j56.2.2.2.1, Where := j56.2.2.2.2 } : Aa)))
theorem Em : Au Tryz.prog 144 := fun _ _ => by kernel_rfl
theorem EX (N : Nat) {wb w0 : World} {Fb F0 : Mem} {Lf : Own} (bp0 : Nat) (x0 : Aa) (a0_0 : TO) (n0_0 : Nat) (hb0_0 : LC x0.L.length n0_0) (hs0_0 : SlA Ag F0 a0_0 x0.L) (hs0 : HS wb Fb w0 F0 ((sb bp0 (Ae x0 a0_0 n0_0) 108) :: Lf)) (r : Aa) (h : Bt N x0 = some r) :
  Calls Tryz.prog 144 ([(pt bp0 0)] : List Value).toArray w0 (D4 wb Fb F0 fun F' v L' => ∃ (aq0_0 : TO) (nq0_0 : Nat), v = (.tuple #[]) /\ L' = (sb bp0 (Ae r aq0_0 nq0_0) 108) :: Lf /\ LC r.L.length nq0_0 /\ SlA Ag F' aq0_0 r.L) := by
 refine Go 33 Tryz.func144 ?_
 refine Sq ?_
 obtain ⟨j26, hj30, h31⟩ := bind_some h
 refine RD 12 12 [(sb bp0 (Ae x0 a0_0 n0_0) 108)] [] hs0 (fun f w => ∃ (F1 : Mem), HS wb Fb w F1 ((sb bp0 (Ae x0 a0_0 n0_0) 108) :: Lf) /\ Tn F0 F1 /\ FI f [] [(0, (pt bp0 0)), (2, (vi j26))]) (fun wd21 hw22 => ?_) ?_
 ·refine Dv [0, 1, 2] ?_
  refine Dl 3 (fun _ hq => (hq.1.2 0 _ _ rfl)) ?_
  refine Dv [4, 5, 6] ?_
  refine Dl 7 (fun _ hq => (hq.1.2 0 _ _ rfl)) ?_
  obtain ⟨x32, hx33, h35⟩ := bind_some hj30
  obtain ⟨hi34, hx33'⟩ := Az hx33
  obtain ⟨b36, o37, C38, E39, fz40, rfl, hF42, hE43⟩ := Tx hs0_0 hx33'
  have hc45 := hE43 _ _ hx33'
  refine Di 8 hi34 ?_
  refine Dv [9] ?_
  refine Dx 10 0 (fun _ hq => hq.1.1 _ _ hF42) hc45 ?_
  refine Dv [11] ?_
  obtain rfl := Ab h35
  exact TE (by kernel_rfl) ⟨F0, hw22, (To _), fI⟩
 ·rintro f w23 ⟨F1, hs24, le25, ⟨_, rfl⟩⟩
  refine Ad ?_
  refine Sq (Rg [0, 1, 2, 3, 4, 5] ?_)
  refine Tt (fun f w => ∃ (F2 : Mem), HS wb Fb w F2 ((sb bp0 (Ae x0 a0_0 n0_0) 108) :: Lf) /\ Tn F1 F2 /\ FI f [] [(0, (pt bp0 0)), (19, (.bool ((j26 != 4) && (j26 != 5))))]) ?_ ?_
  ·refine Vs 3 ?_
   refine Ts (j26 != 4) (fun hb52 => ?_) (fun hb52 => ?_)
   ·refine Vgs hb52 2 ?_
    refine Pk1 hb52 ?_
    exact Tj ⟨rfl, F1, hs24, (To _), (fJ ⟨rfl, (congrArg Value.bool (Cz hb52 rfl)), trivial⟩)⟩
   ·refine Ss hb52 2 ?_
    refine Pk0 hb52 ?_
    exact Tj ⟨rfl, F1, hs24, (To _), (fJ ⟨rfl, (congrArg Value.bool (Dw hb52 rfl)), trivial⟩)⟩
  ·rintro f w46 ⟨F2, hs47, le48, ⟨_, rfl⟩⟩
   refine Ad ?_
   obtain ⟨j56, hj58, h59⟩ := bind_some h31
   refine Tu (fun f w => ∃ (F3 : Mem) (aj56_0 : TO) (nj56_0 : Nat), HS wb Fb w F3 ((sb bp0 #[(.slice aj56_0 j56.1.length nj56_0), (vi j56.2.1), (vi j56.2.2.1), (vi j56.2.2.2.1), (vi j56.2.2.2.2)] 108) :: Lf) /\ Tn F2 F3 /\ FI f [] [] /\ LC j56.1.length nj56_0 /\ SlA Ag F3 aj56_0 j56.1) ?_ ?_
   ·refine Cd hj58 (fun hb60 h61 => ?_) (fun hb60 h62 => ?_)
    ·obtain ⟨j68, hj70, h71⟩ := bind_some h61
     refine RD 13 13 [] [] hs47 (fun f w => ∃ (F4 : Mem) (aj68_0 : TO) (nj68_0 : Nat), HS wb Fb w F4 ((sb bp0 #[(.slice aj68_0 j68.1.length nj68_0), (vi j68.2.1), (vi j68.2.2.1), (vi j68.2.2.2.1), (vi j68.2.2.2.2)] 108) :: Lf) /\ Tn F2 F4 /\ FI f [] [] /\ LC j68.1.length nj68_0 /\ SlA Ag F4 aj68_0 j68.1) (fun wd63 hw64 => ?_) ?_
     ·refine Dv [0, 1, 2, 3, 5, 6, 7] ?_
      refine TB (i := 4) (j := 8) (by kernel_rfl) ?_ ?_
      ·refine TC (l' := [true, true, true, true, true, true, true, true, false, false, false, false, false]) (zd := true) (by kernel_rfl) (by kernel_rfl) (dst := (some 24)) (ty := 105) (g := none) (by kernel_rfl) rfl (Bh (t := 105) (x := (.tmp 23)) (b := bp0) (o := 0) (g := false) (s := 1) (C := (Ae x0 a0_0 n0_0)) (v := (.slice a0_0 x0.L.length n0_0)) rfl (by kernel_rfl) hw64.at0 rfl rfl rfl) (Bg hw64 (To _) (by simp) (fun e => by cases e)) ?_
       refine D1 8 ?_
       refine TC (l' := [true, true, true, true, true, true, true, true, true, false, false, false, false]) (zd := true) (by kernel_rfl) (by kernel_rfl) (dst := (some 28)) (ty := 3) (g := none) (by kernel_rfl) rfl (Bh (t := 3) (x := (.tmp 27)) (b := bp0) (o := 1) (g := false) (s := 1) (C := (Ae x0 a0_0 n0_0)) (v := (vi x0.At)) rfl (by kernel_rfl) hw64.at0 rfl rfl rfl) (Bg hw64 (To _) (by simp) (fun e => by cases e)) ?_
       obtain ⟨x72, hx73, h75⟩ := bind_some hj70
       obtain ⟨hi74, hx73'⟩ := Az hx73
       obtain ⟨b76, o77, C78, E79, fz80, rfl, hF82, hE83⟩ := Tx (Tq hs0_0 (le25.trans le48)) hx73'
       have hc85 := hE83 _ _ hx73'
       refine Di 9 hi74 ?_
       refine Dv [10] ?_
       refine Dx 11 1 (fun _ hq => hq.1.1 _ _ hF82) hc85 ?_
       refine D1 12 ?_
       obtain ⟨r86, hr87, h88⟩ := bind_some h75
       refine DCB A6 (Bc N bp0 x0 (some ⟨b76, o77, none⟩) n0_0 hb0_0 (Tq hs0_0 (le25.trans le48)) 60 x72.At hw64 _ hr87) ?_
       rintro _ F5 w89 _ hs90 le91 ⟨ar86_0_0, nr86_0_0, rfl, rfl, hbr86_0_0, hsr86_0_0⟩
       refine ⟨Bg hs90 le91 (by simp) (zdT (by kernel_rfl)), ?_⟩
       obtain rfl := Ab h88
       exact TE (by kernel_rfl) ⟨F5, ar86_0_0, nr86_0_0, hs90, le91, fI, hbr86_0_0, hsr86_0_0⟩
      ·refine TC (l' := [true, true, true, true, false, true, true, true, true, false, false, false, false]) (zd := true) (by kernel_rfl) (by kernel_rfl) (dst := (some 28)) (ty := 3) (g := none) (by kernel_rfl) rfl (Bh (t := 3) (x := (.tmp 27)) (b := bp0) (o := 1) (g := false) (s := 1) (C := (Ae x0 a0_0 n0_0)) (v := (vi x0.At)) rfl (by kernel_rfl) hw64.at0 rfl rfl rfl) (Bg hw64 (To _) (by simp) (fun e => by cases e)) ?_
       refine D1 4 ?_
       refine TC (l' := [true, true, true, true, true, true, true, true, true, false, false, false, false]) (zd := true) (by kernel_rfl) (by kernel_rfl) (dst := (some 24)) (ty := 105) (g := none) (by kernel_rfl) rfl (Bh (t := 105) (x := (.tmp 23)) (b := bp0) (o := 0) (g := false) (s := 1) (C := (Ae x0 a0_0 n0_0)) (v := (.slice a0_0 x0.L.length n0_0)) rfl (by kernel_rfl) hw64.at0 rfl rfl rfl) (Bg hw64 (To _) (by simp) (fun e => by cases e)) ?_
       obtain ⟨x93, hx94, h96⟩ := bind_some hj70
       obtain ⟨hi95, hx94'⟩ := Az hx94
       obtain ⟨b97, o98, C99, E100, fz101, rfl, hF103, hE104⟩ := Tx (Tq hs0_0 (le25.trans le48)) hx94'
       have hc106 := hE104 _ _ hx94'
       refine Di 9 hi95 ?_
       refine Dv [10] ?_
       refine Dx 11 1 (fun _ hq => hq.1.1 _ _ hF103) hc106 ?_
       refine D1 12 ?_
       obtain ⟨r107, hr108, h109⟩ := bind_some h96
       refine DCB A6 (Bc N bp0 x0 (some ⟨b97, o98, none⟩) n0_0 hb0_0 (Tq hs0_0 (le25.trans le48)) 60 x93.At hw64 _ hr108) ?_
       rintro _ F6 w110 _ hs111 le112 ⟨ar107_0_0, nr107_0_0, rfl, rfl, hbr107_0_0, hsr107_0_0⟩
       refine ⟨Bg hs111 le112 (by simp) (zdT (by kernel_rfl)), ?_⟩
       obtain rfl := Ab h109
       exact TE (by kernel_rfl) ⟨F6, ar107_0_0, nr107_0_0, hs111, le112, fI, hbr107_0_0, hsr107_0_0⟩
     ·rintro f w65 ⟨F4, aj68_0, nj68_0, hs66, le67, ⟨_, rfl⟩, hbj68_0, hsj68_0⟩
      obtain rfl := Ab h71
      exact .inl ⟨rfl, F4, aj68_0, nj68_0, hs66, le67, fI, hbj68_0, hsj68_0⟩
    ·refine Sc ?_
     obtain rfl := Ab h62
     exact .inl ⟨rfl, F2, a0_0, n0_0, hs47, (To _), fI, hb0_0, (Tq hs0_0 (le25.trans le48))⟩
   ·rintro f w53 ⟨F3, aj56_0, nj56_0, hs54, le55, ⟨_, rfl⟩, hbj56_0, hsj56_0⟩
    obtain rfl := Ab h59
    exact ReB [] hs54 ((le25.trans le48).trans le55) ⟨aj56_0, nj56_0, rfl, rfl, hbj56_0, hsj56_0⟩
def CN (N : Nat) (x0 : Aa) (x1 : BC) : Option (Aa × BC) :=
 (((idx x0.L x0.At).bind fun x34 => some (x34.Kind, x34.At, x34.Text)).bind fun j27 => (((AH N x0 ([112, 111, 105, 110, 116, 115] : TN)).bind fun r65 => (bif (!r65) then ((AH N x0 ([109, 117, 108, 116, 105, 112, 108, 105, 101, 114] : TN)).bind fun r75 => (bif (!r75) then ((AH N x0 ([112, 101, 110, 97, 108, 116, 121] : TN)).bind fun r85 => (bif (!r85) then ((AH N x0 ([114, 101, 112, 101, 97, 116] : TN)).bind fun r95 => some (!r95)) else some false)) else some false)) else some false)).bind fun j56 => (bif j56 then ((A2 N x0 60 j27.2.1).bind fun r110 => some (r110, x1)) else ((AD N ({ L := x0.L, At := (W64 (x0.At + 1)), Open := x0.Open, Bad := x0.Bad, Where := x0.Where } : Aa) ([58] : TN)).bind fun r120 => (((idx r120.L r120.At).bind fun x140 => some x140.At).bind fun j132 => ((Bn N r120).bind fun r154 => (bif (j27.2.2 == ([114, 101, 112, 101, 97, 116] : TN)) then ((Bt N r154.1).bind fun r170 => ((bif ((x1.Repeats.length : Int) == 64) then ((A2 N r170 2 j27.2.1).bind fun r191 => some (r191.L, r191.At, r191.Open, r191.Bad, r191.Where)) else some (r170.L, r170.At, r170.Open, r170.Bad, r170.Where)).bind fun j180 => ((AX N ({ L := j180.1, At := j180.2.1, Open := j180.2.2.1, Bad := j180.2.2.2.1, Where := j180.2.2.2.2 } : Aa) r154.2 j132 1).bind fun r198 => (((CU x1.Repeats [({ Op := 0, Value := 0, Kids := ([] : List Expr) } : Expr)]).bind fun r219 => ((idx r219 (x1.Repeats.length : Int)).bind fun x228 => some (r219.set ((x1.Repeats.length : Int) : Int).toNat r154.2))).bind fun j210 => some (r198, ({ Points := x1.Points, Multipliers := x1.Multipliers, Penalties := x1.Penalties, Repeats := j210 } : BC)))))) else ((AD N r154.1 ([61, 62] : TN)).bind fun r293 => (((idx r293.L r293.At).bind fun x315 => some x315.At).bind fun j305 => ((Bn N r293).bind fun r329 => ((Bt N r329.1).bind fun r349 => ((bif (bif (j27.2.2 == ([112, 111, 105, 110, 116, 115] : TN)) then (((x1.Points.length : Int) == 64) || (bif (j27.2.2 == ([109, 117, 108, 116, 105, 112, 108, 105, 101, 114] : TN)) then (((x1.Multipliers.length : Int) == 64) || ((j27.2.2 == ([112, 101, 110, 97, 108, 116, 121] : TN)) && ((x1.Penalties.length : Int) == 64))) else ((j27.2.2 == ([112, 101, 110, 97, 108, 116, 121] : TN)) && ((x1.Penalties.length : Int) == 64)))) else (bif (j27.2.2 == ([109, 117, 108, 116, 105, 112, 108, 105, 101, 114] : TN)) then (((x1.Multipliers.length : Int) == 64) || ((j27.2.2 == ([112, 101, 110, 97, 108, 116, 121] : TN)) && ((x1.Penalties.length : Int) == 64))) else ((j27.2.2 == ([112, 101, 110, 97, 108, 116, 121] : TN)) && ((x1.Penalties.length : Int) == 64)))) then ((A2 N r349 2 j27.2.1).bind fun r395 => some (r395.L, r395.At, r395.Open, r395.Bad, r395.Where)) else some (r349.L, r349.At, r349.Open, r349.Bad, r349.Where)).bind fun j381 => ((AX N ({ L := j381.1, At := j381.2.1, Open := j381.2.2.1, Bad := j381.2.2.2.1, Where := j381.2.2.2.2 } : Aa) r154.2 j132 2).bind fun r402 => ((AX N r402 r329.2 j305 1).bind fun r409 => ((bif (j27.2.2 == ([112, 111, 105, 110, 116, 115] : TN)) then (((CU x1.Points [({ When := r154.2, Then := r329.2 } : Clause)]).bind fun r445 => some r445).bind fun j436 => some (j436, x1.Multipliers, x1.Penalties)) else ((bif (j27.2.2 == ([109, 117, 108, 116, 105, 112, 108, 105, 101, 114] : TN)) then (((CU x1.Multipliers [({ When := r154.2, Then := r329.2 } : Clause)]).bind fun r481 => some r481).bind fun j472 => some (j472, x1.Penalties)) else ((bif (j27.2.2 == ([112, 101, 110, 97, 108, 116, 121] : TN)) then (((CU x1.Penalties [({ When := r154.2, Then := r329.2 } : Clause)]).bind fun r517 => some r517).bind fun j508 => some j508) else some x1.Penalties).bind fun j496 => some (x1.Multipliers, j496))).bind fun j460 => some (x1.Points, j460.1, j460.2))).bind fun j424 => some (r409, ({ Points := j424.1, Multipliers := j424.2.1, Penalties := j424.2.2, Repeats := x1.Repeats } : BC)))))))))))))))))
theorem HJ : Au Tryz.prog 83 := fun _ _ => by kernel_rfl
theorem Iu (N : Nat) {wb w0 : World} {Fb F0 : Mem} {Lf : Own} (bp0 : Nat) (x0 : Aa) (a0_0 : TO) (n0_0 : Nat) (hb0_0 : LC x0.L.length n0_0) (hs0_0 : SlA Ag F0 a0_0 x0.L) (bp1 : Nat) (x1 : BC) (a1_0 : TO) (n1_0 : Nat) (e1_0 : Option Nat × Obj) (a1_1 : TO) (n1_1 : Nat) (e1_1 : Option Nat × Obj) (a1_2 : TO) (n1_2 : Nat) (e1_2 : Option Nat × Obj) (a1_3 : TO) (n1_3 : Nat) (e1_3 : Option Nat × Obj) (hr1_0 : Av Ay 56 F0 a1_0 n1_0 x1.Points e1_0) (hr1_1 : Av Ay 56 F0 a1_1 n1_1 x1.Multipliers e1_1) (hr1_2 : Av Ay 56 F0 a1_2 n1_2 x1.Penalties e1_2) (hr1_3 : Av As 33 F0 a1_3 n1_3 x1.Repeats e1_3) (hs0 : HS wb Fb w0 F0 ((sb bp0 (Ae x0 a0_0 n0_0) 108) :: (sb bp1 (AU x1 a1_0 n1_0 a1_1 n1_1 a1_2 n1_2 a1_3 n1_3) 26) :: e1_0 :: e1_1 :: e1_2 :: e1_3 :: Lf)) (r : (Aa × BC)) (h : CN N x0 x1 = some r) :
  Calls Tryz.prog 83 ([(pt bp0 0), (pt bp1 0)] : List Value).toArray w0 (D4 wb Fb F0 fun F' v L' => ∃ (aq0_0 : TO) (nq0_0 : Nat) (aq1_0 : TO) (nq1_0 : Nat) (eq1_0 : Option Nat × Obj) (aq1_1 : TO) (nq1_1 : Nat) (eq1_1 : Option Nat × Obj) (aq1_2 : TO) (nq1_2 : Nat) (eq1_2 : Option Nat × Obj) (aq1_3 : TO) (nq1_3 : Nat) (eq1_3 : Option Nat × Obj), v = (.tuple #[]) /\ L' = (sb bp0 (Ae r.1 aq0_0 nq0_0) 108) :: (sb bp1 (AU r.2 aq1_0 nq1_0 aq1_1 nq1_1 aq1_2 nq1_2 aq1_3 nq1_3) 26) :: eq1_0 :: eq1_1 :: eq1_2 :: eq1_3 :: Lf /\ LC r.1.L.length nq0_0 /\ SlA Ag F' aq0_0 r.1.L /\ Av Ay 56 F' aq1_0 nq1_0 r.2.Points eq1_0 /\ Av Ay 56 F' aq1_1 nq1_1 r.2.Multipliers eq1_1 /\ Av Ay 56 F' aq1_2 nq1_2 r.2.Penalties eq1_2 /\ Av As 33 F' aq1_3 nq1_3 r.2.Repeats eq1_3) := by
 refine Go 203 Tryz.func83 ?_
 refine Sq ?_
 obtain ⟨j27, hj32, h33⟩ := bind_some h
 refine RD 11 12 [(sb bp0 (Ae x0 a0_0 n0_0) 108), (sb bp1 (AU x1 a1_0 n1_0 a1_1 n1_1 a1_2 n1_2 a1_3 n1_3) 26), e1_0, e1_1, e1_2, e1_3] [] hs0 (fun f w => ∃ (F1 : Mem) (b26 : Nat), HS wb Fb w F1 ((sb b26 #[(vi j27.1), (vi j27.2.1), (.string ⟨(j27.2.2).toArray⟩)] 110) :: (sb bp0 (Ae x0 a0_0 n0_0) 108) :: (sb bp1 (AU x1 a1_0 n1_0 a1_1 n1_1 a1_2 n1_2 a1_3 n1_3) 26) :: e1_0 :: e1_1 :: e1_2 :: e1_3 :: Lf) /\ Tn F0 F1 /\ FI f [] [(0, (pt bp0 0)), (1, (pt bp1 0)), (4, (pt b26 0))]) (fun wd21 hw22 => ?_) ?_
 ·refine Dv [0, 1, 2] ?_
  refine Dl 3 (fun _ hq => (hq.1.2 0 _ _ rfl)) ?_
  refine Dv [4, 5, 6] ?_
  refine Dl 7 (fun _ hq => (hq.1.2 0 _ _ rfl)) ?_
  obtain ⟨x34, hx35, h37⟩ := bind_some hj32
  obtain ⟨hi36, hx35'⟩ := Az hx35
  obtain ⟨b38, o39, C40, E41, fz42, rfl, hF44, hE45⟩ := Tx hs0_0 hx35'
  have hc47 := hE45 _ _ hx35'
  refine Di 8 hi36 ?_
  refine Dx 9 0 (fun _ hq => hq.1.1 _ _ hF44) hc47 ?_
  refine D1 10 ?_
  refine DAl 110 #[(vi 0), (vi 0), (.string ⟨(([] : TN)).toArray⟩)] hw22 (To _) (fun b48 w49 hs50 => ?_)
  refine D1 11 ?_
  refine SC (D2 x34) hs50 (To _) (fun w51 hs52 => ?_)
  obtain rfl := Ab h37
  exact TE (by kernel_rfl) ⟨F0, b48, hs52, (To _), fI⟩
 ·rintro f w23 ⟨F1, b26, hs24, le25, ⟨_, rfl⟩⟩
  refine Ad ?_
  refine Sq ?_
  refine Sq (Rg [0, 1, 2, 3, 4, 5, 6, 7, 8, 9, 10, 11, 12, 13, 14, 15, 16, 17] ?_)
  obtain ⟨j56, hj62, h63⟩ := bind_some h33
  refine Tt (fun f w => ∃ (F2 : Mem), HS wb Fb w F2 ((sb b26 #[(vi j27.1), (vi j27.2.1), (.string ⟨(j27.2.2).toArray⟩)] 110) :: (sb bp0 (Ae x0 a0_0 n0_0) 108) :: (sb bp1 (AU x1 a1_0 n1_0 a1_1 n1_1 a1_2 n1_2 a1_3 n1_3) 26) :: e1_0 :: e1_1 :: e1_2 :: e1_3 :: Lf) /\ Tn F1 F2 /\ FI f [] [(0, (pt bp0 0)), (1, (pt bp1 0)), (4, (pt b26 0)), (38, (.bool j56))]) ?_ ?_
  ·refine Vs 1 ?_
   have hs64 := hs24.pk6.pk6.pk6.pk6.pk6.pk5
   obtain ⟨r65, hr66, h67⟩ := bind_some hj62
   refine CB AJ (AN N bp0 x0 a0_0 n0_0 hb0_0 (Tq hs0_0 le25) (([112, 111, 105, 110, 116, 115] : TN)) hs64.pk6 _ hr66) ?_
   rintro _ F3 w68 _ hs69 le70 ⟨rfl, rfl⟩
   refine Vs 2 ?_
   refine Sp h67 (fun hb72 h73 => ?_) (fun hb72 h74 => ?_)
   ·refine Vgs hb72 1 ?_
    obtain ⟨r75, hr76, h77⟩ := bind_some h73
    refine TK (dst := (some 26)) (ty := 4) (g := (some (3, true))) (by kernel_rfl) (FG (d := 24) (by kernel_rfl) rfl hb72) (f0 := (.func 142)) (aos := #[(.tmp 25), (.const (.string ⟨([109, 117, 108, 116, 105, 112, 108, 105, 101, 114] : TN).toArray⟩))]) (ats := #[104, 9]) (fid := 142) (first := #[]) (cap := #[]) (args := [(pt bp0 0), (.string ⟨(([109, 117, 108, 116, 105, 112, 108, 105, 101, 114] : TN)).toArray⟩)]) rfl AJ rfl (AN N bp0 x0 a0_0 n0_0 hb0_0 (Tq hs0_0 (le25.trans le70)) (([109, 117, 108, 116, 105, 112, 108, 105, 101, 114] : TN)) hs69 _ hr76) ?_
    rintro _ F4 w78 _ hs79 le80 ⟨rfl, rfl⟩
    refine Vgs hb72 1 ?_
    refine Pk1 hb72 ?_
    refine Vs 1 ?_
    refine Sp h77 (fun hb82 h83 => ?_) (fun hb82 h84 => ?_)
    ·refine Vgs hb82 1 ?_
     obtain ⟨r85, hr86, h87⟩ := bind_some h83
     refine TK (dst := (some 31)) (ty := 4) (g := (some (8, true))) (by kernel_rfl) (FG (d := 29) (by kernel_rfl) rfl hb82) (f0 := (.func 142)) (aos := #[(.tmp 30), (.const (.string ⟨([112, 101, 110, 97, 108, 116, 121] : TN).toArray⟩))]) (ats := #[104, 9]) (fid := 142) (first := #[]) (cap := #[]) (args := [(pt bp0 0), (.string ⟨(([112, 101, 110, 97, 108, 116, 121] : TN)).toArray⟩)]) rfl AJ rfl (AN N bp0 x0 a0_0 n0_0 hb0_0 (Tq hs0_0 ((le25.trans le70).trans le80)) (([112, 101, 110, 97, 108, 116, 121] : TN)) hs79 _ hr86) ?_
     rintro _ F5 w88 _ hs89 le90 ⟨rfl, rfl⟩
     refine Vgs hb82 1 ?_
     refine Pk1 hb82 ?_
     refine Vs 1 ?_
     refine Sp h87 (fun hb92 h93 => ?_) (fun hb92 h94 => ?_)
     ·refine Vgs hb92 1 ?_
      obtain ⟨r95, hr96, h97⟩ := bind_some h93
      refine TK (dst := (some 36)) (ty := 4) (g := (some (13, true))) (by kernel_rfl) (FG (d := 34) (by kernel_rfl) rfl hb92) (f0 := (.func 142)) (aos := #[(.tmp 35), (.const (.string ⟨([114, 101, 112, 101, 97, 116] : TN).toArray⟩))]) (ats := #[104, 9]) (fid := 142) (first := #[]) (cap := #[]) (args := [(pt bp0 0), (.string ⟨(([114, 101, 112, 101, 97, 116] : TN)).toArray⟩)]) rfl AJ rfl (AN N bp0 x0 a0_0 n0_0 hb0_0 (Tq hs0_0 (((le25.trans le70).trans le80).trans le90)) (([114, 101, 112, 101, 97, 116] : TN)) hs89 _ hr96) ?_
      rintro _ F6 w98 _ hs99 le100 ⟨rfl, rfl⟩
      refine Vgs hb92 1 ?_
      refine Pk1 hb92 ?_
      obtain rfl := Ab h97
      have hs102 := hs99.pk6.pk6.pk6.pk6.pk6.pk5
      exact Tj ⟨rfl, F6, hs102.pk6, (((le70.trans le80).trans le90).trans le100), fI⟩
     ·refine Ss hb92 3 ?_
      refine Pk0 hb92 ?_
      obtain rfl := Ab h94
      have hs103 := hs89.pk6.pk6.pk6.pk6.pk6.pk5
      exact Tj ⟨rfl, F5, hs103.pk6, ((le70.trans le80).trans le90), fI⟩
    ·refine Ss hb82 3 ?_
     refine Pk0 hb82 ?_
     refine Vs 1 ?_
     refine Ss (rfl : false = false) 3 ?_
     refine Pk0 (rfl : false = false) ?_
     obtain rfl := Ab h84
     have hs104 := hs79.pk6.pk6.pk6.pk6.pk6.pk5
     exact Tj ⟨rfl, F4, hs104.pk6, (le70.trans le80), fI⟩
   ·refine Ss hb72 3 ?_
    refine Pk0 hb72 ?_
    refine Vs 1 ?_
    refine Ss (rfl : false = false) 3 ?_
    refine Pk0 (rfl : false = false) ?_
    refine Vs 1 ?_
    refine Ss (rfl : false = false) 3 ?_
    refine Pk0 (rfl : false = false) ?_
    obtain rfl := Ab h74
    have hs105 := hs69.pk6.pk6.pk6.pk6.pk6.pk5
    exact Tj ⟨rfl, F3, hs105.pk6, le70, fI⟩
  ·rintro f w53 ⟨F2, hs54, le55, ⟨_, rfl⟩⟩
   refine Ad ?_
   refine Cd h63 (fun hb106 h107 => ?_) (fun hb106 h108 => ?_)
   ·refine Sq (Rg [0, 1, 2, 3] ?_)
    refine Vs 2 ?_
    refine Ld hs54.at0 ?_
    have hs109 := hs54.pk6.pk6.pk6.pk6.pk6.pk5
    obtain ⟨r110, hr111, h112⟩ := bind_some h107
    refine CB A6 (Bc N bp0 x0 a0_0 n0_0 hb0_0 (Tq hs0_0 (le25.trans le55)) 60 j27.2.1 hs109.pk6 _ hr111) ?_
    rintro _ F7 w113 _ hs114 le115 ⟨ar110_0_0, nr110_0_0, rfl, rfl, hbr110_0_0, hsr110_0_0⟩
    refine Nt ?_
    refine Rt ?_
    refine Aj ?_
    obtain rfl := Ab h112
    exact ReB [] hs114.dr1 ((le25.trans le55).trans le115) ⟨ar110_0_0, nr110_0_0, a1_0, n1_0, e1_0, a1_1, n1_1, e1_1, a1_2, n1_2, e1_2, a1_3, n1_3, e1_3, rfl, rfl, hbr110_0_0, hsr110_0_0, (hr1_0.mono ((le25.trans le55).trans le115)), (hr1_1.mono ((le25.trans le55).trans le115)), (hr1_2.mono ((le25.trans le55).trans le115)), (hr1_3.mono ((le25.trans le55).trans le115))⟩
   ·refine Sc ?_
    refine Ad ?_
    refine Sq (Rg [0, 1, 2, 3, 4, 5, 6, 7] ?_)
    refine Vs 3 ?_
    refine Ld hs54.at1 ?_
    refine Vs 3 ?_
    refine St1 #[(.slice a0_0 x0.L.length n0_0), (vi (W64 (x0.At + 1))), (vi x0.Open), (vi x0.Bad), (vi x0.Where)] hs54 (fun w117 hs118 => ?_)
    refine Nss (Rg [0, 1] ?_)
    refine Vs 1 ?_
    have hs119 := hs118.pk6.pk6.pk6.pk6.pk6
    obtain ⟨r120, hr121, h122⟩ := bind_some h108
    refine CB BK (BO N bp0 (({ L := x0.L, At := (W64 (x0.At + 1)), Open := x0.Open, Bad := x0.Bad, Where := x0.Where } : Aa)) a0_0 n0_0 hb0_0 (Tq hs0_0 (le25.trans le55)) (([58] : TN)) hs119.pk5.pk6 _ hr121) ?_
    rintro _ F8 w123 _ hs124 le125 ⟨ar120_0_0, nr120_0_0, rfl, rfl, hbr120_0_0, hsr120_0_0⟩
    refine Nss ?_
    obtain ⟨j132, hj138, h139⟩ := bind_some h122
    refine RD 12 12 [(sb bp0 (Ae r120 ar120_0_0 nr120_0_0) 108), (sb b26 #[(vi j27.1), (vi j27.2.1), (.string ⟨(j27.2.2).toArray⟩)] 110), (sb bp1 (AU x1 a1_0 n1_0 a1_1 n1_1 a1_2 n1_2 a1_3 n1_3) 26), e1_0, e1_1, e1_2, e1_3] [] hs124 (fun f w => ∃ (F9 : Mem), HS wb Fb w F9 ((sb bp0 (Ae r120 ar120_0_0 nr120_0_0) 108) :: (sb b26 #[(vi j27.1), (vi j27.2.1), (.string ⟨(j27.2.2).toArray⟩)] 110) :: (sb bp1 (AU x1 a1_0 n1_0 a1_1 n1_1 a1_2 n1_2 a1_3 n1_3) 26) :: e1_0 :: e1_1 :: e1_2 :: e1_3 :: Lf) /\ Tn F8 F9 /\ FI f [] [(0, (pt bp0 0)), (1, (pt bp1 0)), (4, (pt b26 0)), (5, (vi j132))]) (fun wd127 hw128 => ?_) ?_
    ·refine Dv [0, 1, 2] ?_
     refine Dl 3 (fun _ hq => (hq.1.2 0 _ _ rfl)) ?_
     refine Dv [4, 5, 6] ?_
     refine Dl 7 (fun _ hq => (hq.1.2 0 _ _ rfl)) ?_
     obtain ⟨x140, hx141, h143⟩ := bind_some hj138
     obtain ⟨hi142, hx141'⟩ := Az hx141
     obtain ⟨b144, o145, C146, E147, fz148, rfl, hF150, hE151⟩ := Tx hsr120_0_0 hx141'
     have hc153 := hE151 _ _ hx141'
     refine Di 8 hi142 ?_
     refine Dv [9] ?_
     refine Dx 10 1 (fun _ hq => hq.1.1 _ _ hF150) hc153 ?_
     refine Dv [11] ?_
     obtain rfl := Ab h143
     exact TE (by kernel_rfl) ⟨F8, hw128, (To _), fI⟩
    ·rintro f w129 ⟨F9, hs130, le131, ⟨_, rfl⟩⟩
     refine Ad ?_
     refine Sq (Rg [0, 1, 2, 3] ?_)
     refine Vs 1 ?_
     obtain ⟨r154, hr155, h156⟩ := bind_some h139
     refine CB B0 (Fd N bp0 r120 ar120_0_0 nr120_0_0 hbr120_0_0 (Tq hsr120_0_0 le131) hs130 _ hr155) ?_
     rintro _ F10 w157 _ hs158 le159 ⟨ar154_0_0, nr154_0_0, ar154_1_2, nr154_1_2, rfl, rfl, hbr154_0_0, hsr154_0_0, hbr154_1_2, hsr154_1_2⟩
     refine Al' 33 #[(vi 0), (vi 0), (.slice none ([] : List Expr).length 0)] hs158 (fun b161 w162 hs163 => ?_)
     refine St0 (Ai r154.2 ar154_1_2 nr154_1_2) hs163 (fun w164 hs165 => ?_)
     refine Nss ?_
     refine Sq (Rg [0, 1, 2] ?_)
     refine Vs 1 ?_
     refine Ld hs165.at2 ?_
     refine Vs 1 ?_
     refine Nt ?_
     refine Cd h156 (fun hb166 h167 => ?_) (fun hb166 h168 => ?_)
     ·refine Sq (Rg [0, 1] ?_)
      refine Vs 1 ?_
      have hs169 := hs165.pk7.pk7.pk7.pk7.pk7
      obtain ⟨r170, hr171, h172⟩ := bind_some h167
      refine CB Em (EX N bp0 r154.1 ar154_0_0 nr154_0_0 hbr154_0_0 hsr154_0_0 hs169.pk7.pk6.pk7 _ hr171) ?_
      rintro _ F11 w173 _ hs174 le175 ⟨ar170_0_0, nr170_0_0, rfl, rfl, hbr170_0_0, hsr170_0_0⟩
      refine Nss ?_
      refine Sq (Rg [0, 1, 2, 3, 4, 5] ?_)
      refine Vs 3 ?_
      refine Ld hs174.at3 ?_
      refine Vs 2 ?_
      refine Nt ?_
      obtain ⟨j180, hj186, h187⟩ := bind_some h172
      refine Tu (fun f w => ∃ (F12 : Mem) (aj180_0 : TO) (nj180_0 : Nat), HS wb Fb w F12 ((sb bp0 #[(.slice aj180_0 j180.1.length nj180_0), (vi j180.2.1), (vi j180.2.2.1), (vi j180.2.2.2.1), (vi j180.2.2.2.2)] 108) :: (sb b161 (Ai r154.2 ar154_1_2 nr154_1_2) 33) :: (sb bp1 (AU x1 a1_0 n1_0 a1_1 n1_1 a1_2 n1_2 a1_3 n1_3) 26) :: e1_0 :: e1_1 :: e1_2 :: e1_3 :: Lf) /\ Tn F11 F12 /\ FI f [] [(0, (pt bp0 0)), (1, (pt bp1 0)), (5, (vi j132)), (6, (pt b161 0))] /\ LC j180.1.length nj180_0 /\ SlA Ag F12 aj180_0 j180.1) ?_ ?_
      ·refine Cd hj186 (fun hb188 h189 => ?_) (fun hb188 h190 => ?_)
       ·refine Rg [0, 1, 2, 3] ?_
        refine Vs 2 ?_
        refine Ld hs174.at2 ?_
        obtain ⟨r191, hr192, h193⟩ := bind_some h189
        refine CB A6 (Bc N bp0 r170 ar170_0_0 nr170_0_0 hbr170_0_0 hsr170_0_0 2 j27.2.1 hs174 _ hr192) ?_
        rintro _ F13 w194 _ hs195 le196 ⟨ar191_0_0, nr191_0_0, rfl, rfl, hbr191_0_0, hsr191_0_0⟩
        refine Tj ?_
        obtain rfl := Ab h193
        exact .inl ⟨rfl, F13, ar191_0_0, nr191_0_0, hs195.dr2, le196, fI, hbr191_0_0, hsr191_0_0⟩
       ·refine Sc ?_
        obtain rfl := Ab h190
        exact .inl ⟨rfl, F11, ar170_0_0, nr170_0_0, hs174.dr2, (To _), fI, hbr170_0_0, hsr170_0_0⟩
      ·rintro f w177 ⟨F12, aj180_0, nj180_0, hs178, le179, ⟨_, rfl⟩, hbj180_0, hsj180_0⟩
       refine Ad ?_
       refine Sq (Rg [0, 1, 2, 3] ?_)
       refine Vs 1 ?_
       refine Ld hs178.at1 ?_
       refine Vs 1 ?_
       obtain ⟨r198, hr199, h200⟩ := bind_some h187
       refine CB Dp (DH N bp0 (({ L := j180.1, At := j180.2.1, Open := j180.2.2.1, Bad := j180.2.2.2.1, Where := j180.2.2.2.2 } : Aa)) aj180_0 nj180_0 hbj180_0 hsj180_0 r154.2 ar154_1_2 nr154_1_2 hbr154_1_2 (Tq hsr154_1_2 (le175.trans le179)) j132 1 hs178 _ hr199) ?_
       rintro _ F14 w201 _ hs202 le203 ⟨ar198_0_0, nr198_0_0, rfl, rfl, hbr198_0_0, hsr198_0_0⟩
       refine Nss ?_
       obtain ⟨j210, hj212, h213⟩ := bind_some h200
       refine RD 13 13 [(sb bp0 (Ae r198 ar198_0_0 nr198_0_0) 108), (sb b161 (Ai r154.2 ar154_1_2 nr154_1_2) 33), e1_0, e1_1, e1_2] [] hs202 (fun f w => ∃ (F15 : Mem) (aj210_0 : TO) (nj210_0 : Nat) (ej210_0 : Option Nat × Obj), HS wb Fb w F15 ((sb bp0 (Ae r198 ar198_0_0 nr198_0_0) 108) :: (sb bp1 #[(.slice a1_0 x1.Points.length n1_0), (.slice a1_1 x1.Multipliers.length n1_1), (.slice a1_2 x1.Penalties.length n1_2), (.slice aj210_0 j210.length nj210_0)] 26) :: e1_0 :: e1_1 :: e1_2 :: ej210_0 :: Lf) /\ Tn F14 F15 /\ FI f [] [] /\ Av As 33 F15 aj210_0 nj210_0 j210 ej210_0) (fun wd205 hw206 => ?_) ?_
       ·refine Dv [0, 1, 2] ?_
        refine Dl 4 (fun _ hq => (hq.1.2 1 _ _ rfl)) ?_
        refine TB (i := 3) (j := 6) (by kernel_rfl) ?_ ?_
        ·refine TC (l' := [true, true, true, true, true, false, false, false, false, false, false, false, false]) (zd := true) (by kernel_rfl) (by kernel_rfl) (dst := (some 87)) (ty := 24) (g := none) (by kernel_rfl) rfl (Bh (t := 24) (x := (.tmp 86)) (b := bp1) (o := 3) (g := false) (s := 1) (C := (AU x1 a1_0 n1_0 a1_1 n1_1 a1_2 n1_2 a1_3 n1_3)) (v := (.slice a1_3 x1.Repeats.length n1_3)) rfl (by kernel_rfl) hw206.at2 rfl rfl rfl) (Bg hw206 (To _) (by simp) (fun e => by cases e)) ?_
         refine Dv [5] ?_
         refine D1 6 ?_
         refine DBs 33 [(vi 0), (vi 0), (.slice none ([] : List Expr).length 0)] hw206 (To _) (fun b214 w215 hs216 => ?_)
         have hr218 : Av As 33 F14 (some ⟨b214, 0, none⟩) 1 [({ Op := 0, Value := 0, Kids := ([] : List Expr) } : Expr)] (some b214, .cells ([(vi 0), (vi 0), (.slice none ([] : List Expr).length 0)] : List Value).toArray 33 (0, 0)) := TH ⟨(Ba ⟨none, 0, rfl, Tr, (.inl rfl)⟩), rfl⟩ (by simp)
         refine D1 7 ?_
         obtain ⟨r219, hap220, h221⟩ := bind_some hj212
         refine Qf N9 hs216 (hr1_3.mono (((((((le25.trans le55).trans le125).trans le131).trans le159).trans le175).trans le179).trans le203)) (hs216.rd0 hr218) hap220 (To _) (fun a222 n223 e224 w225 hs226 hr227 => ?_)
         obtain ⟨x228, hx229, h231⟩ := bind_some h221
         obtain ⟨hi230, hx229'⟩ := Az hx229
         obtain ⟨b232, C233, rfl, rfl, hE236⟩ := Av.open hr227 hx229'
         have hr237 := hr227
         obtain ⟨ae238_2, ne238_2, hc239, hbe238_2, hse238_2⟩ := (A1 (hE236 _ _ hx229'))
         refine Dj 8 hi230 ?_
         refine Dv [10, 11] ?_
         refine TB (i := 9) (j := 12) (by kernel_rfl) ?_ ?_
         ·refine TJ (l' := [true, true, true, true, true, true, true, true, true, true, true, true, false]) (zd := true) (by kernel_rfl) (by kernel_rfl) (ty := 0) (g := none) (by kernel_rfl) rfl (x := (.tmp 92)) (y := (.tmp 88)) (t := 33) (v := (.agg (Ai r154.2 ar154_1_2 nr154_1_2))) (gg := true) (b := b232) (j := ((x1.Repeats.length : Int) : Int).toNat) (C := C233) (T := As) (E := 33) (u := r154.2) rfl rfl (by kernel_rfl) hs226 (k := 7) rfl hr237 hx229' (Ba ⟨ar154_1_2, nr154_1_2, rfl, hbr154_1_2, (Tq hsr154_1_2 ((le175.trans le179).trans le203))⟩) rfl (To _) (fun _ => by simp) (fun e => by cases e) (fun C240 w241 (hs242 : HS wb Fb w241 F14 ((some b214, .cells ([(vi 0), (vi 0), (.slice none ([] : List Expr).length 0)] : List Value).toArray 33 (0, 0)) :: (sb bp0 (Ae r198 ar198_0_0 nr198_0_0) 108) :: (sb b161 (Ai r154.2 ar154_1_2 nr154_1_2) 33) :: (sb bp1 (AU x1 a1_0 n1_0 a1_1 n1_1 a1_2 n1_2 a1_3 n1_3) 26) :: e1_0 :: e1_1 :: e1_2 :: (some b232, .cells C240 33 (0, 0)) :: Lf)) hr243 => ?_)
          refine D1 12 ?_
          refine AB.store (l' := [true, true, true, true, true, true, true, true, true, true, true, true, true]) (zd := true) (by kernel_rfl) (by kernel_rfl) (ty := 0) (g := none) (by kernel_rfl) rfl (x := (.tmp 94)) (y := (.tmp 91)) (t := 24) (gg := false) (s := 1) (v := (.slice (some ⟨b232, 0, none⟩) (r219.set ((x1.Repeats.length : Int) : Int).toNat r154.2).length n223)) (b := bp1) (o := 3) (C := (AU x1 a1_0 n1_0 a1_1 n1_1 a1_2 n1_2 a1_3 n1_3)) rfl (Jy rfl) (by kernel_rfl) hs242 (k := 3) rfl rfl rfl rfl (C' := #[(.slice a1_0 x1.Points.length n1_0), (.slice a1_1 x1.Multipliers.length n1_1), (.slice a1_2 x1.Penalties.length n1_2), (.slice (some ⟨b232, 0, none⟩) (r219.set ((x1.Repeats.length : Int) : Int).toNat r154.2).length n223)]) rfl (To _) (by simp) (fun e => by cases e) (fun w244 (hs245 : HS wb Fb w244 F14 ((some b214, .cells ([(vi 0), (vi 0), (.slice none ([] : List Expr).length 0)] : List Value).toArray 33 (0, 0)) :: (sb bp0 (Ae r198 ar198_0_0 nr198_0_0) 108) :: (sb b161 (Ai r154.2 ar154_1_2 nr154_1_2) 33) :: (sb bp1 #[(.slice a1_0 x1.Points.length n1_0), (.slice a1_1 x1.Multipliers.length n1_1), (.slice a1_2 x1.Penalties.length n1_2), (.slice (some ⟨b232, 0, none⟩) (r219.set ((x1.Repeats.length : Int) : Int).toNat r154.2).length n223)] 26) :: e1_0 :: e1_1 :: e1_2 :: (some b232, .cells C240 33 (0, 0)) :: Lf)) => ?_)
          obtain rfl := Ab h231
          exact TE (by kernel_rfl) ⟨F14, (some ⟨b232, 0, none⟩), n223, (some b232, .cells C240 33 (0, 0)), hs245.dr0.dr1, (To _), fI, hr243⟩
         ·refine Q7 #[(.slice a1_0 x1.Points.length n1_0), (.slice a1_1 x1.Multipliers.length n1_1), (.slice a1_2 x1.Penalties.length n1_2), (.slice (some ⟨b232, 0, none⟩) r219.length n223)] hs226 (To _) (fun w246 hs247 => ?_)
          refine D1 9 ?_
          refine TJ (l' := [true, true, true, true, true, true, true, true, true, true, true, true, true]) (zd := true) (by kernel_rfl) (by kernel_rfl) (ty := 0) (g := none) (by kernel_rfl) rfl (x := (.tmp 92)) (y := (.tmp 88)) (t := 33) (v := (.agg (Ai r154.2 ar154_1_2 nr154_1_2))) (gg := true) (b := b232) (j := ((x1.Repeats.length : Int) : Int).toNat) (C := C233) (T := As) (E := 33) (u := r154.2) rfl rfl (by kernel_rfl) hs247 (k := 7) rfl hr237 hx229' (Ba ⟨ar154_1_2, nr154_1_2, rfl, hbr154_1_2, (Tq hsr154_1_2 ((le175.trans le179).trans le203))⟩) rfl (To _) (fun _ => by simp) (fun e => by cases e) (fun C248 w249 (hs250 : HS wb Fb w249 F14 ((some b214, .cells ([(vi 0), (vi 0), (.slice none ([] : List Expr).length 0)] : List Value).toArray 33 (0, 0)) :: (sb bp0 (Ae r198 ar198_0_0 nr198_0_0) 108) :: (sb b161 (Ai r154.2 ar154_1_2 nr154_1_2) 33) :: (sb bp1 #[(.slice a1_0 x1.Points.length n1_0), (.slice a1_1 x1.Multipliers.length n1_1), (.slice a1_2 x1.Penalties.length n1_2), (.slice (some ⟨b232, 0, none⟩) r219.length n223)] 26) :: e1_0 :: e1_1 :: e1_2 :: (some b232, .cells C248 33 (0, 0)) :: Lf)) hr251 => ?_)
          have hs252 : HS wb Fb w249 F14 ((some b214, .cells ([(vi 0), (vi 0), (.slice none ([] : List Expr).length 0)] : List Value).toArray 33 (0, 0)) :: (sb bp0 (Ae r198 ar198_0_0 nr198_0_0) 108) :: (sb b161 (Ai r154.2 ar154_1_2 nr154_1_2) 33) :: (sb bp1 #[(.slice a1_0 x1.Points.length n1_0), (.slice a1_1 x1.Multipliers.length n1_1), (.slice a1_2 x1.Penalties.length n1_2), (.slice (some ⟨b232, 0, none⟩) (r219.set ((x1.Repeats.length : Int) : Int).toNat r154.2).length n223)] 26) :: e1_0 :: e1_1 :: e1_2 :: (some b232, .cells C248 33 (0, 0)) :: Lf) := by have hq := hs250; simp only [List.length_set] at hq ⊢; exact hq
          obtain rfl := Ab h231
          exact TE (by kernel_rfl) ⟨F14, (some ⟨b232, 0, none⟩), n223, (some b232, .cells C248 33 (0, 0)), hs252.dr0.dr1, (To _), fI, hr251⟩
        ·refine DBs 33 [(vi 0), (vi 0), (.slice none ([] : List Expr).length 0)] hw206 (To _) (fun b253 w254 hs255 => ?_)
         have hr257 : Av As 33 F14 (some ⟨b253, 0, none⟩) 1 [({ Op := 0, Value := 0, Kids := ([] : List Expr) } : Expr)] (some b253, .cells ([(vi 0), (vi 0), (.slice none ([] : List Expr).length 0)] : List Value).toArray 33 (0, 0)) := TH ⟨(Ba ⟨none, 0, rfl, Tr, (.inl rfl)⟩), rfl⟩ (by simp)
         refine D1 3 ?_
         refine TC (l' := [true, true, true, true, true, false, true, false, false, false, false, false, false]) (zd := true) (by kernel_rfl) (by kernel_rfl) (dst := (some 87)) (ty := 24) (g := none) (by kernel_rfl) rfl (Bh (t := 24) (x := (.tmp 86)) (b := bp1) (o := 3) (g := false) (s := 1) (C := (AU x1 a1_0 n1_0 a1_1 n1_1 a1_2 n1_2 a1_3 n1_3)) (v := (.slice a1_3 x1.Repeats.length n1_3)) rfl (by kernel_rfl) hs255.at3 rfl rfl rfl) (Bg hs255 (To _) (by simp) (fun e => by cases e)) ?_
         refine Dv [5] ?_
         refine D1 7 ?_
         obtain ⟨r258, hap259, h260⟩ := bind_some hj212
         refine Qf N9 hs255 (hr1_3.mono (((((((le25.trans le55).trans le125).trans le131).trans le159).trans le175).trans le179).trans le203)) (hs255.rd0 hr257) hap259 (To _) (fun a261 n262 e263 w264 hs265 hr266 => ?_)
         obtain ⟨x267, hx268, h270⟩ := bind_some h260
         obtain ⟨hi269, hx268'⟩ := Az hx268
         obtain ⟨b271, C272, rfl, rfl, hE275⟩ := Av.open hr266 hx268'
         have hr276 := hr266
         obtain ⟨ae277_2, ne277_2, hc278, hbe277_2, hse277_2⟩ := (A1 (hE275 _ _ hx268'))
         refine Dj 8 hi269 ?_
         refine Dv [10, 11] ?_
         refine TB (i := 9) (j := 12) (by kernel_rfl) ?_ ?_
         ·refine TJ (l' := [true, true, true, true, true, true, true, true, true, true, true, true, false]) (zd := true) (by kernel_rfl) (by kernel_rfl) (ty := 0) (g := none) (by kernel_rfl) rfl (x := (.tmp 92)) (y := (.tmp 88)) (t := 33) (v := (.agg (Ai r154.2 ar154_1_2 nr154_1_2))) (gg := true) (b := b271) (j := ((x1.Repeats.length : Int) : Int).toNat) (C := C272) (T := As) (E := 33) (u := r154.2) rfl rfl (by kernel_rfl) hs265 (k := 7) rfl hr276 hx268' (Ba ⟨ar154_1_2, nr154_1_2, rfl, hbr154_1_2, (Tq hsr154_1_2 ((le175.trans le179).trans le203))⟩) rfl (To _) (fun _ => by simp) (fun e => by cases e) (fun C279 w280 (hs281 : HS wb Fb w280 F14 ((some b253, .cells ([(vi 0), (vi 0), (.slice none ([] : List Expr).length 0)] : List Value).toArray 33 (0, 0)) :: (sb bp0 (Ae r198 ar198_0_0 nr198_0_0) 108) :: (sb b161 (Ai r154.2 ar154_1_2 nr154_1_2) 33) :: (sb bp1 (AU x1 a1_0 n1_0 a1_1 n1_1 a1_2 n1_2 a1_3 n1_3) 26) :: e1_0 :: e1_1 :: e1_2 :: (some b271, .cells C279 33 (0, 0)) :: Lf)) hr282 => ?_)
          refine D1 12 ?_
          refine AB.store (l' := [true, true, true, true, true, true, true, true, true, true, true, true, true]) (zd := true) (by kernel_rfl) (by kernel_rfl) (ty := 0) (g := none) (by kernel_rfl) rfl (x := (.tmp 94)) (y := (.tmp 91)) (t := 24) (gg := false) (s := 1) (v := (.slice (some ⟨b271, 0, none⟩) (r258.set ((x1.Repeats.length : Int) : Int).toNat r154.2).length n262)) (b := bp1) (o := 3) (C := (AU x1 a1_0 n1_0 a1_1 n1_1 a1_2 n1_2 a1_3 n1_3)) rfl (Jy rfl) (by kernel_rfl) hs281 (k := 3) rfl rfl rfl rfl (C' := #[(.slice a1_0 x1.Points.length n1_0), (.slice a1_1 x1.Multipliers.length n1_1), (.slice a1_2 x1.Penalties.length n1_2), (.slice (some ⟨b271, 0, none⟩) (r258.set ((x1.Repeats.length : Int) : Int).toNat r154.2).length n262)]) rfl (To _) (by simp) (fun e => by cases e) (fun w283 (hs284 : HS wb Fb w283 F14 ((some b253, .cells ([(vi 0), (vi 0), (.slice none ([] : List Expr).length 0)] : List Value).toArray 33 (0, 0)) :: (sb bp0 (Ae r198 ar198_0_0 nr198_0_0) 108) :: (sb b161 (Ai r154.2 ar154_1_2 nr154_1_2) 33) :: (sb bp1 #[(.slice a1_0 x1.Points.length n1_0), (.slice a1_1 x1.Multipliers.length n1_1), (.slice a1_2 x1.Penalties.length n1_2), (.slice (some ⟨b271, 0, none⟩) (r258.set ((x1.Repeats.length : Int) : Int).toNat r154.2).length n262)] 26) :: e1_0 :: e1_1 :: e1_2 :: (some b271, .cells C279 33 (0, 0)) :: Lf)) => ?_)
          obtain rfl := Ab h270
          exact TE (by kernel_rfl) ⟨F14, (some ⟨b271, 0, none⟩), n262, (some b271, .cells C279 33 (0, 0)), hs284.dr0.dr1, (To _), fI, hr282⟩
         ·refine Q7 #[(.slice a1_0 x1.Points.length n1_0), (.slice a1_1 x1.Multipliers.length n1_1), (.slice a1_2 x1.Penalties.length n1_2), (.slice (some ⟨b271, 0, none⟩) r258.length n262)] hs265 (To _) (fun w285 hs286 => ?_)
          refine D1 9 ?_
          refine TJ (l' := [true, true, true, true, true, true, true, true, true, true, true, true, true]) (zd := true) (by kernel_rfl) (by kernel_rfl) (ty := 0) (g := none) (by kernel_rfl) rfl (x := (.tmp 92)) (y := (.tmp 88)) (t := 33) (v := (.agg (Ai r154.2 ar154_1_2 nr154_1_2))) (gg := true) (b := b271) (j := ((x1.Repeats.length : Int) : Int).toNat) (C := C272) (T := As) (E := 33) (u := r154.2) rfl rfl (by kernel_rfl) hs286 (k := 7) rfl hr276 hx268' (Ba ⟨ar154_1_2, nr154_1_2, rfl, hbr154_1_2, (Tq hsr154_1_2 ((le175.trans le179).trans le203))⟩) rfl (To _) (fun _ => by simp) (fun e => by cases e) (fun C287 w288 (hs289 : HS wb Fb w288 F14 ((some b253, .cells ([(vi 0), (vi 0), (.slice none ([] : List Expr).length 0)] : List Value).toArray 33 (0, 0)) :: (sb bp0 (Ae r198 ar198_0_0 nr198_0_0) 108) :: (sb b161 (Ai r154.2 ar154_1_2 nr154_1_2) 33) :: (sb bp1 #[(.slice a1_0 x1.Points.length n1_0), (.slice a1_1 x1.Multipliers.length n1_1), (.slice a1_2 x1.Penalties.length n1_2), (.slice (some ⟨b271, 0, none⟩) r258.length n262)] 26) :: e1_0 :: e1_1 :: e1_2 :: (some b271, .cells C287 33 (0, 0)) :: Lf)) hr290 => ?_)
          have hs291 : HS wb Fb w288 F14 ((some b253, .cells ([(vi 0), (vi 0), (.slice none ([] : List Expr).length 0)] : List Value).toArray 33 (0, 0)) :: (sb bp0 (Ae r198 ar198_0_0 nr198_0_0) 108) :: (sb b161 (Ai r154.2 ar154_1_2 nr154_1_2) 33) :: (sb bp1 #[(.slice a1_0 x1.Points.length n1_0), (.slice a1_1 x1.Multipliers.length n1_1), (.slice a1_2 x1.Penalties.length n1_2), (.slice (some ⟨b271, 0, none⟩) (r258.set ((x1.Repeats.length : Int) : Int).toNat r154.2).length n262)] 26) :: e1_0 :: e1_1 :: e1_2 :: (some b271, .cells C287 33 (0, 0)) :: Lf) := by have hq := hs289; simp only [List.length_set] at hq ⊢; exact hq
          obtain rfl := Ab h270
          exact TE (by kernel_rfl) ⟨F14, (some ⟨b271, 0, none⟩), n262, (some b271, .cells C287 33 (0, 0)), hs291.dr0.dr1, (To _), fI, hr290⟩
       ·rintro f w207 ⟨F15, aj210_0, nj210_0, ej210_0, hs208, le209, ⟨_, rfl⟩, hrj210_0⟩
        refine Ad ?_
        refine Rt ?_
        refine Aj ?_
        obtain rfl := Ab h213
        exact ReB [] hs208 ((((((((le25.trans le55).trans le125).trans le131).trans le159).trans le175).trans le179).trans le203).trans le209) ⟨ar198_0_0, nr198_0_0, a1_0, n1_0, e1_0, a1_1, n1_1, e1_1, a1_2, n1_2, e1_2, aj210_0, nj210_0, ej210_0, rfl, rfl, hbr198_0_0, (Tq hsr198_0_0 le209), (hr1_0.mono ((((((((le25.trans le55).trans le125).trans le131).trans le159).trans le175).trans le179).trans le203).trans le209)), (hr1_1.mono ((((((((le25.trans le55).trans le125).trans le131).trans le159).trans le175).trans le179).trans le203).trans le209)), (hr1_2.mono ((((((((le25.trans le55).trans le125).trans le131).trans le159).trans le175).trans le179).trans le203).trans le209)), hrj210_0⟩
     ·refine Sc ?_
      refine Ad ?_
      refine Sq (Rg [0, 1] ?_)
      refine Vs 1 ?_
      have hs292 := hs165.pk7.pk7.pk7.pk7.pk7
      obtain ⟨r293, hr294, h295⟩ := bind_some h168
      refine CB BK (BO N bp0 r154.1 ar154_0_0 nr154_0_0 hbr154_0_0 hsr154_0_0 (([61, 62] : TN)) hs292.pk7.pk6.pk7 _ hr294) ?_
      rintro _ F16 w296 _ hs297 le298 ⟨ar293_0_0, nr293_0_0, rfl, rfl, hbr293_0_0, hsr293_0_0⟩
      refine Nss ?_
      obtain ⟨j305, hj313, h314⟩ := bind_some h295
      refine RD 12 12 [(sb bp0 (Ae r293 ar293_0_0 nr293_0_0) 108), (sb b161 (Ai r154.2 ar154_1_2 nr154_1_2) 33), (sb b26 #[(vi j27.1), (vi j27.2.1), (.string ⟨(j27.2.2).toArray⟩)] 110), (sb bp1 (AU x1 a1_0 n1_0 a1_1 n1_1 a1_2 n1_2 a1_3 n1_3) 26), e1_0, e1_1, e1_2, e1_3] [] hs297 (fun f w => ∃ (F17 : Mem), HS wb Fb w F17 ((sb bp0 (Ae r293 ar293_0_0 nr293_0_0) 108) :: (sb b161 (Ai r154.2 ar154_1_2 nr154_1_2) 33) :: (sb b26 #[(vi j27.1), (vi j27.2.1), (.string ⟨(j27.2.2).toArray⟩)] 110) :: (sb bp1 (AU x1 a1_0 n1_0 a1_1 n1_1 a1_2 n1_2 a1_3 n1_3) 26) :: e1_0 :: e1_1 :: e1_2 :: e1_3 :: Lf) /\ Tn F16 F17 /\ FI f [] [(0, (pt bp0 0)), (1, (pt bp1 0)), (4, (pt b26 0)), (5, (vi j132)), (6, (pt b161 0)), (7, (vi j305))]) (fun wd300 hw301 => ?_) ?_
      ·refine Dv [0, 1, 2] ?_
       refine Dl 3 (fun _ hq => (hq.1.2 0 _ _ rfl)) ?_
       refine Dv [4, 5, 6] ?_
       refine Dl 7 (fun _ hq => (hq.1.2 0 _ _ rfl)) ?_
       obtain ⟨x315, hx316, h318⟩ := bind_some hj313
       obtain ⟨hi317, hx316'⟩ := Az hx316
       obtain ⟨b319, o320, C321, E322, fz323, rfl, hF325, hE326⟩ := Tx hsr293_0_0 hx316'
       have hc328 := hE326 _ _ hx316'
       refine Di 8 hi317 ?_
       refine Dv [9] ?_
       refine Dx 10 1 (fun _ hq => hq.1.1 _ _ hF325) hc328 ?_
       refine Dv [11] ?_
       obtain rfl := Ab h318
       exact TE (by kernel_rfl) ⟨F16, hw301, (To _), fI⟩
      ·rintro f w302 ⟨F17, hs303, le304, ⟨_, rfl⟩⟩
       refine Ad ?_
       refine Sq (Rg [0, 1, 2, 3] ?_)
       refine Vs 1 ?_
       obtain ⟨r329, hr330, h331⟩ := bind_some h314
       refine CB B0 (Fd N bp0 r293 ar293_0_0 nr293_0_0 hbr293_0_0 (Tq hsr293_0_0 le304) hs303 _ hr330) ?_
       rintro _ F18 w332 _ hs333 le334 ⟨ar329_0_0, nr329_0_0, ar329_1_2, nr329_1_2, rfl, rfl, hbr329_0_0, hsr329_0_0, hbr329_1_2, hsr329_1_2⟩
       refine Al' 33 #[(vi 0), (vi 0), (.slice none ([] : List Expr).length 0)] hs333 (fun b336 w337 hs338 => ?_)
       refine St0 (Ai r329.2 ar329_1_2 nr329_1_2) hs338 (fun w339 hs340 => ?_)
       refine Nss (Rg [0, 1] ?_)
       refine Vs 1 ?_
       have hs347 : HS wb Fb w339 F18 ((sb b161 (Ai r154.2 ar154_1_2 nr154_1_2) 33) :: (sb b26 #[(vi j27.1), (vi j27.2.1), (.string ⟨(j27.2.2).toArray⟩)] 110) :: (sb bp1 (AU x1 a1_0 n1_0 a1_1 n1_1 a1_2 n1_2 a1_3 n1_3) 26) :: e1_0 :: e1_1 :: e1_2 :: e1_3 :: (sb b336 (Ai r329.2 ar329_1_2 nr329_1_2) 33) :: (sb bp0 (Ae r329.1 ar329_0_0 nr329_0_0) 108) :: Lf) := hs340.pm [2, 3, 4, 5, 6, 7, 8, 0, 1]
       have hs348 : HS wb Fb w339 F18 ((sb bp0 (Ae r329.1 ar329_0_0 nr329_0_0) 108) :: (sb b336 (Ai r329.2 ar329_1_2 nr329_1_2) 33) :: (sb b161 (Ai r154.2 ar154_1_2 nr154_1_2) 33) :: (sb b26 #[(vi j27.1), (vi j27.2.1), (.string ⟨(j27.2.2).toArray⟩)] 110) :: (sb bp1 (AU x1 a1_0 n1_0 a1_1 n1_1 a1_2 n1_2 a1_3 n1_3) 26) :: e1_0 :: e1_1 :: e1_2 :: e1_3 :: Lf) := hs347.pk7.pick (k := 8) rfl
       obtain ⟨r349, hr350, h351⟩ := bind_some h331
       refine CB Em (EX N bp0 r329.1 ar329_0_0 nr329_0_0 hbr329_0_0 hsr329_0_0 hs348 _ hr350) ?_
       rintro _ F19 w352 _ hs353 le354 ⟨ar349_0_0, nr349_0_0, rfl, rfl, hbr349_0_0, hsr349_0_0⟩
       refine Nss (Rg [0, 1, 2, 3, 4, 5, 6, 7, 8, 9, 10, 11, 12, 13, 14, 15, 16, 17, 18, 19, 20, 21, 22, 23, 24, 25, 26, 27, 28, 29, 30, 31, 32, 33, 34, 35, 36, 37] ?_)
       refine Tt (fun f w => ∃ (F20 : Mem), HS wb Fb w F20 ((sb bp0 (Ae r349 ar349_0_0 nr349_0_0) 108) :: (sb b336 (Ai r329.2 ar329_1_2 nr329_1_2) 33) :: (sb b161 (Ai r154.2 ar154_1_2 nr154_1_2) 33) :: (sb b26 #[(vi j27.1), (vi j27.2.1), (.string ⟨(j27.2.2).toArray⟩)] 110) :: (sb bp1 (AU x1 a1_0 n1_0 a1_1 n1_1 a1_2 n1_2 a1_3 n1_3) 26) :: e1_0 :: e1_1 :: e1_2 :: e1_3 :: Lf) /\ Tn F19 F20 /\ FI f [] [(0, (pt bp0 0)), (1, (pt bp1 0)), (4, (pt b26 0)), (5, (vi j132)), (6, (pt b161 0)), (7, (vi j305)), (8, (pt b336 0)), (9, (.bool (bif (j27.2.2 == ([112, 111, 105, 110, 116, 115] : TN)) then (((x1.Points.length : Int) == 64) || (bif (j27.2.2 == ([109, 117, 108, 116, 105, 112, 108, 105, 101, 114] : TN)) then (((x1.Multipliers.length : Int) == 64) || ((j27.2.2 == ([112, 101, 110, 97, 108, 116, 121] : TN)) && ((x1.Penalties.length : Int) == 64))) else ((j27.2.2 == ([112, 101, 110, 97, 108, 116, 121] : TN)) && ((x1.Penalties.length : Int) == 64)))) else (bif (j27.2.2 == ([109, 117, 108, 116, 105, 112, 108, 105, 101, 114] : TN)) then (((x1.Multipliers.length : Int) == 64) || ((j27.2.2 == ([112, 101, 110, 97, 108, 116, 121] : TN)) && ((x1.Penalties.length : Int) == 64))) else ((j27.2.2 == ([112, 101, 110, 97, 108, 116, 121] : TN)) && ((x1.Penalties.length : Int) == 64))))))]) ?_ ?_
       ·refine Vs 1 ?_
        refine Ld hs353.at3 ?_
        refine Vs 2 ?_
        refine Ts (j27.2.2 == ([112, 111, 105, 110, 116, 115] : TN)) (fun hb368 => ?_) (fun hb368 => ?_)
        ·refine Vgs hb368 3 ?_
         refine Lg hb368 hs353.at4 ?_
         refine Vgs hb368 2 ?_
         refine Pk1 hb368 ?_
         refine Vs 1 ?_
         refine Ts ((x1.Points.length : Int) == 64) (fun hb369 => ?_) (fun hb369 => ?_)
         ·refine Ss hb369 4 ?_
          refine Su' 6 ?_
          refine Ss hb369 1 ?_
          refine Pk1 hb369 ?_
          refine Vs 1 ?_
          refine Ss (rfl : true = true) 4 ?_
          refine Su' 6 ?_
          refine Ss (rfl : true = true) 1 ?_
          refine Pk1 (rfl : true = true) ?_
          refine Vs 1 ?_
          exact Tj ⟨rfl, F19, hs353, (To _), (fJ ⟨rfl, rfl, rfl, rfl, rfl, rfl, rfl, (congrArg Value.bool (CH hb368 (Fk hb369 rfl))), trivial⟩)⟩
         ·refine Vgs hb369 1 ?_
          refine Lg hb369 hs353.at3 ?_
          refine Vgs hb369 2 ?_
          refine Ts (j27.2.2 == ([109, 117, 108, 116, 105, 112, 108, 105, 101, 114] : TN)) (fun hb370 => ?_) (fun hb370 => ?_)
          ·refine Vgs hb370 3 ?_
           refine Lg hb370 hs353.at4 ?_
           refine Vgs hb370 2 ?_
           refine Pg1 hb369 hb370 ?_
           refine Pk0 hb369 ?_
           refine Vs 1 ?_
           refine Ts ((x1.Multipliers.length : Int) == 64) (fun hb371 => ?_) (fun hb371 => ?_)
           ·refine Ss hb371 4 ?_
            refine Su' 6 ?_
            refine Ss hb371 1 ?_
            refine Pk1 hb371 ?_
            refine Vs 1 ?_
            exact Tj ⟨rfl, F19, hs353, (To _), (fJ ⟨rfl, rfl, rfl, rfl, rfl, rfl, rfl, (congrArg Value.bool (CH hb368 (B7 hb369 (CH hb370 (Fk hb371 rfl))))), trivial⟩)⟩
           ·refine Vgs hb371 1 ?_
            refine Lg hb371 hs353.at3 ?_
            refine Vgs hb371 2 ?_
            refine Ts (j27.2.2 == ([112, 101, 110, 97, 108, 116, 121] : TN)) (fun hb372 => ?_) (fun hb372 => ?_)
            ·refine Vgs hb372 3 ?_
             refine Lg hb372 hs353.at4 ?_
             refine Vgs hb372 2 ?_
             refine Pg1 hb371 hb372 ?_
             refine Pk0 hb371 ?_
             refine Vs 1 ?_
             exact Tj ⟨rfl, F19, hs353, (To _), (fJ ⟨rfl, rfl, rfl, rfl, rfl, rfl, rfl, (congrArg Value.bool (CH hb368 (B7 hb369 (CH hb370 (B7 hb371 (Cz hb372 rfl)))))), trivial⟩)⟩
            ·refine Ss hb372 6 ?_
             refine Pg0 hb371 hb372 ?_
             refine Pk0 hb371 ?_
             refine Vs 1 ?_
             exact Tj ⟨rfl, F19, hs353, (To _), (fJ ⟨rfl, rfl, rfl, rfl, rfl, rfl, rfl, (congrArg Value.bool (CH hb368 (B7 hb369 (CH hb370 (B7 hb371 (Dw hb372 rfl)))))), trivial⟩)⟩
          ·refine Ss hb370 6 ?_
           refine Pg0 hb369 hb370 ?_
           refine Pk0 hb369 ?_
           refine Vs 1 ?_
           refine Vg 137 0 24 false 136 rfl (fa 110 4 2 2 1 b26 0 2) ?_
           refine Vg 138 9 24 false 136 rfl (ld 9 137 b26 2 false 1 (.string ⟨(j27.2.2).toArray⟩) hs353.at3) ?_
           refine Vg 139 4 24 false 136 rfl (Fx (t := 9) (t' := 9) (x := (.tmp 138)) (y := (.const (.string ⟨([112, 101, 110, 97, 108, 116, 121] : TN).toArray⟩))) (op := .eql) (a := j27.2.2) (b := ([112, 101, 110, 97, 108, 116, 121] : TN)) (v := (j27.2.2 == ([112, 101, 110, 97, 108, 116, 121] : TN))) rfl rfl rfl) ?_
           refine Vg 140 4 24 false 136 rfl (mv 139 (.bool (j27.2.2 == ([112, 101, 110, 97, 108, 116, 121] : TN)))) ?_
           refine Ts (j27.2.2 == ([112, 101, 110, 97, 108, 116, 121] : TN)) (fun hb373 => ?_) (fun hb373 => ?_)
           ·refine Vgs hb373 3 ?_
            refine Lg hb373 hs353.at4 ?_
            refine Vgs hb373 2 ?_
            refine Vg 147 4 24 false 136 rfl (p1 140 (.tmp 146) (.const (.bool false)) (.bool ((x1.Penalties.length : Int) == 64)) hb373) ?_
            refine Pk0 (rfl : false = false) ?_
            refine Vs 1 ?_
            exact Tj ⟨rfl, F19, hs353, (To _), (fJ ⟨rfl, rfl, rfl, rfl, rfl, rfl, rfl, (congrArg Value.bool (CH hb368 (B7 hb369 (C7 hb370 (Cz hb373 rfl))))), trivial⟩)⟩
           ·refine Ss hb373 6 ?_
            refine Vg 147 4 24 false 136 rfl (p0 140 (.tmp 146) (.const (.bool false)) (.bool false) hb373) ?_
            refine Pk0 (rfl : false = false) ?_
            refine Vs 1 ?_
            exact Tj ⟨rfl, F19, hs353, (To _), (fJ ⟨rfl, rfl, rfl, rfl, rfl, rfl, rfl, (congrArg Value.bool (CH hb368 (B7 hb369 (C7 hb370 (Dw hb373 rfl))))), trivial⟩)⟩
        ·refine Ss hb368 6 ?_
         refine Pk0 hb368 ?_
         refine Vs 1 ?_
         refine Vg 124 0 11 false 123 rfl (fa 110 4 2 2 1 b26 0 2) ?_
         refine Vg 125 9 11 false 123 rfl (ld 9 124 b26 2 false 1 (.string ⟨(j27.2.2).toArray⟩) hs353.at3) ?_
         refine Vg 126 4 11 false 123 rfl (Fx (t := 9) (t' := 9) (x := (.tmp 125)) (y := (.const (.string ⟨([109, 117, 108, 116, 105, 112, 108, 105, 101, 114] : TN).toArray⟩))) (op := .eql) (a := j27.2.2) (b := ([109, 117, 108, 116, 105, 112, 108, 105, 101, 114] : TN)) (v := (j27.2.2 == ([109, 117, 108, 116, 105, 112, 108, 105, 101, 114] : TN))) rfl rfl rfl) ?_
         refine Vg 127 4 11 false 123 rfl (mv 126 (.bool (j27.2.2 == ([109, 117, 108, 116, 105, 112, 108, 105, 101, 114] : TN)))) ?_
         refine Ts (j27.2.2 == ([109, 117, 108, 116, 105, 112, 108, 105, 101, 114] : TN)) (fun hb374 => ?_) (fun hb374 => ?_)
         ·refine Vgs hb374 3 ?_
          refine Lg hb374 hs353.at4 ?_
          refine Vgs hb374 2 ?_
          refine Vg 134 4 11 false 123 rfl (p1 127 (.tmp 133) (.const (.bool false)) (.bool ((x1.Multipliers.length : Int) == 64)) hb374) ?_
          refine Pk0 (rfl : false = false) ?_
          refine Vs 1 ?_
          refine Ts ((x1.Multipliers.length : Int) == 64) (fun hb375 => ?_) (fun hb375 => ?_)
          ·refine Ss hb375 4 ?_
           refine Su' 6 ?_
           refine Ss hb375 1 ?_
           refine Pk1 hb375 ?_
           refine Vs 1 ?_
           exact Tj ⟨rfl, F19, hs353, (To _), (fJ ⟨rfl, rfl, rfl, rfl, rfl, rfl, rfl, (congrArg Value.bool (C7 hb368 (CH hb374 (Fk hb375 rfl)))), trivial⟩)⟩
          ·refine Vgs hb375 1 ?_
           refine Lg hb375 hs353.at3 ?_
           refine Vgs hb375 2 ?_
           refine Ts (j27.2.2 == ([112, 101, 110, 97, 108, 116, 121] : TN)) (fun hb376 => ?_) (fun hb376 => ?_)
           ·refine Vgs hb376 3 ?_
            refine Lg hb376 hs353.at4 ?_
            refine Vgs hb376 2 ?_
            refine Pg1 hb375 hb376 ?_
            refine Pk0 hb375 ?_
            refine Vs 1 ?_
            exact Tj ⟨rfl, F19, hs353, (To _), (fJ ⟨rfl, rfl, rfl, rfl, rfl, rfl, rfl, (congrArg Value.bool (C7 hb368 (CH hb374 (B7 hb375 (Cz hb376 rfl))))), trivial⟩)⟩
           ·refine Ss hb376 6 ?_
            refine Pg0 hb375 hb376 ?_
            refine Pk0 hb375 ?_
            refine Vs 1 ?_
            exact Tj ⟨rfl, F19, hs353, (To _), (fJ ⟨rfl, rfl, rfl, rfl, rfl, rfl, rfl, (congrArg Value.bool (C7 hb368 (CH hb374 (B7 hb375 (Dw hb376 rfl))))), trivial⟩)⟩
         ·refine Ss hb374 6 ?_
          refine Vg 134 4 11 false 123 rfl (p0 127 (.tmp 133) (.const (.bool false)) (.bool false) hb374) ?_
          refine Pk0 (rfl : false = false) ?_
          refine Vs 1 ?_
          refine Vg 137 0 24 false 136 rfl (fa 110 4 2 2 1 b26 0 2) ?_
          refine Vg 138 9 24 false 136 rfl (ld 9 137 b26 2 false 1 (.string ⟨(j27.2.2).toArray⟩) hs353.at3) ?_
          refine Vg 139 4 24 false 136 rfl (Fx (t := 9) (t' := 9) (x := (.tmp 138)) (y := (.const (.string ⟨([112, 101, 110, 97, 108, 116, 121] : TN).toArray⟩))) (op := .eql) (a := j27.2.2) (b := ([112, 101, 110, 97, 108, 116, 121] : TN)) (v := (j27.2.2 == ([112, 101, 110, 97, 108, 116, 121] : TN))) rfl rfl rfl) ?_
          refine Vg 140 4 24 false 136 rfl (mv 139 (.bool (j27.2.2 == ([112, 101, 110, 97, 108, 116, 121] : TN)))) ?_
          refine Ts (j27.2.2 == ([112, 101, 110, 97, 108, 116, 121] : TN)) (fun hb377 => ?_) (fun hb377 => ?_)
          ·refine Vgs hb377 3 ?_
           refine Lg hb377 hs353.at4 ?_
           refine Vgs hb377 2 ?_
           refine Vg 147 4 24 false 136 rfl (p1 140 (.tmp 146) (.const (.bool false)) (.bool ((x1.Penalties.length : Int) == 64)) hb377) ?_
           refine Pk0 (rfl : false = false) ?_
           refine Vs 1 ?_
           exact Tj ⟨rfl, F19, hs353, (To _), (fJ ⟨rfl, rfl, rfl, rfl, rfl, rfl, rfl, (congrArg Value.bool (C7 hb368 (C7 hb374 (Cz hb377 rfl)))), trivial⟩)⟩
          ·refine Ss hb377 6 ?_
           refine Vg 147 4 24 false 136 rfl (p0 140 (.tmp 146) (.const (.bool false)) (.bool false) hb377) ?_
           refine Pk0 (rfl : false = false) ?_
           refine Vs 1 ?_
           exact Tj ⟨rfl, F19, hs353, (To _), (fJ ⟨rfl, rfl, rfl, rfl, rfl, rfl, rfl, (congrArg Value.bool (C7 hb368 (C7 hb374 (Dw hb377 rfl)))), trivial⟩)⟩
       ·rintro f w356 ⟨F20, hs357, le358, ⟨_, rfl⟩⟩
        refine Ad ?_
        refine Sq ?_
        refine Sq (Rg [0] ?_)
        refine Vs 1 ?_
        refine Nt ?_
        obtain ⟨j381, hj390, h391⟩ := bind_some h351
        refine Tu (fun f w => ∃ (F21 : Mem) (aj381_0 : TO) (nj381_0 : Nat), HS wb Fb w F21 ((sb bp0 #[(.slice aj381_0 j381.1.length nj381_0), (vi j381.2.1), (vi j381.2.2.1), (vi j381.2.2.2.1), (vi j381.2.2.2.2)] 108) :: (sb b336 (Ai r329.2 ar329_1_2 nr329_1_2) 33) :: (sb b161 (Ai r154.2 ar154_1_2 nr154_1_2) 33) :: (sb b26 #[(vi j27.1), (vi j27.2.1), (.string ⟨(j27.2.2).toArray⟩)] 110) :: (sb bp1 (AU x1 a1_0 n1_0 a1_1 n1_1 a1_2 n1_2 a1_3 n1_3) 26) :: e1_0 :: e1_1 :: e1_2 :: e1_3 :: Lf) /\ Tn F20 F21 /\ FI f [] [(0, (pt bp0 0)), (1, (pt bp1 0)), (4, (pt b26 0)), (5, (vi j132)), (6, (pt b161 0)), (7, (vi j305)), (8, (pt b336 0))] /\ LC j381.1.length nj381_0 /\ SlA Ag F21 aj381_0 j381.1) ?_ ?_
        ·refine Cd hj390 (fun hb392 h393 => ?_) (fun hb392 h394 => ?_)
         ·refine Rg [0, 1, 2, 3] ?_
          refine Vs 2 ?_
          refine Ld hs357.at3 ?_
          obtain ⟨r395, hr396, h397⟩ := bind_some h393
          refine CB A6 (Bc N bp0 r349 ar349_0_0 nr349_0_0 hbr349_0_0 (Tq hsr349_0_0 le358) 2 j27.2.1 hs357 _ hr396) ?_
          rintro _ F22 w398 _ hs399 le400 ⟨ar395_0_0, nr395_0_0, rfl, rfl, hbr395_0_0, hsr395_0_0⟩
          refine Tj ?_
          obtain rfl := Ab h397
          exact .inl ⟨rfl, F22, ar395_0_0, nr395_0_0, hs399, le400, fI, hbr395_0_0, hsr395_0_0⟩
         ·refine Sc ?_
          obtain rfl := Ab h394
          exact .inl ⟨rfl, F20, ar349_0_0, nr349_0_0, hs357, (To _), fI, hbr349_0_0, (Tq hsr349_0_0 le358)⟩
        ·rintro f w378 ⟨F21, aj381_0, nj381_0, hs379, le380, ⟨_, rfl⟩, hbj381_0, hsj381_0⟩
         refine Ad ?_
         refine Sq (Rg [0, 1, 2, 3] ?_)
         refine Vs 1 ?_
         refine Ld hs379.at2 ?_
         refine Vs 1 ?_
         obtain ⟨r402, hr403, h404⟩ := bind_some h391
         refine CB Dp (DH N bp0 (({ L := j381.1, At := j381.2.1, Open := j381.2.2.1, Bad := j381.2.2.2.1, Where := j381.2.2.2.2 } : Aa)) aj381_0 nj381_0 hbj381_0 hsj381_0 r154.2 ar154_1_2 nr154_1_2 hbr154_1_2 (Tq hsr154_1_2 (((((le298.trans le304).trans le334).trans le354).trans le358).trans le380)) j132 2 hs379 _ hr403) ?_
         rintro _ F23 w405 _ hs406 le407 ⟨ar402_0_0, nr402_0_0, rfl, rfl, hbr402_0_0, hsr402_0_0⟩
         refine Nss (Rg [0, 1, 2, 3] ?_)
         refine Vs 1 ?_
         refine Ld hs406.at1 ?_
         refine Vs 1 ?_
         obtain ⟨r409, hr410, h411⟩ := bind_some h404
         refine CB Dp (DH N bp0 r402 ar402_0_0 nr402_0_0 hbr402_0_0 hsr402_0_0 r329.2 ar329_1_2 nr329_1_2 hbr329_1_2 (Tq hsr329_1_2 (((le354.trans le358).trans le380).trans le407)) j305 1 hs406 _ hr410) ?_
         rintro _ F24 w412 _ hs413 le414 ⟨ar409_0_0, nr409_0_0, rfl, rfl, hbr409_0_0, hsr409_0_0⟩
         refine Nss (Rg [0, 1, 2, 3, 4] ?_)
         refine Ld hs413.at2 ?_
         refine Ld hs413.at1 ?_
         refine Vs 1 ?_
         refine Al' 56 #[(vi 0), (vi 0), (.slice none ([] : List Expr).length 0), (vi 0), (vi 0), (.slice none ([] : List Expr).length 0)] hs413 (fun b416 w417 hs418 => ?_)
         refine St0 #[(vi r154.2.Op), (vi r154.2.Value), (.slice ar154_1_2 r154.2.Kids.length nr154_1_2), (vi r329.2.Op), (vi r329.2.Value), (.slice ar329_1_2 r329.2.Kids.length nr329_1_2)] hs418 (fun w419 hs420 => ?_)
         refine Nss (Rg [0, 1] ?_)
         refine Vs 1 ?_
         refine Ld hs420.at4 ?_
         refine Nt ?_
         refine Bk ?_
         refine Sq (Rg [0, 1] ?_)
         refine Vs 2 ?_
         refine Nt ?_
         obtain ⟨j424, hj426, h427⟩ := bind_some h411
         refine Tu (fun f w => ∃ (F25 : Mem) (aj424_0 : TO) (nj424_0 : Nat) (ej424_0 : Option Nat × Obj) (aj424_1 : TO) (nj424_1 : Nat) (ej424_1 : Option Nat × Obj) (aj424_2 : TO) (nj424_2 : Nat) (ej424_2 : Option Nat × Obj), HS wb Fb w F25 ((sb bp0 (Ae r409 ar409_0_0 nr409_0_0) 108) :: (sb bp1 #[(.slice aj424_0 j424.1.length nj424_0), (.slice aj424_1 j424.2.1.length nj424_1), (.slice aj424_2 j424.2.2.length nj424_2), (.slice a1_3 x1.Repeats.length n1_3)] 26) :: ej424_0 :: ej424_1 :: ej424_2 :: e1_3 :: Lf) /\ Tn F24 F25 /\ FI f [] [] /\ Av Ay 56 F25 aj424_0 nj424_0 j424.1 ej424_0 /\ Av Ay 56 F25 aj424_1 nj424_1 j424.2.1 ej424_1 /\ Av Ay 56 F25 aj424_2 nj424_2 j424.2.2 ej424_2) ?_ ?_
         ·refine Cd hj426 (fun hb428 h429 => ?_) (fun hb428 h430 => ?_)
          ·obtain ⟨j436, hj438, h439⟩ := bind_some h429
           refine RD 10 11 [(sb b416 #[(vi r154.2.Op), (vi r154.2.Value), (.slice ar154_1_2 r154.2.Kids.length nr154_1_2), (vi r329.2.Op), (vi r329.2.Value), (.slice ar329_1_2 r329.2.Kids.length nr329_1_2)] 56), (sb bp0 (Ae r409 ar409_0_0 nr409_0_0) 108), (sb b336 (Ai r329.2 ar329_1_2 nr329_1_2) 33), (sb b161 (Ai r154.2 ar154_1_2 nr154_1_2) 33), (sb b26 #[(vi j27.1), (vi j27.2.1), (.string ⟨(j27.2.2).toArray⟩)] 110), e1_1, e1_2, e1_3] [(sb bp1 (AU x1 a1_0 n1_0 a1_1 n1_1 a1_2 n1_2 a1_3 n1_3) 26)] hs420 (fun f w => ∃ (F26 : Mem) (aj436_0 : TO) (nj436_0 : Nat) (ej436_0 : Option Nat × Obj), HS wb Fb w F26 ((sb bp0 (Ae r409 ar409_0_0 nr409_0_0) 108) :: (sb bp1 #[(.slice aj436_0 j436.length nj436_0), (.slice a1_1 x1.Multipliers.length n1_1), (.slice a1_2 x1.Penalties.length n1_2), (.slice a1_3 x1.Repeats.length n1_3)] 26) :: ej436_0 :: e1_1 :: e1_2 :: e1_3 :: Lf) /\ Tn F24 F26 /\ FI f [] [] /\ Av Ay 56 F26 aj436_0 nj436_0 j436 ej436_0) (fun wd431 hw432 => ?_) ?_
           ·refine Dv [0, 1, 2, 3] ?_
            refine Dl 4 (fun _ hq => ((hq.2 rfl).2 0 _ _ rfl)) ?_
            refine Dl 5 (fun _ hq => (hq.1.2 0 _ _ rfl)) ?_
            refine D1 6 ?_
            refine DBs 56 [(vi r154.2.Op), (vi r154.2.Value), (.slice ar154_1_2 r154.2.Kids.length nr154_1_2), (vi r329.2.Op), (vi r329.2.Value), (.slice ar329_1_2 r329.2.Kids.length nr329_1_2)] hw432 (To _) (fun b440 w441 hs442 => ?_)
            have hr444 : Av Ay 56 F24 (some ⟨b440, 0, none⟩) 1 [({ When := r154.2, Then := r329.2 } : Clause)] (some b440, .cells ([(vi r154.2.Op), (vi r154.2.Value), (.slice ar154_1_2 r154.2.Kids.length nr154_1_2), (vi r329.2.Op), (vi r329.2.Value), (.slice ar329_1_2 r329.2.Kids.length nr329_1_2)] : List Value).toArray 56 (0, 0)) := TH ⟨⟨ar154_1_2, nr154_1_2, ar329_1_2, nr329_1_2, rfl, hbr154_1_2, (Tq hsr154_1_2 (((((((le298.trans le304).trans le334).trans le354).trans le358).trans le380).trans le407).trans le414)), hbr329_1_2, (Tq hsr329_1_2 ((((le354.trans le358).trans le380).trans le407).trans le414))⟩, rfl⟩ (by simp)
            refine D1 7 ?_
            obtain ⟨r445, hap446, h447⟩ := bind_some hj438
            refine Qf GR hs442 (hr1_0.mono ((((((((((((le25.trans le55).trans le125).trans le131).trans le159).trans le298).trans le304).trans le334).trans le354).trans le358).trans le380).trans le407).trans le414)) (hs442.rd0 hr444) hap446 (To _) (fun a448 n449 e450 w451 hs452 hr453 => ?_)
            refine D1 8 ?_
            refine TC (l' := [true, true, true, true, true, true, true, true, true, false, false]) (zd := false) (by kernel_rfl) (by kernel_rfl) (dst := (some 177)) (ty := 0) (g := none) (by kernel_rfl) rfl (Ca (x := (.tmp 169)) (a := ⟨bp1, 0, none⟩) rfl) (Bg hs452 (To _) (by simp) (fun _ => by simp)) ?_
            refine Dv [9] ?_
            refine D1 10 ?_
            refine RO #[(.slice a448 r445.length n449), (.slice a1_1 x1.Multipliers.length n1_1), (.slice a1_2 x1.Penalties.length n1_2), (.slice a1_3 x1.Repeats.length n1_3)] hs452 (To _) (fun w454 hs455 => ?_)
            obtain rfl := Ab h447
            have hs456 := hs455.dr0.dr0.dr1.dr1.dr1
            exact TE (by kernel_rfl) ⟨F24, a448, n449, e450, hs456, (To _), fI, hr453⟩
           ·rintro f w433 ⟨F26, aj436_0, nj436_0, ej436_0, hs434, le435, ⟨_, rfl⟩, hrj436_0⟩
            obtain rfl := Ab h439
            exact .inl ⟨rfl, F26, aj436_0, nj436_0, ej436_0, a1_1, n1_1, e1_1, a1_2, n1_2, e1_2, hs434, le435, fI, hrj436_0, (hr1_1.mono (((((((((((((le25.trans le55).trans le125).trans le131).trans le159).trans le298).trans le304).trans le334).trans le354).trans le358).trans le380).trans le407).trans le414).trans le435)), (hr1_2.mono (((((((((((((le25.trans le55).trans le125).trans le131).trans le159).trans le298).trans le304).trans le334).trans le354).trans le358).trans le380).trans le407).trans le414).trans le435))⟩
          ·refine Sq (Rg [0, 1] ?_)
           refine Vs 2 ?_
           refine Nt ?_
           obtain ⟨j460, hj462, h463⟩ := bind_some h430
           refine Tu (fun f w => ∃ (F27 : Mem) (aj460_0 : TO) (nj460_0 : Nat) (ej460_0 : Option Nat × Obj) (aj460_1 : TO) (nj460_1 : Nat) (ej460_1 : Option Nat × Obj), HS wb Fb w F27 ((sb bp0 (Ae r409 ar409_0_0 nr409_0_0) 108) :: (sb bp1 #[(.slice a1_0 x1.Points.length n1_0), (.slice aj460_0 j460.1.length nj460_0), (.slice aj460_1 j460.2.length nj460_1), (.slice a1_3 x1.Repeats.length n1_3)] 26) :: e1_0 :: ej460_0 :: ej460_1 :: e1_3 :: Lf) /\ Tn F24 F27 /\ FI f [] [] /\ Av Ay 56 F27 aj460_0 nj460_0 j460.1 ej460_0 /\ Av Ay 56 F27 aj460_1 nj460_1 j460.2 ej460_1) ?_ ?_
           ·refine Cd hj462 (fun hb464 h465 => ?_) (fun hb464 h466 => ?_)
            ·obtain ⟨j472, hj474, h475⟩ := bind_some h465
             refine RD 10 11 [(sb b416 #[(vi r154.2.Op), (vi r154.2.Value), (.slice ar154_1_2 r154.2.Kids.length nr154_1_2), (vi r329.2.Op), (vi r329.2.Value), (.slice ar329_1_2 r329.2.Kids.length nr329_1_2)] 56), (sb bp0 (Ae r409 ar409_0_0 nr409_0_0) 108), (sb b336 (Ai r329.2 ar329_1_2 nr329_1_2) 33), (sb b161 (Ai r154.2 ar154_1_2 nr154_1_2) 33), (sb b26 #[(vi j27.1), (vi j27.2.1), (.string ⟨(j27.2.2).toArray⟩)] 110), e1_0, e1_2, e1_3] [(sb bp1 (AU x1 a1_0 n1_0 a1_1 n1_1 a1_2 n1_2 a1_3 n1_3) 26)] hs420 (fun f w => ∃ (F28 : Mem) (aj472_0 : TO) (nj472_0 : Nat) (ej472_0 : Option Nat × Obj), HS wb Fb w F28 ((sb bp0 (Ae r409 ar409_0_0 nr409_0_0) 108) :: (sb bp1 #[(.slice a1_0 x1.Points.length n1_0), (.slice aj472_0 j472.length nj472_0), (.slice a1_2 x1.Penalties.length n1_2), (.slice a1_3 x1.Repeats.length n1_3)] 26) :: e1_0 :: ej472_0 :: e1_2 :: e1_3 :: Lf) /\ Tn F24 F28 /\ FI f [] [] /\ Av Ay 56 F28 aj472_0 nj472_0 j472 ej472_0) (fun wd467 hw468 => ?_) ?_
             ·refine Dv [0, 1, 2, 3] ?_
              refine Dl 4 (fun _ hq => ((hq.2 rfl).2 0 _ _ rfl)) ?_
              refine Dl 5 (fun _ hq => (hq.1.2 0 _ _ rfl)) ?_
              refine D1 6 ?_
              refine DBs 56 [(vi r154.2.Op), (vi r154.2.Value), (.slice ar154_1_2 r154.2.Kids.length nr154_1_2), (vi r329.2.Op), (vi r329.2.Value), (.slice ar329_1_2 r329.2.Kids.length nr329_1_2)] hw468 (To _) (fun b476 w477 hs478 => ?_)
              have hr480 : Av Ay 56 F24 (some ⟨b476, 0, none⟩) 1 [({ When := r154.2, Then := r329.2 } : Clause)] (some b476, .cells ([(vi r154.2.Op), (vi r154.2.Value), (.slice ar154_1_2 r154.2.Kids.length nr154_1_2), (vi r329.2.Op), (vi r329.2.Value), (.slice ar329_1_2 r329.2.Kids.length nr329_1_2)] : List Value).toArray 56 (0, 0)) := TH ⟨⟨ar154_1_2, nr154_1_2, ar329_1_2, nr329_1_2, rfl, hbr154_1_2, (Tq hsr154_1_2 (((((((le298.trans le304).trans le334).trans le354).trans le358).trans le380).trans le407).trans le414)), hbr329_1_2, (Tq hsr329_1_2 ((((le354.trans le358).trans le380).trans le407).trans le414))⟩, rfl⟩ (by simp)
              refine D1 7 ?_
              obtain ⟨r481, hap482, h483⟩ := bind_some hj474
              refine TI (l' := [true, true, true, true, true, true, true, true, false, false, false]) (zd := false) (by kernel_rfl) (by kernel_rfl) (dst := (some 188)) (ty := 23) (g := none) (by kernel_rfl) rfl (x := (.tmp 185)) (y := (.tmp 187)) (t := 23) (t2 := 23) (by_ := 80) (z := (.agg #[(vi 0), (vi 0), (.slice none ([] : List Expr).length 0), (vi 0), (vi 0), (.slice none ([] : List Expr).length 0)])) (a2 := (some ⟨b476, 0, none⟩)) (c2 := 1) (m := [({ When := r154.2, Then := r329.2 } : Clause)]) (T := Ay) (E := 56) (a := a1_1) (cap := n1_1) (l := x1.Multipliers) rfl rfl (by kernel_rfl) (by decide) (by kernel_rfl) (by kernel_rfl) rfl GR hs478 (k := 8) rfl (hr1_1.mono ((((((((((((le25.trans le55).trans le125).trans le131).trans le159).trans le298).trans le304).trans le334).trans le354).trans le358).trans le380).trans le407).trans le414)) (hs478.rd0 hr480) (r := r481) hap482 (To _) (fun _ => by simp) (fun _ _ => by simp) (fun a484 n485 e486 w487 (hs488 : HS wb Fb w487 F24 ((some b476, .cells ([(vi r154.2.Op), (vi r154.2.Value), (.slice ar154_1_2 r154.2.Kids.length nr154_1_2), (vi r329.2.Op), (vi r329.2.Value), (.slice ar329_1_2 r329.2.Kids.length nr329_1_2)] : List Value).toArray 56 (0, 0)) :: (sb b416 #[(vi r154.2.Op), (vi r154.2.Value), (.slice ar154_1_2 r154.2.Kids.length nr154_1_2), (vi r329.2.Op), (vi r329.2.Value), (.slice ar329_1_2 r329.2.Kids.length nr329_1_2)] 56) :: (sb bp0 (Ae r409 ar409_0_0 nr409_0_0) 108) :: (sb b336 (Ai r329.2 ar329_1_2 nr329_1_2) 33) :: (sb b161 (Ai r154.2 ar154_1_2 nr154_1_2) 33) :: (sb b26 #[(vi j27.1), (vi j27.2.1), (.string ⟨(j27.2.2).toArray⟩)] 110) :: (sb bp1 (AU x1 a1_0 n1_0 a1_1 n1_1 a1_2 n1_2 a1_3 n1_3) 26) :: e1_0 :: e486 :: e1_2 :: e1_3 :: Lf)) hr489 => ?_)
              refine D1 8 ?_
              refine TC (l' := [true, true, true, true, true, true, true, true, true, false, false]) (zd := false) (by kernel_rfl) (by kernel_rfl) (dst := (some 189)) (ty := 0) (g := none) (by kernel_rfl) rfl (Ca (x := (.tmp 181)) (a := ⟨bp1, 0, none⟩) rfl) (Bg hs488 (To _) (by simp) (fun _ => by simp)) ?_
              refine Dv [9] ?_
              refine D1 10 ?_
              refine RO #[(.slice a1_0 x1.Points.length n1_0), (.slice a484 r481.length n485), (.slice a1_2 x1.Penalties.length n1_2), (.slice a1_3 x1.Repeats.length n1_3)] hs488 (To _) (fun w490 hs491 => ?_)
              obtain rfl := Ab h483
              have hs492 := hs491.dr0.dr0.dr1.dr1.dr1
              exact TE (by kernel_rfl) ⟨F24, a484, n485, e486, hs492, (To _), fI, hr489⟩
             ·rintro f w469 ⟨F28, aj472_0, nj472_0, ej472_0, hs470, le471, ⟨_, rfl⟩, hrj472_0⟩
              obtain rfl := Ab h475
              exact .inl ⟨rfl, F28, aj472_0, nj472_0, ej472_0, a1_2, n1_2, e1_2, hs470, le471, fI, hrj472_0, (hr1_2.mono (((((((((((((le25.trans le55).trans le125).trans le131).trans le159).trans le298).trans le304).trans le334).trans le354).trans le358).trans le380).trans le407).trans le414).trans le471))⟩
            ·refine Sq (Rg [0, 1] ?_)
             refine Vs 2 ?_
             refine Nt ?_
             obtain ⟨j496, hj498, h499⟩ := bind_some h466
             refine Tu (fun f w => ∃ (F29 : Mem) (aj496_0 : TO) (nj496_0 : Nat) (ej496_0 : Option Nat × Obj), HS wb Fb w F29 ((sb bp0 (Ae r409 ar409_0_0 nr409_0_0) 108) :: (sb bp1 #[(.slice a1_0 x1.Points.length n1_0), (.slice a1_1 x1.Multipliers.length n1_1), (.slice aj496_0 j496.length nj496_0), (.slice a1_3 x1.Repeats.length n1_3)] 26) :: e1_0 :: e1_1 :: ej496_0 :: e1_3 :: Lf) /\ Tn F24 F29 /\ FI f [] [] /\ Av Ay 56 F29 aj496_0 nj496_0 j496 ej496_0) ?_ ?_
             ·refine Cd hj498 (fun hb500 h501 => ?_) (fun hb500 h502 => ?_)
              ·obtain ⟨j508, hj510, h511⟩ := bind_some h501
               refine RD 10 11 [(sb b416 #[(vi r154.2.Op), (vi r154.2.Value), (.slice ar154_1_2 r154.2.Kids.length nr154_1_2), (vi r329.2.Op), (vi r329.2.Value), (.slice ar329_1_2 r329.2.Kids.length nr329_1_2)] 56), (sb bp0 (Ae r409 ar409_0_0 nr409_0_0) 108), (sb b336 (Ai r329.2 ar329_1_2 nr329_1_2) 33), (sb b161 (Ai r154.2 ar154_1_2 nr154_1_2) 33), (sb b26 #[(vi j27.1), (vi j27.2.1), (.string ⟨(j27.2.2).toArray⟩)] 110), e1_0, e1_1, e1_3] [(sb bp1 (AU x1 a1_0 n1_0 a1_1 n1_1 a1_2 n1_2 a1_3 n1_3) 26)] hs420 (fun f w => ∃ (F30 : Mem) (aj508_0 : TO) (nj508_0 : Nat) (ej508_0 : Option Nat × Obj), HS wb Fb w F30 ((sb bp0 (Ae r409 ar409_0_0 nr409_0_0) 108) :: (sb bp1 #[(.slice a1_0 x1.Points.length n1_0), (.slice a1_1 x1.Multipliers.length n1_1), (.slice aj508_0 j508.length nj508_0), (.slice a1_3 x1.Repeats.length n1_3)] 26) :: e1_0 :: e1_1 :: ej508_0 :: e1_3 :: Lf) /\ Tn F24 F30 /\ FI f [] [] /\ Av Ay 56 F30 aj508_0 nj508_0 j508 ej508_0) (fun wd503 hw504 => ?_) ?_
               ·refine Dv [0, 1, 2, 3] ?_
                refine Dl 4 (fun _ hq => ((hq.2 rfl).2 0 _ _ rfl)) ?_
                refine Dl 5 (fun _ hq => (hq.1.2 0 _ _ rfl)) ?_
                refine D1 6 ?_
                refine DBs 56 [(vi r154.2.Op), (vi r154.2.Value), (.slice ar154_1_2 r154.2.Kids.length nr154_1_2), (vi r329.2.Op), (vi r329.2.Value), (.slice ar329_1_2 r329.2.Kids.length nr329_1_2)] hw504 (To _) (fun b512 w513 hs514 => ?_)
                have hr516 : Av Ay 56 F24 (some ⟨b512, 0, none⟩) 1 [({ When := r154.2, Then := r329.2 } : Clause)] (some b512, .cells ([(vi r154.2.Op), (vi r154.2.Value), (.slice ar154_1_2 r154.2.Kids.length nr154_1_2), (vi r329.2.Op), (vi r329.2.Value), (.slice ar329_1_2 r329.2.Kids.length nr329_1_2)] : List Value).toArray 56 (0, 0)) := TH ⟨⟨ar154_1_2, nr154_1_2, ar329_1_2, nr329_1_2, rfl, hbr154_1_2, (Tq hsr154_1_2 (((((((le298.trans le304).trans le334).trans le354).trans le358).trans le380).trans le407).trans le414)), hbr329_1_2, (Tq hsr329_1_2 ((((le354.trans le358).trans le380).trans le407).trans le414))⟩, rfl⟩ (by simp)
                refine D1 7 ?_
                obtain ⟨r517, hap518, h519⟩ := bind_some hj510
                refine TI (l' := [true, true, true, true, true, true, true, true, false, false, false]) (zd := false) (by kernel_rfl) (by kernel_rfl) (dst := (some 200)) (ty := 23) (g := none) (by kernel_rfl) rfl (x := (.tmp 197)) (y := (.tmp 199)) (t := 23) (t2 := 23) (by_ := 80) (z := (.agg #[(vi 0), (vi 0), (.slice none ([] : List Expr).length 0), (vi 0), (vi 0), (.slice none ([] : List Expr).length 0)])) (a2 := (some ⟨b512, 0, none⟩)) (c2 := 1) (m := [({ When := r154.2, Then := r329.2 } : Clause)]) (T := Ay) (E := 56) (a := a1_2) (cap := n1_2) (l := x1.Penalties) rfl rfl (by kernel_rfl) (by decide) (by kernel_rfl) (by kernel_rfl) rfl GR hs514 (k := 9) rfl (hr1_2.mono ((((((((((((le25.trans le55).trans le125).trans le131).trans le159).trans le298).trans le304).trans le334).trans le354).trans le358).trans le380).trans le407).trans le414)) (hs514.rd0 hr516) (r := r517) hap518 (To _) (fun _ => by simp) (fun _ _ => by simp) (fun a520 n521 e522 w523 (hs524 : HS wb Fb w523 F24 ((some b512, .cells ([(vi r154.2.Op), (vi r154.2.Value), (.slice ar154_1_2 r154.2.Kids.length nr154_1_2), (vi r329.2.Op), (vi r329.2.Value), (.slice ar329_1_2 r329.2.Kids.length nr329_1_2)] : List Value).toArray 56 (0, 0)) :: (sb b416 #[(vi r154.2.Op), (vi r154.2.Value), (.slice ar154_1_2 r154.2.Kids.length nr154_1_2), (vi r329.2.Op), (vi r329.2.Value), (.slice ar329_1_2 r329.2.Kids.length nr329_1_2)] 56) :: (sb bp0 (Ae r409 ar409_0_0 nr409_0_0) 108) :: (sb b336 (Ai r329.2 ar329_1_2 nr329_1_2) 33) :: (sb b161 (Ai r154.2 ar154_1_2 nr154_1_2) 33) :: (sb b26 #[(vi j27.1), (vi j27.2.1), (.string ⟨(j27.2.2).toArray⟩)] 110) :: (sb bp1 (AU x1 a1_0 n1_0 a1_1 n1_1 a1_2 n1_2 a1_3 n1_3) 26) :: e1_0 :: e1_1 :: e522 :: e1_3 :: Lf)) hr525 => ?_)
                refine D1 8 ?_
                refine TC (l' := [true, true, true, true, true, true, true, true, true, false, false]) (zd := false) (by kernel_rfl) (by kernel_rfl) (dst := (some 201)) (ty := 0) (g := none) (by kernel_rfl) rfl (Ca (x := (.tmp 193)) (a := ⟨bp1, 0, none⟩) rfl) (Bg hs524 (To _) (by simp) (fun _ => by simp)) ?_
                refine Dv [9] ?_
                refine D1 10 ?_
                refine RO #[(.slice a1_0 x1.Points.length n1_0), (.slice a1_1 x1.Multipliers.length n1_1), (.slice a520 r517.length n521), (.slice a1_3 x1.Repeats.length n1_3)] hs524 (To _) (fun w526 hs527 => ?_)
                obtain rfl := Ab h519
                have hs528 := hs527.dr0.dr0.dr1.dr1.dr1
                exact TE (by kernel_rfl) ⟨F24, a520, n521, e522, hs528, (To _), fI, hr525⟩
               ·rintro f w505 ⟨F30, aj508_0, nj508_0, ej508_0, hs506, le507, ⟨_, rfl⟩, hrj508_0⟩
                obtain rfl := Ab h511
                exact .inl ⟨rfl, F30, aj508_0, nj508_0, ej508_0, hs506, le507, fI, hrj508_0⟩
              ·refine Sc ?_
               obtain rfl := Ab h502
               exact .inl ⟨rfl, F24, a1_2, n1_2, e1_2, hs420.dr0.dr1.dr1.dr1, (To _), fI, (hr1_2.mono ((((((((((((le25.trans le55).trans le125).trans le131).trans le159).trans le298).trans le304).trans le334).trans le354).trans le358).trans le380).trans le407).trans le414))⟩
             ·rintro f w493 ⟨F29, aj496_0, nj496_0, ej496_0, hs494, le495, ⟨_, rfl⟩, hrj496_0⟩
              obtain rfl := Ab h499
              exact .inl ⟨rfl, F29, a1_1, n1_1, e1_1, aj496_0, nj496_0, ej496_0, hs494, le495, fI, (hr1_1.mono (((((((((((((le25.trans le55).trans le125).trans le131).trans le159).trans le298).trans le304).trans le334).trans le354).trans le358).trans le380).trans le407).trans le414).trans le495)), hrj496_0⟩
           ·rintro f w457 ⟨F27, aj460_0, nj460_0, ej460_0, aj460_1, nj460_1, ej460_1, hs458, le459, ⟨_, rfl⟩, hrj460_0, hrj460_1⟩
            obtain rfl := Ab h463
            exact .inl ⟨rfl, F27, a1_0, n1_0, e1_0, aj460_0, nj460_0, ej460_0, aj460_1, nj460_1, ej460_1, hs458, le459, fI, (hr1_0.mono (((((((((((((le25.trans le55).trans le125).trans le131).trans le159).trans le298).trans le304).trans le334).trans le354).trans le358).trans le380).trans le407).trans le414).trans le459)), hrj460_0, hrj460_1⟩
         ·rintro f w421 ⟨F25, aj424_0, nj424_0, ej424_0, aj424_1, nj424_1, ej424_1, aj424_2, nj424_2, ej424_2, hs422, le423, ⟨_, rfl⟩, hrj424_0, hrj424_1, hrj424_2⟩
          refine AA ?_
          obtain rfl := Ab h427
          exact ReB [] hs422 (((((((((((((le25.trans le55).trans le125).trans le131).trans le159).trans le298).trans le304).trans le334).trans le354).trans le358).trans le380).trans le407).trans le414).trans le423) ⟨ar409_0_0, nr409_0_0, aj424_0, nj424_0, ej424_0, aj424_1, nj424_1, ej424_1, aj424_2, nj424_2, ej424_2, a1_3, n1_3, e1_3, rfl, rfl, hbr409_0_0, (Tq hsr409_0_0 le423), hrj424_0, hrj424_1, hrj424_2, (hr1_3.mono (((((((((((((le25.trans le55).trans le125).trans le131).trans le159).trans le298).trans le304).trans le334).trans le354).trans le358).trans le380).trans le407).trans le414).trans le423))⟩
def ClR (N : Nat) (q : Ac) (l : List Clause) (at_ : Int) (fin : Ac -> List Clause -> Ak ⊕ (Ac × BC)) : Option (Ak ⊕ (Ac × BC)) :=
 (AG N q ([58] : TN)).bind fun r286 => sk r286 (fun b489 => some (.inl b489)) (fun r289 => ((AQ N r289).bind fun r296 => sk r296 (fun b482 => some (.inl b482)) (fun r299 => ((AG N r299.1 ([61, 62] : TN)).bind fun r319 => sk r319 (fun b475 => some (.inl b475)) (fun r322 => ((AQ N r322).bind fun r329 => sk r329 (fun b468 => some (.inl b468)) (fun r332 => ((Br N r332.1).bind fun r354 => sk r354 (fun b461 => some (.inl b461)) (fun _ => (((BR N r332.1 l at_).bind fun r378 => sk r378 (fun b388 => some (.inl b388)) (fun _ => some (.inr ()))).bind fun j369 => sk j369 (fun b455 => some (.inl b455)) (fun _ => ((AK N r332.1 r299.2 2).bind fun r396 => sk r396 (fun b448 => some (.inl b448)) (fun _ => ((AK N r332.1 r332.2 1).bind fun r406 => sk r406 (fun b441 => some (.inl b441)) (fun _ => (((CU l [({ When := r299.2.Expr, Then := r332.2.Expr } : Clause)]).bind fun r430 => some r430).bind fun j421 => some (fin r332.1 j421)))))))))))))))))
def Fz4 {β : Type} (N : Nat) (q : Aa) (full : Bool) (at_ : Int) (x : Expr) (jx : Int) (y : Expr) (jy : Int) (fin : Aa -> Expr -> Expr -> Option β) : Option β :=
 (bif full then ((A2 N q 2 at_).bind fun r395 => some (r395.L, r395.At, r395.Open, r395.Bad, r395.Where)) else some (q.L, q.At, q.Open, q.Bad, q.Where)).bind fun j381 => ((AX N ({ L := j381.1, At := j381.2.1, Open := j381.2.2.1, Bad := j381.2.2.2.1, Where := j381.2.2.2.2 } : Aa) x jx 2).bind fun r402 => ((AX N r402 y jy 1).bind fun r409 => fin r409 x y))
def Fz3 {β : Type} (N : Nat) (q : Aa) (full : Bool) (at_ : Int) (x : Expr) (jx : Int) (fin : Aa -> Expr -> Expr -> Option β) : Option β :=
 ((idx q.L q.At).bind fun x315 => some x315.At).bind fun j305 => ((Bn N q).bind fun r329 => ((Bt N r329.1).bind fun r349 => Fz4 N r349 full at_ x jx r329.2 j305 fin))
def Fz2 {β : Type} (N : Nat) (q : Aa) (full : Bool) (at_ : Int) (x : Expr) (jx : Int) (fin : Aa -> Expr -> Expr -> Option β) : Option β :=
 (AD N q ([61, 62] : TN)).bind fun r293 => Fz3 N r293 full at_ x jx fin
def Fz1 {β : Type} (N : Nat) (q : Aa) (full : Bool) (at_ : Int) (fin : Aa -> Expr -> Expr -> Option β) : Option β :=
 ((idx q.L q.At).bind fun x140 => some x140.At).bind fun j132 => ((Bn N q).bind fun r154 => Fz2 N r154.1 full at_ r154.2 j132 fin)
def ClF {β : Type} (N : Nat) (q : Aa) (full : Bool) (at_ : Int) (fin : Aa -> Expr -> Expr -> Option β) : Option β :=
 (AD N q ([58] : TN)).bind fun r120 => Fz1 N r120 full at_ fin
def RpR (N : Nat) (q : Ac) (l : List Expr) (at_ : Int) (fin : Ac -> List Expr -> Ak ⊕ (Ac × BC)) : Option (Ak ⊕ (Ac × BC)) :=
 (AG N q ([58] : TN)).bind fun r51 => sk r51 (fun b242 => some (.inl b242)) (fun r54 => ((AQ N r54).bind fun r61 => sk r61 (fun b235 => some (.inl b235)) (fun r64 => ((Br N r64.1).bind fun r77 => sk r77 (fun b228 => some (.inl b228)) (fun _ => (((CV N r64.1 l at_).bind fun r100 => sk r100 (fun b110 => some (.inl b110)) (fun _ => some (.inr ()))).bind fun j92 => sk j92 (fun b222 => some (.inl b222)) (fun _ => ((AK N r64.1 r64.2 1).bind fun r118 => sk r118 (fun b215 => some (.inl b215)) (fun _ => (((CU l [({ Op := 0, Value := 0, Kids := ([] : List Expr) } : Expr)]).bind fun r142 => ((idx r142 (l.length : Int)).bind fun x151 => some (r142.set ((l.length : Int) : Int).toNat (r64.2.Expr)))).bind fun j133 => some (fin r64.1 j133)))))))))))
def Pz2 {β : Type} (N : Nat) (q : Aa) (full : Bool) (at_ : Int) (x : Expr) (jx : Int) (fin : Aa -> Expr -> Option β) : Option β :=
 (Bt N q).bind fun r170 => ((bif full then ((A2 N r170 2 at_).bind fun r191 => some (r191.L, r191.At, r191.Open, r191.Bad, r191.Where)) else some (r170.L, r170.At, r170.Open, r170.Bad, r170.Where)).bind fun j180 => ((AX N ({ L := j180.1, At := j180.2.1, Open := j180.2.2.1, Bad := j180.2.2.2.1, Where := j180.2.2.2.2 } : Aa) x jx 1).bind fun r198 => fin r198 x))
def Pz1 {β : Type} (N : Nat) (q : Aa) (full : Bool) (at_ : Int) (fin : Aa -> Expr -> Option β) : Option β :=
 ((idx q.L q.At).bind fun x140 => some x140.At).bind fun j132 => ((Bn N q).bind fun r154 => Pz2 N r154.1 full at_ r154.2 j132 fin)
def RpF {β : Type} (N : Nat) (q : Aa) (full : Bool) (at_ : Int) (fin : Aa -> Expr -> Option β) : Option β :=
 (AD N q ([58] : TN)).bind fun r120 => Pz1 N r120 full at_ fin
def En (Lf : List Af) (i : Nat) : Bool := match Lf[i]? with
 | some b => (b.Kind == 4) || (b.Kind == 5)
 | none => false
section
variable {N n : Nat} {Lr : List An} {Lf : List Af} (T : IB n Lr Lf)
include T
theorem MR {i : Nat} {a : An} {b : Af} (hi : i < n) (ha : Lr[i]? = some a) (hb : Lf[i]? = some b) : seeR a [10] = (b.Kind == 4) := by
 obtain ⟨a', b', h1, h2, _, _, h5, _⟩ := T.hd hi
 rw [h1] at ha; rw [h2] at hb
 cases ha; cases hb
 unfold seeR
 rcases h5 with ⟨h, _⟩ | ⟨h, _⟩
 ·rcases h.k with ⟨k1, k2, _⟩ | ⟨k1, k2, k3, k4⟩ | ⟨k1, k2, k3, k4⟩ | ⟨k1, k2, k3, _⟩ | ⟨k1, k2⟩ <;> rw [k1, k2]
  ·rfl
  ·rw [k3, show (b.Text == [10]) = false by simpa using k4]; rfl
  ·rw [k3, show (b.Text == [10]) = false by simpa using k4]; rfl
  ·rw [k3]; rfl
  ·rfl
 ·rw [h.a0, h.b5]; rfl
theorem MQ {i : Nat} (hi : i < n) : ((idx Lf (i : Int)).bind fun x => some x.At) = some (atI Lf i) := by
 obtain ⟨a, b, _, h2, _, h4, _⟩ := T.hd hi
 rw [h4]; unfold atI; rw [h2]; rfl
theorem Pm {i : Nat} (hi : i < n) (o : Int) : Br N (PS Lr i o) = some (bif En Lf i then .inr () else .inl ⟨60, atI Lf i⟩) := by
 obtain ⟨a, b, ha, hb, h3, h4, h5, hat⟩ := T.hd hi
 have e1 := Ps T hi ha hb
 have e2 := MR T hi ha hb
 unfold Br
 rw [show (PS Lr i o).l_ = Lr.drop i from rfl, h3]
 simp only [Option.bind_some, e1, LL T hi o [10] ha, e2, hat]
 unfold En atI
 rw [hb]
 simp only
 cases h4 : (b.Kind == 4) <;> cases h5 : (b.Kind == 5) <;> simp [bne, h5, AY, sk]
theorem Of {i : Nat} (hi : i < n) (o : Int) : Bt N (RS Lf i o) = some (bif En Lf i then RS Lf i o else RB Lf i o 60 (atI Lf i)) := by
 obtain ⟨a, b, ha, hb, h3, h4, h5, hat⟩ := T.hd hi
 unfold Bt
 rw [show (RS Lf i o).L = Lf from rfl, show (RS Lf i o).At = (i : Int) from rfl, h4]
 simp only [Option.bind_some, Jw T]
 unfold En atI
 rw [hb]
 simp only
 cases h4 : (b.Kind == 4) <;> cases h5 : (b.Kind == 5) <;> simp [bne, h4, h5] <;> rfl
theorem Ii {i : Nat} (hi : i < n) {o e w : Int} (he : e ≠ 0) : Bt N (RB Lf i o e w) = some (RB Lf i o e w) := by
 obtain ⟨a, b, ha, hb, h3, h4, h5, hat⟩ := T.hd hi
 unfold Bt
 rw [show (RB Lf i o e w).L = Lf from rfl, show (RB Lf i o e w).At = (i : Int) from rfl, h4]
 simp only [Option.bind_some, Kh T he]
 cases ((b.Kind != 4) && (b.Kind != 5)) <;> rfl
theorem LX {i : Nat} {o e w : Int} (hN : 100 < N) (he : e ≠ 0) : Bn N (RB Lf i o e w) = some (RB Lf i o e w, zE) := by
 obtain ⟨k, rfl⟩ : ∃ k, N = k + 7 := ⟨N - 7, by omega⟩
 exact MW (by omega) he k
section
variable {β : Type} {fin : Aa -> Expr -> Expr -> Option β} {full : Bool} {at_ : Int}
theorem NI {i : Nat} {o e w : Int} (he : e ≠ 0) (x : Expr) (jx : Int) (y : Expr) (jy : Int) : Fz4 N (RB Lf i o e w) full at_ x jx y jy fin = fin (RB Lf i o e w) x y := by
 unfold Fz4
 rw [Kh T he]
 have : (bif full then ((some (RB Lf i o e w)).bind fun r395 => some (r395.L, r395.At, r395.Open, r395.Bad, r395.Where)) else some ((RB Lf i o e w).L, (RB Lf i o e w).At, (RB Lf i o e w).Open, (RB Lf i o e w).Bad, (RB Lf i o e w).Where)) = some (Lf, (i : Int), o, e, w) := by cases full <;> rfl
 rw [this]
 simp only [Option.bind_some]
 rw [show (⟨Lf, (i : Int), o, e, w⟩ : Aa) = RB Lf i o e w from rfl, Eo T he, Option.bind_some, Eo T he, Option.bind_some]
theorem Py {i : Nat} (hi : i < n) {o e w : Int} (hN : 100 < N) (he : e ≠ 0) (x : Expr) (jx : Int) : Fz3 N (RB Lf i o e w) full at_ x jx fin = fin (RB Lf i o e w) x zE := by
 unfold Fz3
 rw [show ((idx (RB Lf i o e w).L (RB Lf i o e w).At).bind fun x315 => some x315.At) = _ from MQ T hi, Option.bind_some, LX T hN he, Option.bind_some]
 simp only
 rw [Ii T hi he, Option.bind_some, NI T he]
theorem Pz {i : Nat} (hi : i < n) {o e w : Int} (hN : 100 < N) (he : e ≠ 0) (x : Expr) (jx : Int) : Fz2 N (RB Lf i o e w) full at_ x jx fin = fin (RB Lf i o e w) x zE := by
 unfold Fz2
 rw [Ev T he, Option.bind_some, Py T hi hN he]
theorem RM {i : Nat} (hi : i < n) {o e w : Int} (hN : 100 < N) (he : e ≠ 0) : Fz1 N (RB Lf i o e w) full at_ fin = fin (RB Lf i o e w) zE zE := by
 unfold Fz1
 rw [show ((idx (RB Lf i o e w).L (RB Lf i o e w).At).bind fun x315 => some x315.At) = _ from MQ T hi, Option.bind_some, LX T hN he, Option.bind_some]
 simp only
 rw [Pz T hi hN he]
end
section
variable {β : Type} {fin : Aa -> Expr -> Option β} {full : Bool} {at_ : Int}
theorem NH {i : Nat} (hi : i < n) {o e w : Int} (he : e ≠ 0) (x : Expr) (jx : Int) : Pz2 N (RB Lf i o e w) full at_ x jx fin = fin (RB Lf i o e w) x := by
 unfold Pz2
 rw [Ii T hi he, Option.bind_some, Kh T he]
 have : (bif full then ((some (RB Lf i o e w)).bind fun r395 => some (r395.L, r395.At, r395.Open, r395.Bad, r395.Where)) else some ((RB Lf i o e w).L, (RB Lf i o e w).At, (RB Lf i o e w).Open, (RB Lf i o e w).Bad, (RB Lf i o e w).Where)) = some (Lf, (i : Int), o, e, w) := by cases full <;> rfl
 rw [this]
 simp only [Option.bind_some]
 rw [show (⟨Lf, (i : Int), o, e, w⟩ : Aa) = RB Lf i o e w from rfl, Eo T he, Option.bind_some]
theorem RL {i : Nat} (hi : i < n) {o e w : Int} (hN : 100 < N) (he : e ≠ 0) : Pz1 N (RB Lf i o e w) full at_ fin = fin (RB Lf i o e w) zE := by
 unfold Pz1
 rw [show ((idx (RB Lf i o e w).L (RB Lf i o e w).At).bind fun x315 => some x315.At) = _ from MQ T hi, Option.bind_some, LX T hN he, Option.bind_some]
 simp only
 rw [NH T hi he]
end
end
def C5 (N : Nat) (x0 : TN) (r29 : (List Af)) : (List Af × Int × Int × Int × Int × List Clause × List Clause × List Clause × List Expr) -> Option (Bv (BC × Int × Int) (List Af × Int × Int × Int × Int × List Clause × List Clause × List Clause × List Expr)) := fun s56 =>
 ((bif (s56.2.2.2.1 == 0) then ((idx s56.1 s56.2.1).bind fun x94 => some (x94.Kind != 5)) else some false).bind fun j83 => (bif j83 then (((idx s56.1 s56.2.1).bind fun x124 => some (x124.Kind == 4)).bind fun j116 => (bif j116 then some (.next (s56.1, (W64 (s56.2.1 + 1)), s56.2.2.1, s56.2.2.2.1, s56.2.2.2.2.1, s56.2.2.2.2.2.1, s56.2.2.2.2.2.2.1, s56.2.2.2.2.2.2.2.1, s56.2.2.2.2.2.2.2.2)) else ((CN N ({ L := s56.1, At := s56.2.1, Open := s56.2.2.1, Bad := s56.2.2.2.1, Where := s56.2.2.2.2.1 } : Aa) ({ Points := s56.2.2.2.2.2.1, Multipliers := s56.2.2.2.2.2.2.1, Penalties := s56.2.2.2.2.2.2.2.1, Repeats := s56.2.2.2.2.2.2.2.2 } : BC)).bind fun r145 => some (.next (r145.1.L, r145.1.At, r145.1.Open, r145.1.Bad, r145.1.Where, r145.2.Points, r145.2.Multipliers, r145.2.Penalties, r145.2.Repeats))))) else some (.done (s56.1, s56.2.1, s56.2.2.1, s56.2.2.2.1, s56.2.2.2.2.1, s56.2.2.2.2.2.1, s56.2.2.2.2.2.2.1, s56.2.2.2.2.2.2.2.1, s56.2.2.2.2.2.2.2.2))))
def Gb (N : Nat) (x0 : TN) : Option (BC × Int × Int) :=
 (bif (decide ((x0.length : Int) > 65536)) then some (({ Points := ([] : List Clause), Multipliers := ([] : List Clause), Penalties := ([] : List Clause), Repeats := ([] : List Expr) } : BC), 2, 0) else ((Fi N x0).bind fun r29 => ((Be (C5 N x0 r29) N (r29, 0, 0, 0, 0, ([] : List Clause), ([] : List Clause), ([] : List Clause), ([] : List Expr))).bind fun o => o.k (fun r => some r) (fun s64 => (bif (s64.2.2.2.1 != 0) then some (({ Points := ([] : List Clause), Multipliers := ([] : List Clause), Penalties := ([] : List Clause), Repeats := ([] : List Expr) } : BC), s64.2.2.2.1, s64.2.2.2.2.1) else some (({ Points := s64.2.2.2.2.2.1, Multipliers := s64.2.2.2.2.2.2.1, Penalties := s64.2.2.2.2.2.2.2.1, Repeats := s64.2.2.2.2.2.2.2.2 } : BC), 0, 0))))))
theorem L4 : Au Tryz.prog 23 := fun _ _ => by kernel_rfl
theorem MA (N : Nat) (w0 : World) (F0 : Mem) (hF : TP w0 F0) (x0 : TN) (r : (BC × Int × Int)) (h : Gb N x0 = some r) :
  Calls Tryz.prog 23 ([(.string ⟨(x0).toArray⟩)] : List Value).toArray w0 (Bd w0 F0 fun F' v => ∃ (aq0_0 : TO) (nq0_0 : Nat) (aq0_1 : TO) (nq0_1 : Nat) (aq0_2 : TO) (nq0_2 : Nat) (aq0_3 : TO) (nq0_3 : Nat), v = (.tuple #[(.agg (AU r.1 aq0_0 nq0_0 aq0_1 nq0_1 aq0_2 nq0_2 aq0_3 nq0_3)), (vi r.2.1), (vi r.2.2)]) /\ LC r.1.Points.length nq0_0 /\ SlA Ay F' aq0_0 r.1.Points /\ LC r.1.Multipliers.length nq0_1 /\ SlA Ay F' aq0_1 r.1.Multipliers /\ LC r.1.Penalties.length nq0_2 /\ SlA Ay F' aq0_2 r.1.Penalties /\ LC r.1.Repeats.length nq0_3 /\ SlA As F' aq0_3 r.1.Repeats) := by
 have hs0 := Tp hF
 refine Go 71 Tryz.func23 ?_
 refine Sq (Rg [0, 1, 2] ?_)
 refine Al' 26 #[(.slice none ([] : List Clause).length 0), (.slice none ([] : List Clause).length 0), (.slice none ([] : List Clause).length 0), (.slice none ([] : List Expr).length 0)] hs0 (fun b21 w22 hs23 => ?_)
 refine Vs 2 ?_
 refine Nss ?_
 refine Sq (Rg [0, 1, 2] ?_)
 refine Vs 3 ?_
 refine Nt ?_
 refine Cd h (fun hb24 h25 => ?_) (fun hb24 h26 => ?_)
 ·refine Sq (Rg [0, 1, 2, 3] ?_)
  refine Vs 1 ?_
  refine St0 #[(.slice none ([] : List Clause).length 0), (.slice none ([] : List Clause).length 0), (.slice none ([] : List Clause).length 0), (.slice none ([] : List Expr).length 0)] hs23 (fun w27 hs28 => ?_)
  refine Vs 2 ?_
  refine Nt ?_
  refine Rt ?_
  refine Aj ?_
  obtain rfl := Ab h25
  exact ⟨rfl, (.tuple #[(.agg #[(.slice none ([] : List Clause).length 0), (.slice none ([] : List Clause).length 0), (.slice none ([] : List Clause).length 0), (.slice none ([] : List Expr).length 0)]), (vi 2), (vi 0)]), AE (l := [.cell 2 26, .tmp 3, .tmp 4]) (by kernel_rfl) (vs := [(.agg #[(.slice none ([] : List Clause).length 0), (.slice none ([] : List Clause).length 0), (.slice none ([] : List Clause).length 0), (.slice none ([] : List Expr).length 0)]), (vi 2), (vi 0)]) ⟨b21, 0, rfl, Am (t := 26) (g := true) (s := 4) (by kernel_rfl) hs28.at0 rfl (by decide), ⟨rfl, ⟨rfl, trivial⟩⟩⟩, (.tuple #[(.agg #[(.slice none ([] : List Clause).length 0), (.slice none ([] : List Clause).length 0), (.slice none ([] : List Clause).length 0), (.slice none ([] : List Expr).length 0)]), (vi 2), (vi 0)]), F0, rfl, hs28.clear, ⟨none, 0, none, 0, none, 0, none, 0, rfl, Tr, (.inl rfl), Tr, (.inl rfl), Tr, (.inl rfl), Tr, (.inl rfl)⟩⟩
 ·refine Sc ?_
  refine Ad ?_
  refine Sq (Rg [0, 1, 2, 3, 4] ?_)
  refine Vs 1 ?_
  obtain ⟨r29, hr30, h31⟩ := bind_some h26
  refine Cl' K7 hs23 (Md N w22 F0 hs23.pers x0 _ hr30) ?_
  rintro _ F1 w33 hs34 le35 ⟨ar29_0_0, nr29_0_0, rfl, hbr29_0_0, hsr29_0_0⟩
  refine Vs 1 ?_
  refine Bx' 108 #[(.slice ar29_0_0 r29.length nr29_0_0), (vi 0), (vi 0), (vi 0), (vi 0)] hs34 (fun b37 w38 hs39 => ?_)
  refine Vs 1 ?_
  refine Nss (Rg [0, 1, 2] ?_)
  refine Vs 1 ?_
  refine Al' 26 #[(.slice none ([] : List Clause).length 0), (.slice none ([] : List Clause).length 0), (.slice none ([] : List Clause).length 0), (.slice none ([] : List Expr).length 0)] hs39 (fun b40 w41 hs42 => ?_)
  refine St0 #[(.slice none ([] : List Clause).length 0), (.slice none ([] : List Clause).length 0), (.slice none ([] : List Clause).length 0), (.slice none ([] : List Expr).length 0)] hs42 (fun w43 hs44 => ?_)
  refine Nss ?_
  have hs45 := hs44.dummy (oc #[] 0)
  have hs47 := hs45.dummy (oc #[] 0)
  have hs49 := hs47.dummy (oc #[] 0)
  have hs51 := hs49.dummy (oc #[] 0)
  obtain ⟨o53, ho54, h55⟩ := bind_some h31
  refine Tu (fun f w => ∃ (s64 : (List Af × Int × Int × Int × Int × List Clause × List Clause × List Clause × List Expr)) (F3 : Mem) (as64_0 : TO) (ns64_0 : Nat) (as64_5 : TO) (ns64_5 : Nat) (es64_5 : Option Nat × Obj) (as64_6 : TO) (ns64_6 : Nat) (es64_6 : Option Nat × Obj) (as64_7 : TO) (ns64_7 : Nat) (es64_7 : Option Nat × Obj) (as64_8 : TO) (ns64_8 : Nat) (es64_8 : Option Nat × Obj), o53 = .done s64 /\ HS w0 F0 w F3 [es64_8, es64_7, es64_6, es64_5, (sb b40 #[(.slice as64_5 s64.2.2.2.2.2.1.length ns64_5), (.slice as64_6 s64.2.2.2.2.2.2.1.length ns64_6), (.slice as64_7 s64.2.2.2.2.2.2.2.1.length ns64_7), (.slice as64_8 s64.2.2.2.2.2.2.2.2.length ns64_8)] 26), (sb b37 #[(.slice as64_0 s64.1.length ns64_0), (vi s64.2.1), (vi s64.2.2.1), (vi s64.2.2.2.1), (vi s64.2.2.2.2.1)] 108), (sb b21 #[(.slice none ([] : List Clause).length 0), (.slice none ([] : List Clause).length 0), (.slice none ([] : List Clause).length 0), (.slice none ([] : List Expr).length 0)] 26)] /\ Tn F1 F3 /\ FI f [] [(2, (pt b21 0)), (5, (pt b37 0)), (6, (pt b40 0))] /\ LC s64.1.length ns64_0 /\ SlA Ag F3 as64_0 s64.1 /\ Av Ay 56 F3 as64_5 ns64_5 s64.2.2.2.2.2.1 es64_5 /\ Av Ay 56 F3 as64_6 ns64_6 s64.2.2.2.2.2.2.1 es64_6 /\ Av Ay 56 F3 as64_7 ns64_7 s64.2.2.2.2.2.2.2.1 es64_7 /\ Av As 33 F3 as64_8 ns64_8 s64.2.2.2.2.2.2.2.2 es64_8) ?_ ?_
  ·refine Bk ?_
   refine Tm (by kernel_rfl) (fun m f w => ∃ (s56 : (List Af × Int × Int × Int × Int × List Clause × List Clause × List Clause × List Expr)) (F2 : Mem) (as56_0 : TO) (ns56_0 : Nat) (as56_5 : TO) (ns56_5 : Nat) (es56_5 : Option Nat × Obj) (as56_6 : TO) (ns56_6 : Nat) (es56_6 : Option Nat × Obj) (as56_7 : TO) (ns56_7 : Nat) (es56_7 : Option Nat × Obj) (as56_8 : TO) (ns56_8 : Nat) (es56_8 : Option Nat × Obj), Be (C5 N x0 r29) m s56 = some o53 /\ HS w0 F0 w F2 [es56_8, es56_7, es56_6, es56_5, (sb b40 #[(.slice as56_5 s56.2.2.2.2.2.1.length ns56_5), (.slice as56_6 s56.2.2.2.2.2.2.1.length ns56_6), (.slice as56_7 s56.2.2.2.2.2.2.2.1.length ns56_7), (.slice as56_8 s56.2.2.2.2.2.2.2.2.length ns56_8)] 26), (sb b37 #[(.slice as56_0 s56.1.length ns56_0), (vi s56.2.1), (vi s56.2.2.1), (vi s56.2.2.2.1), (vi s56.2.2.2.2.1)] 108), (sb b21 #[(.slice none ([] : List Clause).length 0), (.slice none ([] : List Clause).length 0), (.slice none ([] : List Clause).length 0), (.slice none ([] : List Expr).length 0)] 26)] /\ Tn F1 F2 /\ FI f [] [(2, (pt b21 0)), (5, (pt b37 0)), (6, (pt b40 0))] /\ LC s56.1.length ns56_0 /\ SlA Ag F2 as56_0 s56.1 /\ Av Ay 56 F2 as56_5 ns56_5 s56.2.2.2.2.2.1 es56_5 /\ Av Ay 56 F2 as56_6 ns56_6 s56.2.2.2.2.2.2.1 es56_6 /\ Av Ay 56 F2 as56_7 ns56_7 s56.2.2.2.2.2.2.2.1 es56_7 /\ Av As 33 F2 as56_8 ns56_8 s56.2.2.2.2.2.2.2.2 es56_8) N ⟨(r29, 0, 0, 0, 0, ([] : List Clause), ([] : List Clause), ([] : List Clause), ([] : List Expr)), F1, ar29_0_0, nr29_0_0, none, 0, (none, .cells #[] 0 (0, 0)), none, 0, (none, .cells #[] 0 (0, 0)), none, 0, (none, .cells #[] 0 (0, 0)), none, 0, (none, .cells #[] 0 (0, 0)), ho54, hs51, (To _), fI, hbr29_0_0, hsr29_0_0, (TG Ay 56 F1 _), (TG Ay 56 F1 _), (TG Ay 56 F1 _), (TG As 33 F1 _)⟩ ?_
   rintro m72 f w57 ⟨s56, F2, as56_0, ns56_0, as56_5, ns56_5, es56_5, as56_6, ns56_6, es56_6, as56_7, ns56_7, es56_7, as56_8, ns56_8, es56_8, hit73, hs58, le59, ⟨_, rfl⟩, hbs56_0, hss56_0, hrs56_5, hrs56_6, hrs56_7, hrs56_8⟩
   obtain ⟨m74, fl75, rfl, hb76, hnx77⟩ := A5 hit73
   refine Sq ?_
   refine Sq ?_
   obtain ⟨j83, hj89, h90⟩ := bind_some hb76
   refine RD 19 19 [es56_8, es56_7, es56_6, es56_5, (sb b40 #[(.slice as56_5 s56.2.2.2.2.2.1.length ns56_5), (.slice as56_6 s56.2.2.2.2.2.2.1.length ns56_6), (.slice as56_7 s56.2.2.2.2.2.2.2.1.length ns56_7), (.slice as56_8 s56.2.2.2.2.2.2.2.2.length ns56_8)] 26), (sb b37 #[(.slice as56_0 s56.1.length ns56_0), (vi s56.2.1), (vi s56.2.2.1), (vi s56.2.2.2.1), (vi s56.2.2.2.2.1)] 108), (sb b21 #[(.slice none ([] : List Clause).length 0), (.slice none ([] : List Clause).length 0), (.slice none ([] : List Clause).length 0), (.slice none ([] : List Expr).length 0)] 26)] [] hs58 (fun f w => ∃ (F4 : Mem), HS w0 F0 w F4 [es56_8, es56_7, es56_6, es56_5, (sb b40 #[(.slice as56_5 s56.2.2.2.2.2.1.length ns56_5), (.slice as56_6 s56.2.2.2.2.2.2.1.length ns56_6), (.slice as56_7 s56.2.2.2.2.2.2.2.1.length ns56_7), (.slice as56_8 s56.2.2.2.2.2.2.2.2.length ns56_8)] 26), (sb b37 #[(.slice as56_0 s56.1.length ns56_0), (vi s56.2.1), (vi s56.2.2.1), (vi s56.2.2.2.1), (vi s56.2.2.2.2.1)] 108), (sb b21 #[(.slice none ([] : List Clause).length 0), (.slice none ([] : List Clause).length 0), (.slice none ([] : List Clause).length 0), (.slice none ([] : List Expr).length 0)] 26)] /\ Tn F2 F4 /\ FI f [] [(2, (pt b21 0)), (5, (pt b37 0)), (6, (pt b40 0)), (34, (.bool j83))]) (fun wd78 hw79 => ?_) ?_
   ·refine Dvl [0, 1, 2] [tt, tt, tt, ff, ff, ff, ff, ff, ff, ff, ff, ff, ff, ff, ff, ff, ff, ff, ff] ?_
    refine Dl 3 (fun _ hq => (hq.1.2 5 _ _ rfl)) ?_
    refine Dvl [4, 5] [tt, tt, tt, tt, tt, tt, ff, ff, ff, ff, ff, ff, ff, ff, ff, ff, ff, ff, ff] ?_
    refine Sd hj89 (fun hb91 h92 => ?_) (fun hb91 h93 => ?_)
    ·refine Dgl 6 22 104 _ [tt, tt, tt, tt, tt, tt, tt, ff, ff, ff, ff, ff, ff, ff, ff, ff, ff, ff, ff] 5 true 21 hb91 (fun _ hq => mv 5 (pt b37 0)) ?_
     refine Dgl 7 23 0 (pt b37 0) [tt, tt, tt, tt, tt, tt, tt, tt, ff, ff, ff, ff, ff, ff, ff, ff, ff, ff, ff] 5 true 21 hb91 (fun _ hq => Ca (x := (.tmp 22)) (a := ⟨b37, 0, none⟩) rfl) ?_
     refine Dgl 8 24 0 (pt b37 0) [tt, tt, tt, tt, tt, tt, tt, tt, tt, ff, ff, ff, ff, ff, ff, ff, ff, ff, ff] 5 true 21 hb91 (fun _ hq => fa 108 23 0 0 1 b37 0 0) ?_
     refine Dgl 9 25 105 _ [tt, tt, tt, tt, tt, tt, tt, tt, tt, tt, ff, ff, ff, ff, ff, ff, ff, ff, ff] 5 true 21 hb91 (fun _ hq => ld 105 24 b37 0 false 1 (.slice as56_0 s56.1.length ns56_0) (hq.1.2 5 _ _ rfl)) ?_
     refine Dgl 10 26 104 _ [tt, tt, tt, tt, tt, tt, tt, tt, tt, tt, tt, ff, ff, ff, ff, ff, ff, ff, ff] 5 true 21 hb91 (fun _ hq => mv 5 (pt b37 0)) ?_
     refine Dgl 11 27 0 (pt b37 0) [tt, tt, tt, tt, tt, tt, tt, tt, tt, tt, tt, tt, ff, ff, ff, ff, ff, ff, ff] 5 true 21 hb91 (fun _ hq => Ca (x := (.tmp 26)) (a := ⟨b37, 0, none⟩) rfl) ?_
     refine Dgl 12 28 0 (pt b37 1) [tt, tt, tt, tt, tt, tt, tt, tt, tt, tt, tt, tt, tt, ff, ff, ff, ff, ff, ff] 5 true 21 hb91 (fun _ hq => fa 108 27 1 1 1 b37 0 1) ?_
     refine Dgl 13 29 3 _ [tt, tt, tt, tt, tt, tt, tt, tt, tt, tt, tt, tt, tt, tt, ff, ff, ff, ff, ff] 5 true 21 hb91 (fun _ hq => ld 3 28 b37 1 false 1 (vi s56.2.1) (hq.1.2 5 _ _ rfl)) ?_
     obtain ⟨x94, hx95, h97⟩ := bind_some h92
     obtain ⟨hi96, hx95'⟩ := Az hx95
     obtain ⟨b98, o99, C100, E101, fz102, rfl, hF104, hE105⟩ := Tx hss56_0 hx95'
     have hc107 := hE105 _ _ hx95'
     refine Dgl 14 30 0 (.pointer (some ⟨b98, (o99 + (s56.2.1 : Int).toNat * 3), none⟩)) [tt, tt, tt, tt, tt, tt, tt, tt, tt, tt, tt, tt, tt, tt, tt, ff, ff, ff, ff] 5 true 21 hb91 (fun _ hq => ix 105 25 29 b98 o99 110 3 32 hi96) ?_
     refine Dgl 15 31 0 (.pointer (some ⟨b98, (o99 + (s56.2.1 : Int).toNat * 3), none⟩)) [tt, tt, tt, tt, tt, tt, tt, tt, tt, tt, tt, tt, tt, tt, tt, tt, ff, ff, ff] 5 true 21 hb91 (fun _ hq => fa 110 30 0 0 1 b98 (o99 + (s56.2.1 : Int).toNat * 3) (o99 + (s56.2.1 : Int).toNat * 3)) ?_
     refine Dgl 16 32 3 _ [tt, tt, tt, tt, tt, tt, tt, tt, tt, tt, tt, tt, tt, tt, tt, tt, tt, ff, ff] 5 true 21 hb91 (fun _ hq => lx 3 31 0 3 false 1 (vi x94.Kind) (hq.1.1 _ _ hF104) hc107) ?_
     refine Dgl 17 33 4 (.bool (x94.Kind != 5)) [tt, tt, tt, tt, tt, tt, tt, tt, tt, tt, tt, tt, tt, tt, tt, tt, tt, tt, ff] 5 true 21 hb91 (fun _ hq => Ib (t := 3) (t' := 3) (x := (.tmp 32)) (y := (.const (vi 5))) (k := .i64) (a := x94.Kind) (b := 5) rfl rfl) ?_
     refine Dtl 18 34 4 _ [tt, tt, tt, tt, tt, tt, tt, tt, tt, tt, tt, tt, tt, tt, tt, tt, tt, tt, tt] (fun _ hq => p1 21 (.tmp 33) (.const (.bool false)) (.bool (x94.Kind != 5)) hb91) ?_
     obtain rfl := Ab h97
     exact TE (by kernel_rfl) ⟨F2, hw79, (To _), fI⟩
    ·refine Dkl [(6, 22), (7, 23), (8, 24), (9, 25), (10, 26), (11, 27)] 5 true 21 hb91 [tt, tt, tt, tt, tt, tt, tt, tt, tt, tt, tt, tt, ff, ff, ff, ff, ff, ff, ff] ?_
     refine Dkl [(12, 28), (13, 29), (14, 30), (15, 31), (16, 32), (17, 33)] 5 true 21 hb91 [tt, tt, tt, tt, tt, tt, tt, tt, tt, tt, tt, tt, tt, tt, tt, tt, tt, tt, ff] ?_
     refine Dtl 18 34 4 _ [tt, tt, tt, tt, tt, tt, tt, tt, tt, tt, tt, tt, tt, tt, tt, tt, tt, tt, tt] (fun _ hq => p0 21 (.tmp 33) (.const (.bool false)) (.bool false) hb91) ?_
     obtain rfl := Ab h93
     exact TE (by kernel_rfl) ⟨F2, hw79, (To _), fI⟩
   ·rintro f w80 ⟨F4, hs81, le82, ⟨_, rfl⟩⟩
    refine Ad ?_
    refine Cd h90 (fun hb108 h109 => ?_) (fun hb108 h110 => ?_)
    ·refine Sc ?_
     refine Ad ?_
     refine Bk ?_
     refine Sq ?_
     refine Sq ?_
     obtain ⟨j116, hj122, h123⟩ := bind_some h109
     refine RD 12 12 [es56_8, es56_7, es56_6, es56_5, (sb b40 #[(.slice as56_5 s56.2.2.2.2.2.1.length ns56_5), (.slice as56_6 s56.2.2.2.2.2.2.1.length ns56_6), (.slice as56_7 s56.2.2.2.2.2.2.2.1.length ns56_7), (.slice as56_8 s56.2.2.2.2.2.2.2.2.length ns56_8)] 26), (sb b37 #[(.slice as56_0 s56.1.length ns56_0), (vi s56.2.1), (vi s56.2.2.1), (vi s56.2.2.2.1), (vi s56.2.2.2.2.1)] 108), (sb b21 #[(.slice none ([] : List Clause).length 0), (.slice none ([] : List Clause).length 0), (.slice none ([] : List Clause).length 0), (.slice none ([] : List Expr).length 0)] 26)] [] hs81 (fun f w => ∃ (F5 : Mem), HS w0 F0 w F5 [es56_8, es56_7, es56_6, es56_5, (sb b40 #[(.slice as56_5 s56.2.2.2.2.2.1.length ns56_5), (.slice as56_6 s56.2.2.2.2.2.2.1.length ns56_6), (.slice as56_7 s56.2.2.2.2.2.2.2.1.length ns56_7), (.slice as56_8 s56.2.2.2.2.2.2.2.2.length ns56_8)] 26), (sb b37 #[(.slice as56_0 s56.1.length ns56_0), (vi s56.2.1), (vi s56.2.2.1), (vi s56.2.2.2.1), (vi s56.2.2.2.2.1)] 108), (sb b21 #[(.slice none ([] : List Clause).length 0), (.slice none ([] : List Clause).length 0), (.slice none ([] : List Clause).length 0), (.slice none ([] : List Expr).length 0)] 26)] /\ Tn F4 F5 /\ FI f [] [(2, (pt b21 0)), (5, (pt b37 0)), (6, (pt b40 0)), (46, (.bool j116))]) (fun wd111 hw112 => ?_) ?_
     ·refine Dv [0, 1, 2] ?_
      refine Dl 3 (fun _ hq => (hq.1.2 5 _ _ rfl)) ?_
      refine Dv [4, 5, 6] ?_
      refine Dl 7 (fun _ hq => (hq.1.2 5 _ _ rfl)) ?_
      obtain ⟨x124, hx125, h127⟩ := bind_some hj122
      obtain ⟨hi126, hx125'⟩ := Az hx125
      obtain ⟨b128, o129, C130, E131, fz132, rfl, hF134, hE135⟩ := Tx (Tq hss56_0 le82) hx125'
      have hc137 := hE135 _ _ hx125'
      refine Di 8 hi126 ?_
      refine Dv [9] ?_
      refine Dx 10 0 (fun _ hq => hq.1.1 _ _ hF134) hc137 ?_
      refine Dv [11] ?_
      obtain rfl := Ab h127
      exact TE (by kernel_rfl) ⟨F4, hw112, (To _), fI⟩
     ·rintro f w113 ⟨F5, hs114, le115, ⟨_, rfl⟩⟩
      refine Ad ?_
      refine Cd h123 (fun hb138 h139 => ?_) (fun hb138 h140 => ?_)
      ·refine Sq (Rg [0, 1, 2, 3, 4, 5, 6, 7] ?_)
       refine Vs 3 ?_
       refine Ld hs114.at5 ?_
       refine Vs 3 ?_
       refine St5 #[(.slice as56_0 s56.1.length ns56_0), (vi (W64 (s56.2.1 + 1))), (vi s56.2.2.1), (vi s56.2.2.2.1), (vi s56.2.2.2.2.1)] hs114 (fun w141 hs142 => ?_)
       refine Nt ?_
       refine Ex ?_
       refine AC ?_
       refine AL rfl ?_
       have hn143 := AW h139 hnx77
       exact ⟨m74, Nat.lt_succ_self _, (s56.1, (W64 (s56.2.1 + 1)), s56.2.2.1, s56.2.2.2.1, s56.2.2.2.2.1, s56.2.2.2.2.2.1, s56.2.2.2.2.2.2.1, s56.2.2.2.2.2.2.2.1, s56.2.2.2.2.2.2.2.2), F5, as56_0, ns56_0, as56_5, ns56_5, es56_5, as56_6, ns56_6, es56_6, as56_7, ns56_7, es56_7, as56_8, ns56_8, es56_8, hn143, hs142, ((le59.trans le82).trans le115), fI, hbs56_0, (Tq hss56_0 (le82.trans le115)), (hrs56_5.mono (le82.trans le115)), (hrs56_6.mono (le82.trans le115)), (hrs56_7.mono (le82.trans le115)), (hrs56_8.mono (le82.trans le115))⟩
      ·refine Sc ?_
       refine Ad ?_
       refine Rg [0, 1] ?_
       refine Vs 1 ?_
       have hs144 := hs114.pk6.pk1.pk2.pk3.pk4
       obtain ⟨r145, hr146, h147⟩ := bind_some h140
       refine CB HJ (Iu N b37 (({ L := s56.1, At := s56.2.1, Open := s56.2.2.1, Bad := s56.2.2.2.1, Where := s56.2.2.2.2.1 } : Aa)) as56_0 ns56_0 hbs56_0 (Tq hss56_0 (le82.trans le115)) b40 (({ Points := s56.2.2.2.2.2.1, Multipliers := s56.2.2.2.2.2.2.1, Penalties := s56.2.2.2.2.2.2.2.1, Repeats := s56.2.2.2.2.2.2.2.2 } : BC)) as56_5 ns56_5 es56_5 as56_6 ns56_6 es56_6 as56_7 ns56_7 es56_7 as56_8 ns56_8 es56_8 (hrs56_5.mono (le82.trans le115)) (hrs56_6.mono (le82.trans le115)) (hrs56_7.mono (le82.trans le115)) (hrs56_8.mono (le82.trans le115)) hs144.pk5.pk6 _ hr146) ?_
       rintro _ F6 w148 _ hs149 le150 ⟨ar145_0_0, nr145_0_0, ar145_1_0, nr145_1_0, er145_1_0, ar145_1_1, nr145_1_1, er145_1_1, ar145_1_2, nr145_1_2, er145_1_2, ar145_1_3, nr145_1_3, er145_1_3, rfl, rfl, hbr145_0_0, hsr145_0_0, hrr145_1_0, hrr145_1_1, hrr145_1_2, hrr145_1_3⟩
       refine Tj ?_
       refine AA ?_
       have hs152 := hs149.pk6.pk1.pk2.pk3.pk4
       have hn153 := AW h147 hnx77
       exact ⟨m74, Nat.lt_succ_self _, (r145.1.L, r145.1.At, r145.1.Open, r145.1.Bad, r145.1.Where, r145.2.Points, r145.2.Multipliers, r145.2.Penalties, r145.2.Repeats), F6, ar145_0_0, nr145_0_0, ar145_1_0, nr145_1_0, er145_1_0, ar145_1_1, nr145_1_1, er145_1_1, ar145_1_2, nr145_1_2, er145_1_2, ar145_1_3, nr145_1_3, er145_1_3, hn153, hs152.pk5.pk6, (((le59.trans le82).trans le115).trans le150), fI, hbr145_0_0, hsr145_0_0, hrr145_1_0, hrr145_1_1, hrr145_1_2, hrr145_1_3⟩
    ·refine Ex ?_
     refine AC ?_
     refine AC ?_
     refine AL rfl ?_
     have ho154 := A8 h110 hnx77
     exact .inl ⟨rfl, (s56.1, s56.2.1, s56.2.2.1, s56.2.2.2.1, s56.2.2.2.2.1, s56.2.2.2.2.2.1, s56.2.2.2.2.2.2.1, s56.2.2.2.2.2.2.2.1, s56.2.2.2.2.2.2.2.2), F4, as56_0, ns56_0, as56_5, ns56_5, es56_5, as56_6, ns56_6, es56_6, as56_7, ns56_7, es56_7, as56_8, ns56_8, es56_8, ho154, hs81, (le59.trans le82), fI, hbs56_0, (Tq hss56_0 le82), (hrs56_5.mono le82), (hrs56_6.mono le82), (hrs56_7.mono le82), (hrs56_8.mono le82)⟩
  ·rintro f w65 ⟨s64, F3, as64_0, ns64_0, as64_5, ns64_5, es64_5, as64_6, ns64_6, es64_6, as64_7, ns64_7, es64_7, as64_8, ns64_8, es64_8, rfl, hs66, le67, ⟨_, rfl⟩, hbs64_0, hss64_0, hrs64_5, hrs64_6, hrs64_7, hrs64_8⟩
   have h155 := BT h55
   refine Ad ?_
   refine Sq ?_
   refine Sq (Rg [0, 1, 2, 3, 4] ?_)
   refine Vs 3 ?_
   refine Ld hs66.at5 ?_
   refine Vs 1 ?_
   refine Nt ?_
   refine Cd h155 (fun hb156 h157 => ?_) (fun hb156 h158 => ?_)
   ·refine Sq ?_
    refine RD 12 12 [es64_8, es64_7, es64_6, es64_5, (sb b40 #[(.slice as64_5 s64.2.2.2.2.2.1.length ns64_5), (.slice as64_6 s64.2.2.2.2.2.2.1.length ns64_6), (.slice as64_7 s64.2.2.2.2.2.2.2.1.length ns64_7), (.slice as64_8 s64.2.2.2.2.2.2.2.2.length ns64_8)] 26), (sb b37 #[(.slice as64_0 s64.1.length ns64_0), (vi s64.2.1), (vi s64.2.2.1), (vi s64.2.2.2.1), (vi s64.2.2.2.2.1)] 108)] [] hs66 (fun f w => ∃ (F7 : Mem), HS w0 F0 w F7 [(sb b21 #[(.slice none ([] : List Clause).length 0), (.slice none ([] : List Clause).length 0), (.slice none ([] : List Clause).length 0), (.slice none ([] : List Expr).length 0)] 26)] /\ Tn F3 F7 /\ FI f [] [(2, (pt b21 0)), (3, (vi s64.2.2.2.1)), (4, (vi s64.2.2.2.2.1))]) (fun wd159 hw160 => ?_) ?_
    ·refine Dv [0, 1, 2, 3] ?_
     refine Dl 4 (fun _ hq => (hq.1.2 5 _ _ rfl)) ?_
     refine Dv [5, 6, 7] ?_
     refine Dl 8 (fun _ hq => (hq.1.2 5 _ _ rfl)) ?_
     refine D1 9 ?_
     refine RO #[(.slice none ([] : List Clause).length 0), (.slice none ([] : List Clause).length 0), (.slice none ([] : List Clause).length 0), (.slice none ([] : List Expr).length 0)] hw160 (To _) (fun w168 hs169 => ?_)
     refine Dv [10, 11] ?_
     have hs170 := hs169.dr0.dr0.dr0.dr0.dr0
     exact TE (by kernel_rfl) ⟨F3, hs170.dr0, (To _), fI⟩
    ·rintro f w161 ⟨F7, hs162, le163, ⟨_, rfl⟩⟩
     refine Ad ?_
     refine Rt ?_
     refine Aj ?_
     obtain rfl := Ab h157
     exact ⟨rfl, (.tuple #[(.agg #[(.slice none ([] : List Clause).length 0), (.slice none ([] : List Clause).length 0), (.slice none ([] : List Clause).length 0), (.slice none ([] : List Expr).length 0)]), (vi s64.2.2.2.1), (vi s64.2.2.2.2.1)]), AE (l := [.cell 2 26, .tmp 3, .tmp 4]) (by kernel_rfl) (vs := [(.agg #[(.slice none ([] : List Clause).length 0), (.slice none ([] : List Clause).length 0), (.slice none ([] : List Clause).length 0), (.slice none ([] : List Expr).length 0)]), (vi s64.2.2.2.1), (vi s64.2.2.2.2.1)]) ⟨b21, 0, rfl, Am (t := 26) (g := true) (s := 4) (by kernel_rfl) hs162.at0 rfl (by decide), ⟨rfl, ⟨rfl, trivial⟩⟩⟩, (.tuple #[(.agg #[(.slice none ([] : List Clause).length 0), (.slice none ([] : List Clause).length 0), (.slice none ([] : List Clause).length 0), (.slice none ([] : List Expr).length 0)]), (vi s64.2.2.2.1), (vi s64.2.2.2.2.1)]), F7, rfl, hs162.clear, ⟨none, 0, none, 0, none, 0, none, 0, rfl, Tr, (.inl rfl), Tr, (.inl rfl), Tr, (.inl rfl), Tr, (.inl rfl)⟩⟩
   ·refine Sc ?_
    refine Ad ?_
    refine Sq (Rg [0, 1, 2, 3] ?_)
    refine Ld hs66.at4 ?_
    refine St6 #[(.slice as64_5 s64.2.2.2.2.2.1.length ns64_5), (.slice as64_6 s64.2.2.2.2.2.2.1.length ns64_6), (.slice as64_7 s64.2.2.2.2.2.2.2.1.length ns64_7), (.slice as64_8 s64.2.2.2.2.2.2.2.2.length ns64_8)] hs66 (fun w171 hs172 => ?_)
    refine Vs 2 ?_
    refine Nt ?_
    refine Rt ?_
    have hb176 := TF hrs64_5
    obtain ⟨F8, hs173, le174, hs175⟩ := hs172.fr3 hrs64_5
    have hb180 := TF (hrs64_6.mono le174)
    obtain ⟨F9, hs177, le178, hs179⟩ := hs173.fr2 (hrs64_6.mono le174)
    have hb184 := TF (hrs64_7.mono (le174.trans le178))
    obtain ⟨F10, hs181, le182, hs183⟩ := hs177.fr1 (hrs64_7.mono (le174.trans le178))
    have hb188 := TF (hrs64_8.mono ((le174.trans le178).trans le182))
    obtain ⟨F11, hs185, le186, hs187⟩ := hs181.fr0 (hrs64_8.mono ((le174.trans le178).trans le182))
    obtain rfl := Ab h158
    exact ⟨rfl, (.tuple #[(.agg #[(.slice as64_5 s64.2.2.2.2.2.1.length ns64_5), (.slice as64_6 s64.2.2.2.2.2.2.1.length ns64_6), (.slice as64_7 s64.2.2.2.2.2.2.2.1.length ns64_7), (.slice as64_8 s64.2.2.2.2.2.2.2.2.length ns64_8)]), (vi 0), (vi 0)]), AE (l := [.cell 2 26, .tmp 3, .tmp 4]) (by kernel_rfl) (vs := [(.agg #[(.slice as64_5 s64.2.2.2.2.2.1.length ns64_5), (.slice as64_6 s64.2.2.2.2.2.2.1.length ns64_6), (.slice as64_7 s64.2.2.2.2.2.2.2.1.length ns64_7), (.slice as64_8 s64.2.2.2.2.2.2.2.2.length ns64_8)]), (vi 0), (vi 0)]) ⟨b21, 0, rfl, Am (t := 26) (g := true) (s := 4) (by kernel_rfl) hs185.at2 rfl (by decide), ⟨rfl, ⟨rfl, trivial⟩⟩⟩, (.tuple #[(.agg #[(.slice as64_5 s64.2.2.2.2.2.1.length ns64_5), (.slice as64_6 s64.2.2.2.2.2.2.1.length ns64_6), (.slice as64_7 s64.2.2.2.2.2.2.2.1.length ns64_7), (.slice as64_8 s64.2.2.2.2.2.2.2.2.length ns64_8)]), (vi 0), (vi 0)]), F11, rfl, hs185.clear, ⟨as64_5, ns64_5, as64_6, ns64_6, as64_7, ns64_7, as64_8, ns64_8, rfl, hb176, (Tq hs175 ((le178.trans le182).trans le186)), hb180, (Tq hs179 (le182.trans le186)), hb184, (Tq hs183 le186), hb188, hs187⟩⟩
def CM (N : Nat) (x0 : (List Clause)) (x1 : (List Clause)) : Int -> Option (Bv Bool Int) := fun s27 =>
 (bif (decide (s27 < (x0.length : Int))) then (((idx x0 s27).bind fun x62 => ((idx x1 s27).bind fun x76 => ((EK N x62.When x76.When).bind fun r90 => (bif (!r90) then some true else ((idx x0 s27).bind fun x101 => ((idx x1 s27).bind fun x107 => ((EK N x101.Then x107.Then).bind fun r113 => some (!r113)))))))).bind fun j54 => (bif j54 then some (.ret false) else some (.next (W64 (s27 + 1))))) else some (.done s27))
def Cl (N : Nat) (x0 : (List Clause)) (x1 : (List Clause)) : Option Bool :=
 (bif ((x0.length : Int) != (x1.length : Int)) then some false else ((Be (CM N x0 x1) N 0).bind fun o => o.k (fun r => some r) (fun s35 => some true)))
theorem DF : Au Tryz.prog 84 := fun _ _ => by kernel_rfl
theorem DO (N : Nat) (w0 : World) (F0 : Mem) (hF : TP w0 F0) (x0 : (List Clause)) (a0_0 : TO) (n0_0 : Nat) (hb0_0 : LC x0.length n0_0) (hs0_0 : SlA Ay F0 a0_0 x0) (x1 : (List Clause)) (a1_0 : TO) (n1_0 : Nat) (hb1_0 : LC x1.length n1_0) (hs1_0 : SlA Ay F0 a1_0 x1) (r : Bool) (h : Cl N x0 x1 = some r) :
  Calls Tryz.prog 84 ([(.slice a0_0 x0.length n0_0), (.slice a1_0 x1.length n1_0)] : List Value).toArray w0 (Bd w0 F0 fun F' v => v = (.bool r)) := by
 have hs0 := Tp hF
 refine Go 43 Tryz.func84 ?_
 refine Sq (Rg [0] ?_)
 refine Vs 1 ?_
 refine Nss ?_
 refine Sq (Rg [0, 1, 2, 3, 4] ?_)
 refine Vs 5 ?_
 refine Nt ?_
 refine Cd h (fun hb21 h22 => ?_) (fun hb21 h23 => ?_)
 ·refine Sq (Rg [0] ?_)
  refine Vs 1 ?_
  refine Nt ?_
  refine Rt ?_
  refine Aj ?_
  obtain rfl := Ab h22
  exact Re [(.bool false)] hs0 rfl
 ·refine Sc ?_
  refine Ad ?_
  refine Sq ?_
  refine Sq (Rg [0] ?_)
  refine Vs 1 ?_
  refine Nt ?_
  obtain ⟨o24, ho25, h26⟩ := bind_some h23
  refine Tu (fun f w => ∃ (s35 : Int) (F2 : Mem), o24 = .done s35 /\ HS w0 F0 w F2 [] /\ Tn F0 F2 /\ FI f [] []) ?_ ?_
  ·refine Bk ?_
   refine Tm (by kernel_rfl) (fun m f w => ∃ (s27 : Int) (F1 : Mem), Be (CM N x0 x1) m s27 = some o24 /\ HS w0 F0 w F1 [] /\ Tn F0 F1 /\ FI f [] [(0, (.slice a0_0 x0.length n0_0)), (1, (.slice a1_0 x1.length n1_0)), (5, (vi s27))]) N ⟨0, F0, ho25, hs0, (To _), fI⟩ ?_
   rintro m40 f w28 ⟨s27, F1, hit41, hs29, le30, ⟨_, rfl⟩⟩
   obtain ⟨m42, fl43, rfl, hb44, hnx45⟩ := A5 hit41
   refine Sq ?_
   refine Sq (Rg [0, 1, 2, 3] ?_)
   refine Vs 4 ?_
   refine Nt ?_
   refine Cd hb44 (fun hb46 h47 => ?_) (fun hb46 h48 => ?_)
   ·refine Sc ?_
    refine Ad ?_
    refine Sq ?_
    refine Bk ?_
    refine Sq ?_
    obtain ⟨j54, hj60, h61⟩ := bind_some h47
    refine RD 26 26 [] [] hs29 (fun f w => ∃ (F3 : Mem), HS w0 F0 w F3 [] /\ Tn F1 F3 /\ FI f [] [(0, (.slice a0_0 x0.length n0_0)), (1, (.slice a1_0 x1.length n1_0)), (5, (vi s27)), (42, (.bool j54))]) (fun wd49 hw50 => ?_) ?_
    ·refine Dvl [0, 1] [tt, tt, ff, ff, ff, ff, ff, ff, ff, ff, ff, ff, ff, ff, ff, ff, ff, ff, ff, ff, ff, ff, ff, ff, ff, ff] ?_
     obtain ⟨x62, hx63, h65⟩ := bind_some hj60
     obtain ⟨hi64, hx63'⟩ := Az hx63
     obtain ⟨b66, o67, C68, E69, fz70, rfl, hF72, hE73⟩ := Tx (Tq hs0_0 le30) hx63'
     obtain ⟨ae74_2, ne74_2, ae74_5, ne74_5, hc75, hbe74_2, hse74_2, hbe74_5, hse74_5⟩ := hE73 _ _ hx63'
     refine Di 2 hi64 ?_
     refine Dvl [3] [tt, tt, tt, tt, ff, ff, ff, ff, ff, ff, ff, ff, ff, ff, ff, ff, ff, ff, ff, ff, ff, ff, ff, ff, ff, ff] ?_
     refine Dx 4 0 (fun _ hq => hq.1.1 _ _ hF72) hc75 ?_
     refine Dvl [5, 6] [tt, tt, tt, tt, tt, tt, tt, ff, ff, ff, ff, ff, ff, ff, ff, ff, ff, ff, ff, ff, ff, ff, ff, ff, ff, ff] ?_
     obtain ⟨x76, hx77, h79⟩ := bind_some h65
     obtain ⟨hi78, hx77'⟩ := Az hx77
     obtain ⟨b80, o81, C82, E83, fz84, rfl, hF86, hE87⟩ := Tx (Tq hs1_0 le30) hx77'
     obtain ⟨ae88_2, ne88_2, ae88_5, ne88_5, hc89, hbe88_2, hse88_2, hbe88_5, hse88_5⟩ := hE87 _ _ hx77'
     refine Di 7 hi78 ?_
     refine Dvl [8] [tt, tt, tt, tt, tt, tt, tt, tt, tt, ff, ff, ff, ff, ff, ff, ff, ff, ff, ff, ff, ff, ff, ff, ff, ff, ff] ?_
     refine Dx 9 0 (fun _ hq => hq.1.1 _ _ hF86) hc89 ?_
     refine D1 10 ?_
     obtain ⟨r90, hr91, h92⟩ := bind_some h79
     refine DCl Eg hw50 (Gu N wd49 F1 hw50.pers x62.When ae74_2 ne74_2 hbe74_2 hse74_2 x76.When ae88_2 ne88_2 hbe88_2 hse88_2 _ hr91) ?_
     rintro _ F4 w94 hs95 le96 rfl
     refine Dvl [11, 12] [tt, tt, tt, tt, tt, tt, tt, tt, tt, tt, tt, tt, tt, ff, ff, ff, ff, ff, ff, ff, ff, ff, ff, ff, ff, ff] ?_
     refine Sd h92 (fun hb98 h99 => ?_) (fun hb98 h100 => ?_)
     ·refine Dkl [(13, 30), (14, 31), (15, 32), (16, 33), (17, 34), (18, 35)] 12 false 29 hb98 [tt, tt, tt, tt, tt, tt, tt, tt, tt, tt, tt, tt, tt, tt, tt, tt, tt, tt, tt, ff, ff, ff, ff, ff, ff, ff] ?_
      refine Dkl [(19, 36), (20, 37), (21, 38), (22, 39), (23, 40), (24, 41)] 12 false 29 hb98 [tt, tt, tt, tt, tt, tt, tt, tt, tt, tt, tt, tt, tt, tt, tt, tt, tt, tt, tt, tt, tt, tt, tt, tt, tt, ff] ?_
      refine Dtl 25 42 4 _ [tt, tt, tt, tt, tt, tt, tt, tt, tt, tt, tt, tt, tt, tt, tt, tt, tt, tt, tt, tt, tt, tt, tt, tt, tt, tt] (fun _ hq => p1 29 (.const (.bool true)) (.tmp 41) (.bool true) hb98) ?_
      obtain rfl := Ab h99
      exact TE (by kernel_rfl) ⟨F4, hs95, le96, fI⟩
     ·refine Dgl 13 30 23 _ [tt, tt, tt, tt, tt, tt, tt, tt, tt, tt, tt, tt, tt, tt, ff, ff, ff, ff, ff, ff, ff, ff, ff, ff, ff, ff] 12 false 29 hb98 (fun _ hq => mv 0 (.slice (some ⟨b66, o67, none⟩) x0.length n0_0)) ?_
      refine Dgl 14 31 3 _ [tt, tt, tt, tt, tt, tt, tt, tt, tt, tt, tt, tt, tt, tt, tt, ff, ff, ff, ff, ff, ff, ff, ff, ff, ff, ff] 12 false 29 hb98 (fun _ hq => mv 5 (vi s27)) ?_
      obtain ⟨x101, hx102, h104⟩ := bind_some h100
      obtain ⟨hi103, hx102'⟩ := Az hx102
      obtain ⟨ae105_2, ne105_2, ae105_5, ne105_5, hc106, hbe105_2, hse105_2, hbe105_5, hse105_5⟩ := hE73 _ _ hx102'
      refine Dgl 15 32 0 (.pointer (some ⟨b66, (o67 + (s27 : Int).toNat * 6), none⟩)) [tt, tt, tt, tt, tt, tt, tt, tt, tt, tt, tt, tt, tt, tt, tt, tt, ff, ff, ff, ff, ff, ff, ff, ff, ff, ff] 12 false 29 hb98 (fun _ hq => ix 23 30 31 b66 o67 56 6 80 hi103) ?_
      refine Dgl 16 33 0 (.pointer (some ⟨b66, ((o67 + (s27 : Int).toNat * 6) + 3), none⟩)) [tt, tt, tt, tt, tt, tt, tt, tt, tt, tt, tt, tt, tt, tt, tt, tt, tt, ff, ff, ff, ff, ff, ff, ff, ff, ff] 12 false 29 hb98 (fun _ hq => fa 56 32 1 3 3 b66 (o67 + (s27 : Int).toNat * 6) ((o67 + (s27 : Int).toNat * 6) + 3)) ?_
      refine Dgl 17 34 33 _ [tt, tt, tt, tt, tt, tt, tt, tt, tt, tt, tt, tt, tt, tt, tt, tt, tt, tt, ff, ff, ff, ff, ff, ff, ff, ff] 12 false 29 hb98 (fun _ hq => lx 33 33 3 6 true 3 (.agg (Ai x101.Then ae105_5 ne105_5)) (hq.1.1 _ _ hF72) hc106) ?_
      refine Dgl 18 35 23 _ [tt, tt, tt, tt, tt, tt, tt, tt, tt, tt, tt, tt, tt, tt, tt, tt, tt, tt, tt, ff, ff, ff, ff, ff, ff, ff] 12 false 29 hb98 (fun _ hq => mv 1 (.slice (some ⟨b80, o81, none⟩) x1.length n1_0)) ?_
      refine Dgl 19 36 3 _ [tt, tt, tt, tt, tt, tt, tt, tt, tt, tt, tt, tt, tt, tt, tt, tt, tt, tt, tt, tt, ff, ff, ff, ff, ff, ff] 12 false 29 hb98 (fun _ hq => mv 5 (vi s27)) ?_
      obtain ⟨x107, hx108, h110⟩ := bind_some h104
      obtain ⟨hi109, hx108'⟩ := Az hx108
      obtain ⟨ae111_2, ne111_2, ae111_5, ne111_5, hc112, hbe111_2, hse111_2, hbe111_5, hse111_5⟩ := hE87 _ _ hx108'
      refine Dgl 20 37 0 (.pointer (some ⟨b80, (o81 + (s27 : Int).toNat * 6), none⟩)) [tt, tt, tt, tt, tt, tt, tt, tt, tt, tt, tt, tt, tt, tt, tt, tt, tt, tt, tt, tt, tt, ff, ff, ff, ff, ff] 12 false 29 hb98 (fun _ hq => ix 23 35 36 b80 o81 56 6 80 hi109) ?_
      refine Dgl 21 38 0 (.pointer (some ⟨b80, ((o81 + (s27 : Int).toNat * 6) + 3), none⟩)) [tt, tt, tt, tt, tt, tt, tt, tt, tt, tt, tt, tt, tt, tt, tt, tt, tt, tt, tt, tt, tt, tt, ff, ff, ff, ff] 12 false 29 hb98 (fun _ hq => fa 56 37 1 3 3 b80 (o81 + (s27 : Int).toNat * 6) ((o81 + (s27 : Int).toNat * 6) + 3)) ?_
      refine Dgl 22 39 33 _ [tt, tt, tt, tt, tt, tt, tt, tt, tt, tt, tt, tt, tt, tt, tt, tt, tt, tt, tt, tt, tt, tt, tt, ff, ff, ff] 12 false 29 hb98 (fun _ hq => lx 33 38 3 6 true 3 (.agg (Ai x107.Then ae111_5 ne111_5)) (hq.1.1 _ _ hF86) hc112) ?_
      refine D1 23 ?_
      obtain ⟨r113, hr114, h115⟩ := bind_some h110
      refine AB.call (l' := [true, true, true, true, true, true, true, true, true, true, true, true, true, true, true, true, true, true, true, true, true, true, true, true, false, false]) (zd := true) (by kernel_rfl) (by kernel_rfl) (by kernel_rfl) (dst := (some 40)) (ty := 4) (g := (some (12, false))) (by kernel_rfl) (FG (d := 29) (by kernel_rfl) rfl hb98) (f0 := (.func 27)) (aos := #[(.tmp 34), (.tmp 39)]) (ats := #[33, 33]) (fid := 27) (first := #[]) (cap := #[]) (args := [(.agg (Ai x101.Then ae105_5 ne105_5)), (.agg (Ai x107.Then ae111_5 ne111_5))]) rfl Eg rfl hs95 (Gu N w94 F4 hs95.pers x101.Then ae105_5 ne105_5 hbe105_5 (Tq hse105_5 le96) x107.Then ae111_5 ne111_5 hbe111_5 (Tq hse111_5 le96) _ hr114) ?_
      rintro _ F5 w117 hs118 le119 rfl
      refine Dgl 24 41 4 (.bool (!r113)) [tt, tt, tt, tt, tt, tt, tt, tt, tt, tt, tt, tt, tt, tt, tt, tt, tt, tt, tt, tt, tt, tt, tt, tt, tt, ff] 12 false 29 hb98 (fun _ hq => Ia (t := 4) (x := (.tmp 40)) (a := r113) rfl) ?_
      refine Dtl 25 42 4 _ [tt, tt, tt, tt, tt, tt, tt, tt, tt, tt, tt, tt, tt, tt, tt, tt, tt, tt, tt, tt, tt, tt, tt, tt, tt, tt] (fun _ hq => p0 29 (.const (.bool true)) (.tmp 41) (.bool (!r113)) hb98) ?_
      obtain rfl := Ab h115
      exact TE (by kernel_rfl) ⟨F5, hs118, (le96.trans le119), fI⟩
    ·rintro f w51 ⟨F3, hs52, le53, ⟨_, rfl⟩⟩
     refine Ad ?_
     refine Cd h61 (fun hb121 h122 => ?_) (fun hb121 h123 => ?_)
     ·refine Sq (Rg [0] ?_)
      refine Vs 1 ?_
      refine Nt ?_
      refine Rt ?_
      refine Ao ?_
      refine Aj ?_
      refine Aj ?_
      refine Ao ?_
      have hret := B9 h122 hnx45
      subst hret
      refine .inr ?_
      refine Aj ?_
      obtain rfl := Ab h26
      exact Re [(.bool false)] hs52 rfl
     ·refine Sc ?_
      refine AA ?_
      refine Ad ?_
      refine Rg [0, 1, 2] ?_
      refine Vs 3 ?_
      refine Tj ?_
      have hn124 := AW h123 hnx45
      exact ⟨m42, Nat.lt_succ_self _, (W64 (s27 + 1)), F3, hn124, hs52, (le30.trans le53), fI⟩
   ·refine Ex ?_
    refine AC ?_
    refine AC ?_
    refine AL rfl ?_
    have ho125 := A8 h48 hnx45
    exact .inl ⟨rfl, s27, F1, ho125, hs29, le30, fI⟩
  ·rintro f w36 ⟨s35, F2, rfl, hs37, le38, ⟨_, rfl⟩⟩
   have h126 := BT h26
   refine Ad ?_
   refine Sq (Rg [0] ?_)
   refine Vs 1 ?_
   refine Nt ?_
   refine Rt ?_
   obtain rfl := Ab h126
   exact Re [(.bool true)] hs37 rfl
def Db (N : Nat) (x0 : BC) (x1 : BC) (j30 : Bool) : Int -> Option (Bv Bool Int) := fun s76 =>
 (bif (decide (s76 < (x0.Repeats.length : Int))) then (((idx x0.Repeats s76).bind fun x111 => ((idx x1.Repeats s76).bind fun x125 => ((EK N x111 x125).bind fun r139 => some (!r139)))).bind fun j103 => (bif j103 then some (.ret false) else some (.next (W64 (s76 + 1))))) else some (.done s76))
def DX (N : Nat) (x0 : BC) (x1 : BC) : Option Bool :=
 (((Cl N x0.Points x1.Points).bind fun r37 => (bif (!r37) then some true else ((Cl N x0.Multipliers x1.Multipliers).bind fun r48 => (bif (!r48) then some true else ((Cl N x0.Penalties x1.Penalties).bind fun r59 => (bif (!r59) then some true else some ((x0.Repeats.length : Int) != (x1.Repeats.length : Int)))))))).bind fun j30 => (bif j30 then some false else ((Be (Db N x0 x1 j30) N 0).bind fun o => o.k (fun r => some r) (fun s84 => some true))))
theorem Jb : Au Tryz.prog 24 := fun _ _ => by kernel_rfl
theorem Kc (N : Nat) (w0 : World) (F0 : Mem) (hF : TP w0 F0) (x0 : BC) (a0_0 : TO) (n0_0 : Nat) (hb0_0 : LC x0.Points.length n0_0) (hs0_0 : SlA Ay F0 a0_0 x0.Points) (a0_1 : TO) (n0_1 : Nat) (hb0_1 : LC x0.Multipliers.length n0_1) (hs0_1 : SlA Ay F0 a0_1 x0.Multipliers) (a0_2 : TO) (n0_2 : Nat) (hb0_2 : LC x0.Penalties.length n0_2) (hs0_2 : SlA Ay F0 a0_2 x0.Penalties) (a0_3 : TO) (n0_3 : Nat) (hb0_3 : LC x0.Repeats.length n0_3) (hs0_3 : SlA As F0 a0_3 x0.Repeats) (x1 : BC) (a1_0 : TO) (n1_0 : Nat) (hb1_0 : LC x1.Points.length n1_0) (hs1_0 : SlA Ay F0 a1_0 x1.Points) (a1_1 : TO) (n1_1 : Nat) (hb1_1 : LC x1.Multipliers.length n1_1) (hs1_1 : SlA Ay F0 a1_1 x1.Multipliers) (a1_2 : TO) (n1_2 : Nat) (hb1_2 : LC x1.Penalties.length n1_2) (hs1_2 : SlA Ay F0 a1_2 x1.Penalties) (a1_3 : TO) (n1_3 : Nat) (hb1_3 : LC x1.Repeats.length n1_3) (hs1_3 : SlA As F0 a1_3 x1.Repeats) (r : Bool) (h : DX N x0 x1 = some r) :
  Calls Tryz.prog 24 ([(.agg (AU x0 a0_0 n0_0 a0_1 n0_1 a0_2 n0_2 a0_3 n0_3)), (.agg (AU x1 a1_0 n1_0 a1_1 n1_1 a1_2 n1_2 a1_3 n1_3))] : List Value).toArray w0 (Bd w0 F0 fun F' v => v = (.bool r)) := by
 have hs0 := Tp hF
 refine Go 56 Tryz.func24 ?_
 refine Sq (Rg [0, 1, 2] ?_)
 refine Bx' 26 (AU x0 a0_0 n0_0 a0_1 n0_1 a0_2 n0_2 a0_3 n0_3) hs0 (fun b21 w22 hs23 => ?_)
 refine Bx' 26 (AU x1 a1_0 n1_0 a1_1 n1_1 a1_2 n1_2 a1_3 n1_3) hs23 (fun b24 w25 hs26 => ?_)
 refine Vs 1 ?_
 refine Nss ?_
 refine Sq (Rg [0, 1, 2, 3, 4, 5, 6, 7, 8, 9, 10, 11, 12, 13, 14, 15, 16, 17, 18, 19, 20, 21, 22, 23, 24, 25, 26, 27, 28, 29, 30] ?_)
 obtain ⟨j30, hj35, h36⟩ := bind_some h
 refine Tt (fun f w => ∃ (F1 : Mem), HS w0 F0 w F1 [(sb b24 (AU x1 a1_0 n1_0 a1_1 n1_1 a1_2 n1_2 a1_3 n1_3) 26), (sb b21 (AU x0 a0_0 n0_0 a0_1 n0_1 a0_2 n0_2 a0_3 n0_3) 26)] /\ Tn F0 F1 /\ FI f [] [(2, (pt b21 0)), (3, (pt b24 0)), (36, (.bool j30))]) ?_ ?_
 ·refine Vs 1 ?_
  refine Ld hs26.at1 ?_
  refine Vs 1 ?_
  refine Ld hs26.at0 ?_
  obtain ⟨r37, hr38, h39⟩ := bind_some hj35
  refine Cl' DF hs26 (DO N w25 F0 hs26.pers x0.Points a0_0 n0_0 hb0_0 hs0_0 x1.Points a1_0 n1_0 hb1_0 hs1_0 _ hr38) ?_
  rintro _ F2 w41 hs42 le43 rfl
  refine Vs 2 ?_
  refine Sp h39 (fun hb45 h46 => ?_) (fun hb45 h47 => ?_)
  ·refine Ss hb45 6 ?_
   refine Pk1 hb45 ?_
   refine Vs 1 ?_
   refine Ss (rfl : true = true) 6 ?_
   refine Pk1 (rfl : true = true) ?_
   refine Vs 1 ?_
   refine Ss (rfl : true = true) 7 ?_
   refine Pk1 (rfl : true = true) ?_
   obtain rfl := Ab h46
   exact Tj ⟨rfl, F2, hs42, le43, fI⟩
  ·refine Vgs hb45 1 ?_
   refine Lg hb45 hs42.at1 ?_
   refine Vgs hb45 1 ?_
   refine Lg hb45 hs42.at0 ?_
   obtain ⟨r48, hr49, h50⟩ := bind_some h47
   refine Cg hb45 DF hs42 (DO N w41 F2 hs42.pers x0.Multipliers a0_1 n0_1 hb0_1 (Tq hs0_1 le43) x1.Multipliers a1_1 n1_1 hb1_1 (Tq hs1_1 le43) _ hr49) ?_
   rintro _ F3 w52 hs53 le54 rfl
   refine Vgs hb45 1 ?_
   refine Pk0 hb45 ?_
   refine Vs 1 ?_
   refine Sp h50 (fun hb56 h57 => ?_) (fun hb56 h58 => ?_)
   ·refine Ss hb56 6 ?_
    refine Pk1 hb56 ?_
    refine Vs 1 ?_
    refine Ss (rfl : true = true) 7 ?_
    refine Pk1 (rfl : true = true) ?_
    obtain rfl := Ab h57
    exact Tj ⟨rfl, F3, hs53, (le43.trans le54), fI⟩
   ·refine Vgs hb56 1 ?_
    refine Lg hb56 hs53.at1 ?_
    refine Vgs hb56 1 ?_
    refine Lg hb56 hs53.at0 ?_
    obtain ⟨r59, hr60, h61⟩ := bind_some h58
    refine Cg hb56 DF hs53 (DO N w52 F3 hs53.pers x0.Penalties a0_2 n0_2 hb0_2 (Tq hs0_2 (le43.trans le54)) x1.Penalties a1_2 n1_2 hb1_2 (Tq hs1_2 (le43.trans le54)) _ hr60) ?_
    rintro _ F4 w63 hs64 le65 rfl
    refine Vgs hb56 1 ?_
    refine Pk0 hb56 ?_
    refine Vs 1 ?_
    refine Sp h61 (fun hb67 h68 => ?_) (fun hb67 h69 => ?_)
    ·refine Ss hb67 7 ?_
     refine Pk1 hb67 ?_
     obtain rfl := Ab h68
     exact Tj ⟨rfl, F4, hs64, ((le43.trans le54).trans le65), fI⟩
    ·refine Vgs hb67 1 ?_
     refine Lg hb67 hs64.at1 ?_
     refine Vgs hb67 2 ?_
     refine Lg hb67 hs64.at0 ?_
     refine Vgs hb67 2 ?_
     refine Pk0 hb67 ?_
     obtain rfl := Ab h69
     exact Tj ⟨rfl, F4, hs64, ((le43.trans le54).trans le65), fI⟩
 ·rintro f w27 ⟨F1, hs28, le29, ⟨_, rfl⟩⟩
  refine Ad ?_
  refine Cd h36 (fun hb70 h71 => ?_) (fun hb70 h72 => ?_)
  ·refine Sq (Rg [0] ?_)
   refine Vs 1 ?_
   refine Nt ?_
   refine Rt ?_
   refine Aj ?_
   obtain rfl := Ab h71
   exact Re [(.bool false)] hs28 rfl
  ·refine Sc ?_
   refine Ad ?_
   refine Sq ?_
   refine Sq (Rg [0] ?_)
   refine Vs 1 ?_
   refine Nt ?_
   obtain ⟨o73, ho74, h75⟩ := bind_some h72
   refine Tu (fun f w => ∃ (s84 : Int) (F6 : Mem), o73 = .done s84 /\ HS w0 F0 w F6 [] /\ Tn F1 F6 /\ FI f [] []) ?_ ?_
   ·refine Bk ?_
    refine Tm (by kernel_rfl) (fun m f w => ∃ (s76 : Int) (F5 : Mem), Be (Db N x0 x1 j30) m s76 = some o73 /\ HS w0 F0 w F5 [(sb b24 (AU x1 a1_0 n1_0 a1_1 n1_1 a1_2 n1_2 a1_3 n1_3) 26), (sb b21 (AU x0 a0_0 n0_0 a0_1 n0_1 a0_2 n0_2 a0_3 n0_3) 26)] /\ Tn F1 F5 /\ FI f [] [(2, (pt b21 0)), (3, (pt b24 0)), (5, (vi s76))]) N ⟨0, F1, ho74, hs28, (To _), fI⟩ ?_
    rintro m89 f w77 ⟨s76, F5, hit90, hs78, le79, ⟨_, rfl⟩⟩
    obtain ⟨m91, fl92, rfl, hb93, hnx94⟩ := A5 hit90
    refine Sq ?_
    refine Sq (Rg [0, 1, 2, 3, 4] ?_)
    refine Vs 2 ?_
    refine Ld hs78.at1 ?_
    refine Vs 2 ?_
    refine Nt ?_
    refine Cd hb93 (fun hb95 h96 => ?_) (fun hb95 h97 => ?_)
    ·refine Sc ?_
     refine Ad ?_
     refine Sq ?_
     refine Bk ?_
     refine Sq ?_
     obtain ⟨j103, hj109, h110⟩ := bind_some h96
     refine RD 12 12 [(sb b24 (AU x1 a1_0 n1_0 a1_1 n1_1 a1_2 n1_2 a1_3 n1_3) 26), (sb b21 (AU x0 a0_0 n0_0 a0_1 n0_1 a0_2 n0_2 a0_3 n0_3) 26)] [] hs78 (fun f w => ∃ (F7 : Mem), HS w0 F0 w F7 [(sb b24 (AU x1 a1_0 n1_0 a1_1 n1_1 a1_2 n1_2 a1_3 n1_3) 26), (sb b21 (AU x0 a0_0 n0_0 a0_1 n0_1 a0_2 n0_2 a0_3 n0_3) 26)] /\ Tn F5 F7 /\ FI f [] [(2, (pt b21 0)), (3, (pt b24 0)), (5, (vi s76)), (55, (.bool j103))]) (fun wd98 hw99 => ?_) ?_
     ·refine Dv [0] ?_
      refine Dl 1 (fun _ hq => (hq.1.2 1 _ _ rfl)) ?_
      refine Dv [2] ?_
      obtain ⟨x111, hx112, h114⟩ := bind_some hj109
      obtain ⟨hi113, hx112'⟩ := Az hx112
      obtain ⟨b115, o116, C117, E118, fz119, rfl, hF121, hE122⟩ := Tx (Tq hs0_3 (le29.trans le79)) hx112'
      obtain ⟨ae123_2, ne123_2, hc124, hbe123_2, hse123_2⟩ := (A1 (hE122 _ _ hx112'))
      refine Di 3 hi113 ?_
      refine Dx 4 0 (fun _ hq => hq.1.1 _ _ hF121) hc124 ?_
      refine Dv [5] ?_
      refine Dl 6 (fun _ hq => (hq.1.2 0 _ _ rfl)) ?_
      refine Dv [7] ?_
      obtain ⟨x125, hx126, h128⟩ := bind_some h114
      obtain ⟨hi127, hx126'⟩ := Az hx126
      obtain ⟨b129, o130, C131, E132, fz133, rfl, hF135, hE136⟩ := Tx (Tq hs1_3 (le29.trans le79)) hx126'
      obtain ⟨ae137_2, ne137_2, hc138, hbe137_2, hse137_2⟩ := (A1 (hE136 _ _ hx126'))
      refine Di 8 hi127 ?_
      refine Dx 9 0 (fun _ hq => hq.1.1 _ _ hF135) hc138 ?_
      refine D1 10 ?_
      obtain ⟨r139, hr140, h141⟩ := bind_some h128
      refine DCl Eg hw99 (Gu N wd98 F5 hw99.pers x111 ae123_2 ne123_2 hbe123_2 hse123_2 x125 ae137_2 ne137_2 hbe137_2 hse137_2 _ hr140) ?_
      rintro _ F8 w143 hs144 le145 rfl
      refine Dv [11] ?_
      obtain rfl := Ab h141
      exact TE (by kernel_rfl) ⟨F8, hs144, le145, fI⟩
     ·rintro f w100 ⟨F7, hs101, le102, ⟨_, rfl⟩⟩
      refine Ad ?_
      refine Cd h110 (fun hb147 h148 => ?_) (fun hb147 h149 => ?_)
      ·refine Sq (Rg [0] ?_)
       refine Vs 1 ?_
       refine Nt ?_
       refine Rt ?_
       refine Ao ?_
       refine Aj ?_
       refine Aj ?_
       refine Ao ?_
       have hret := B9 h148 hnx94
       subst hret
       refine .inr ?_
       refine Aj ?_
       obtain rfl := Ab h75
       exact Re [(.bool false)] hs101 rfl
      ·refine Sc ?_
       refine AA ?_
       refine Ad ?_
       refine Rg [0, 1, 2] ?_
       refine Vs 3 ?_
       refine Tj ?_
       have hn150 := AW h149 hnx94
       exact ⟨m91, Nat.lt_succ_self _, (W64 (s76 + 1)), F7, hn150, hs101, (le79.trans le102), fI⟩
    ·refine Ex ?_
     refine AC ?_
     refine AC ?_
     refine AL rfl ?_
     have ho151 := A8 h97 hnx94
     exact .inl ⟨rfl, s76, F5, ho151, hs78.dr0.dr0, le79, fI⟩
   ·rintro f w85 ⟨s84, F6, rfl, hs86, le87, ⟨_, rfl⟩⟩
    have h152 := BT h75
    refine Ad ?_
    refine Sq (Rg [0] ?_)
    refine Vs 1 ?_
    refine Nt ?_
    refine Rt ?_
    obtain rfl := Ab h152
    exact Re [(.bool true)] hs86 rfl
def Ec (N : Nat) (x0 : TN) : Option Bool :=
 ((Hr N ).bind fun r21 => (bif (bif (decide ((x0.length : Int) > 3000)) then ((decide ((x0.length : Int) <= 65536)) || (decide ((x0.length : Int) > 131072))) else (decide ((x0.length : Int) > 131072))) then some r21 else ((C8 N x0).bind fun r41 => ((Gb N x0).bind fun r54 => ((bif r21 then ((DX N r41.1 r54.1).bind fun r78 => (bif r78 then (bif (r41.2.1 == r54.2.1) then some (r41.2.2 == r54.2.2) else some false) else some false)) else some false).bind fun j70 => some j70)))))
theorem Iv (N : Nat) (w0 : World) (F0 : Mem) (hF : TP w0 F0) (hG : Dy F0) (x0 : TN) (r : Bool) (h : Ec N x0 = some r) :
  Calls Tryz.prog 3 ([(.string ⟨(x0).toArray⟩)] : List Value).toArray w0 (Bd w0 F0 fun F' v => v = (.bool r)) := by
 have hs0 := Tp hF
 refine Go 53 Tryz.func3 ?_
 refine Sq (Rg [0] ?_)
 refine Vs 1 ?_
 refine Nss (Rg [0, 1] ?_)
 obtain ⟨r21, hr22, h23⟩ := bind_some h
 refine Cl' L6 hs0 (MC N w0 F0 hs0.pers hG  _ hr22) ?_
 rintro _ F1 w25 hs26 le27 rfl
 refine Vs 1 ?_
 refine Nss ?_
 refine Sq (Rg [0, 1, 2, 3, 4, 5, 6, 7, 8, 9, 10, 11, 12] ?_)
 refine Tt (fun f w => ∃ (F2 : Mem), HS w0 F0 w F2 [] /\ Tn F1 F2 /\ FI f [] [(0, (.string ⟨(x0).toArray⟩)), (3, (.bool r21)), (23, (.bool (bif (decide ((x0.length : Int) > 3000)) then ((decide ((x0.length : Int) <= 65536)) || (decide ((x0.length : Int) > 131072))) else (decide ((x0.length : Int) > 131072)))))]) ?_ ?_
 ·refine Vs 4 ?_
  refine Ts (decide ((x0.length : Int) > 3000)) (fun hb36 => ?_) (fun hb36 => ?_)
  ·refine Vgs hb36 3 ?_
   refine Pk1 hb36 ?_
   refine Vs 1 ?_
   refine Ts (decide ((x0.length : Int) <= 65536)) (fun hb37 => ?_) (fun hb37 => ?_)
   ·refine Ss hb37 3 ?_
    refine Pk1 hb37 ?_
    exact Tj ⟨rfl, F1, hs26, (To _), (fJ ⟨rfl, rfl, (congrArg Value.bool (CH hb36 (Fk hb37 rfl))), trivial⟩)⟩
   ·refine Vgs hb37 3 ?_
    refine Pk0 hb37 ?_
    exact Tj ⟨rfl, F1, hs26, (To _), (fJ ⟨rfl, rfl, (congrArg Value.bool (CH hb36 (B7 hb37 rfl))), trivial⟩)⟩
  ·refine Ss hb36 3 ?_
   refine Pk0 hb36 ?_
   refine Vs 1 ?_
   refine Vg 20 9 8 false 19 rfl (mv 0 (.string ⟨(x0).toArray⟩)) ?_
   refine Vg 21 3 8 false 19 rfl (LA (x := (.tmp 20)) (ats := #[9]) (t := 9) (a := x0) rfl rfl (by kernel_rfl)) ?_
   refine Vg 22 4 8 false 19 rfl (M7 (t := 3) (t' := 3) (x := (.tmp 21)) (y := (.const (vi 131072))) (k := .i64) (a := (x0.length : Int)) (b := 131072) rfl rfl) ?_
   refine Pk0 (rfl : false = false) ?_
   exact Tj ⟨rfl, F1, hs26, (To _), (fJ ⟨rfl, rfl, (congrArg Value.bool (C7 hb36 rfl)), trivial⟩)⟩
 ·rintro f w29 ⟨F2, hs30, le31, ⟨_, rfl⟩⟩
  refine Ad ?_
  refine Cd h23 (fun hb38 h39 => ?_) (fun hb38 h40 => ?_)
  ·refine Sq (Rg [0, 1] ?_)
   refine Vs 2 ?_
   refine Nt ?_
   refine Rt ?_
   refine Aj ?_
   obtain rfl := Ab h39
   exact Re [(.bool r21)] hs30 rfl
  ·refine Sc ?_
   refine Ad ?_
   refine Sq (Rg [0, 1, 2, 3, 4, 5, 6, 7, 8, 9] ?_)
   refine Vs 1 ?_
   obtain ⟨r41, hr42, h43⟩ := bind_some h40
   refine Cl' FL hs30 (Gt N w29 F2 hs30.pers (hG.mono (le27.trans le31)) x0 _ hr42) ?_
   rintro _ F3 w45 hs46 le47 ⟨ar41_0_0, nr41_0_0, ar41_0_1, nr41_0_1, ar41_0_2, nr41_0_2, ar41_0_3, nr41_0_3, rfl, hbr41_0_0, hsr41_0_0, hbr41_0_1, hsr41_0_1, hbr41_0_2, hsr41_0_2, hbr41_0_3, hsr41_0_3⟩
   refine Vs 4 ?_
   refine Al' 26 #[(.slice none ([] : List Clause).length 0), (.slice none ([] : List Clause).length 0), (.slice none ([] : List Clause).length 0), (.slice none ([] : List Expr).length 0)] hs46 (fun b49 w50 hs51 => ?_)
   refine St0 (AU r41.1 ar41_0_0 nr41_0_0 ar41_0_1 nr41_0_1 ar41_0_2 nr41_0_2 ar41_0_3 nr41_0_3) hs51 (fun w52 hs53 => ?_)
   refine Vs 2 ?_
   refine Nss (Rg [0, 1, 2, 3, 4, 5, 6, 7, 8, 9] ?_)
   refine Vs 1 ?_
   obtain ⟨r54, hr55, h56⟩ := bind_some h43
   refine Cl' L4 hs53 (MA N w52 F3 hs53.pers x0 _ hr55) ?_
   rintro _ F4 w58 hs59 le60 ⟨ar54_0_0, nr54_0_0, ar54_0_1, nr54_0_1, ar54_0_2, nr54_0_2, ar54_0_3, nr54_0_3, rfl, hbr54_0_0, hsr54_0_0, hbr54_0_1, hsr54_0_1, hbr54_0_2, hsr54_0_2, hbr54_0_3, hsr54_0_3⟩
   refine Vs 4 ?_
   refine Al' 26 #[(.slice none ([] : List Clause).length 0), (.slice none ([] : List Clause).length 0), (.slice none ([] : List Clause).length 0), (.slice none ([] : List Expr).length 0)] hs59 (fun b62 w63 hs64 => ?_)
   refine St0 (AU r54.1 ar54_0_0 nr54_0_0 ar54_0_1 nr54_0_1 ar54_0_2 nr54_0_2 ar54_0_3 nr54_0_3) hs64 (fun w65 hs66 => ?_)
   refine Vs 2 ?_
   refine Nss (Rg [0, 1, 2, 3, 4, 5, 6, 7, 8, 9, 10, 11, 12, 13, 14, 15, 16] ?_)
   obtain ⟨j70, hj73, h74⟩ := bind_some h56
   refine Tt (fun f w => ∃ (F5 : Mem), HS w0 F0 w F5 [] /\ Tn F4 F5 /\ FI f [] [(2, (.bool j70))]) ?_ ?_
   ·refine Vs 2 ?_
    refine Sp hj73 (fun hb75 h76 => ?_) (fun hb75 h77 => ?_)
    ·refine Lg hb75 hs66.at1 ?_
     refine Lg hb75 hs66.at0 ?_
     obtain ⟨r78, hr79, h80⟩ := bind_some h76
     refine Cg hb75 Jb hs66 (Kc N w65 F4 hs66.pers r41.1 ar41_0_0 nr41_0_0 hbr41_0_0 (Tq hsr41_0_0 le60) ar41_0_1 nr41_0_1 hbr41_0_1 (Tq hsr41_0_1 le60) ar41_0_2 nr41_0_2 hbr41_0_2 (Tq hsr41_0_2 le60) ar41_0_3 nr41_0_3 hbr41_0_3 (Tq hsr41_0_3 le60) r54.1 ar54_0_0 nr54_0_0 hbr54_0_0 hsr54_0_0 ar54_0_1 nr54_0_1 hbr54_0_1 hsr54_0_1 ar54_0_2 nr54_0_2 hbr54_0_2 hsr54_0_2 ar54_0_3 nr54_0_3 hbr54_0_3 hsr54_0_3 _ hr79) ?_
     rintro _ F6 w82 hs83 le84 rfl
     refine Pk1 hb75 ?_
     refine Vs 1 ?_
     refine Sp h80 (fun hb86 h87 => ?_) (fun hb86 h88 => ?_)
     ·refine Vgs hb86 3 ?_
      refine Pk1 hb86 ?_
      refine Vs 1 ?_
      refine Sp h87 (fun hb89 h90 => ?_) (fun hb89 h91 => ?_)
      ·refine Vgs hb89 3 ?_
       refine Pk1 hb89 ?_
       refine Vs 1 ?_
       obtain rfl := Ab h90
       exact Tj ⟨rfl, F6, hs83.dr0.dr0, le84, fI⟩
      ·refine Ss hb89 3 ?_
       refine Pk0 hb89 ?_
       refine Vs 1 ?_
       obtain rfl := Ab h91
       exact Tj ⟨rfl, F6, hs83.dr0.dr0, le84, fI⟩
     ·refine Ss hb86 3 ?_
      refine Pk0 hb86 ?_
      refine Vs 1 ?_
      refine Ss (rfl : false = false) 3 ?_
      refine Pk0 (rfl : false = false) ?_
      refine Vs 1 ?_
      obtain rfl := Ab h88
      exact Tj ⟨rfl, F6, hs83.dr0.dr0, le84, fI⟩
    ·refine Ss hb75 3 ?_
     refine Pk0 hb75 ?_
     refine Vs 1 ?_
     refine Ss (rfl : false = false) 3 ?_
     refine Pk0 (rfl : false = false) ?_
     refine Vs 1 ?_
     refine Ss (rfl : false = false) 3 ?_
     refine Pk0 (rfl : false = false) ?_
     refine Vs 1 ?_
     obtain rfl := Ab h77
     exact Tj ⟨rfl, F4, hs66.dr0.dr0, (To _), fI⟩
   ·rintro f w67 ⟨F5, hs68, le69, ⟨_, rfl⟩⟩
    refine Ad ?_
    refine Rt ?_
    obtain rfl := Ab h74
    exact Re [(.bool j70)] hs68 rfl
section
variable {N n : Nat} {Lr : List An} {Lf : List Af} (T : IB n Lr Lf)
include T
theorem Hq (hN : 10 * n + 1000 <= N) {i : Nat} (hi : i < n) :
  (∃ j x, i < j /\ j < n /\ Fit N x /\ AQ N (PS Lr i 0) = some (.inr (PS Lr j 0, ⟨x, atI Lf i⟩)) /\ Bn N (RS Lf i 0) = some (RS Lf j 0, x)) \/
  (∃ e w j o' x, e ≠ 0 /\ j < n /\ AQ N (PS Lr i 0) = some (.inl ⟨e, w⟩) /\ Bn N (RS Lf i 0) = some (RB Lf j o' e w, x)) := by
 obtain ⟨p, r, p1, r1, h⟩ := PW T hN hi (o := 0) (by omega) (by omega)
 obtain ⟨a, b, ha, hb, hc, hd, _, hat⟩ := T.hd hi
 unfold AQ
 rw [show (PS Lr i 0).l_ = Lr.drop i from rfl, hc, p1, r1]
 simp only [Option.bind_some]
 cases h with
 | err e w j o' x he hj => exact .inr ⟨e, w, j, o', x, he, hj, rfl, rfl⟩
 | ok j x h1 h2 hx =>
  refine .inl ⟨j, x, h1, h2, SS hx (by omega), ?_, rfl⟩
  rw [hat]; unfold atI; rw [hb]; rfl
theorem Kp {i j : Nat} {x : Expr} {q : Ac} (hf : Fit N x) (at_ t : Int) :
  (AK N q ⟨x, at_⟩ t = some (.inr ()) /\ AX N (RS Lf i 0) x at_ t = some (RS Lf i 0)) \/
  (∃ e, e ≠ 0 /\ AK N q ⟨x, at_⟩ t = some (.inl ⟨e, at_⟩) /\ AX N (RS Lf i 0) x at_ t = some (RB Lf i 0 e at_)) := by
 rcases OY T (N := N) (i := i) (o := 0) (q := q) hf at_ t with ⟨_, c1, c2⟩ | ⟨_, _, c1, c2⟩ | ⟨_, _, _, c1, c2⟩
 ·exact .inr ⟨2, by decide, c1, c2⟩
 ·exact .inr ⟨61, by decide, c1, c2⟩
 ·exact .inl ⟨c1, c2⟩
theorem HM {β : Type} (hN : 10 * n + 1000 <= N) {i : Nat} (hi : i < n) {l : List Clause} (hl : l.length <= 64) (at_ : Int) (fin : Ac -> List Clause -> Ak ⊕ (Ac × BC)) (finF : Aa -> Expr -> Expr -> Option β) :
  (∃ j x y, i < j /\ j < n /\ Fit N x /\ Fit N y /\ l.length < 64 /\ ClR N (PS Lr i 0) l at_ fin = some (fin (PS Lr j 0) (l ++ [⟨x, y⟩])) /\ ClF N (RS Lf i 0) ((l.length : Int) == 64) at_ finF = finF (RS Lf j 0) x y) \/
  (∃ e w j o' x y, e ≠ 0 /\ ClR N (PS Lr i 0) l at_ fin = some (.inl ⟨e, w⟩) /\ ClF N (RS Lf i 0) ((l.length : Int) == 64) at_ finF = finF (RB Lf j o' e w) x y) := by
 unfold ClR ClF
 rw [FF T hi 0 (by decide), Gn T hi]
 cases hs : Se Lf i [58] with
 | false => exact .inr ⟨60, atI Lf i, i, 0, zE, zE, by decide, rfl, RM T hi (by omega) (by decide)⟩
 | true =>
  have hi1 := T.lt hi hs
  simp only [cond_true, Option.bind_some, sk]
  unfold Fz1
  rw [show (RS Lf (i + 1) 0).L = Lf from rfl, show (RS Lf (i + 1) 0).At = ((i + 1 : Nat) : Int) from rfl, MQ T hi1, Option.bind_some]
  rcases Hq T hN hi1 with ⟨j, x, h1, h2, hx, e1, e2⟩ | ⟨e, w, j, o', x, he, hj, e1, e2⟩
  ·rw [e1, e2, Option.bind_some, Option.bind_some]
   simp only
   unfold Fz2
   rw [FF T h2 0 (by decide), Gn T h2]
   cases hs2 : Se Lf j [61, 62] with
   | false => exact .inr ⟨60, atI Lf j, j, 0, x, zE, by decide, rfl, Py T h2 (by omega) (by decide) x _⟩
   | true =>
    have hj1 := T.lt h2 hs2
    simp only [cond_true, Option.bind_some, sk]
    unfold Fz3
    rw [show (RS Lf (j + 1) 0).L = Lf from rfl, show (RS Lf (j + 1) 0).At = ((j + 1 : Nat) : Int) from rfl, MQ T hj1, Option.bind_some]
    rcases Hq T hN hj1 with ⟨k, y, k1, k2, hy, f1, f2⟩ | ⟨e, w, k, o', y, he, hk, f1, f2⟩
    ·rw [f1, f2, Option.bind_some, Option.bind_some]
     simp only
     rw [Pm T k2, Of T k2]
     cases hen : En Lf k with
     | false => exact .inr ⟨60, atI Lf k, k, 0, x, y, by decide, rfl, NI T (by decide) x _ y _⟩
     | true =>
      simp only [cond_true, Option.bind_some, sk]
      unfold BR Fz4
      by_cases hr : l.length = 64
      ·rw [show ((l.length : Int) == 64) = true by rw [hr]; rfl]
       refine .inr ⟨2, at_, k, 0, x, y, by decide, rfl, ?_⟩
       simp only [cond_true, Jw T, Option.bind_some]
       rw [show (⟨(RB Lf k 0 2 at_).L, (RB Lf k 0 2 at_).At, (RB Lf k 0 2 at_).Open, (RB Lf k 0 2 at_).Bad, (RB Lf k 0 2 at_).Where⟩ : Aa) = RB Lf k 0 2 at_ from rfl, Eo T (by decide), Option.bind_some, Eo T (by decide), Option.bind_some]
      ·rw [show ((l.length : Int) == 64) = false by simp; omega]
       simp only [cond_false, Option.bind_some, sk]
       rw [show (⟨(RS Lf k 0).L, (RS Lf k 0).At, (RS Lf k 0).Open, (RS Lf k 0).Bad, (RS Lf k 0).Where⟩ : Aa) = RS Lf k 0 from rfl]
       rcases Kp T (i := k) (j := 0) (q := PS Lr k 0) hx (atI Lf (i + 1)) 2 with ⟨c1, c2⟩ | ⟨e, he, c1, c2⟩
       ·rw [c1, c2, Option.bind_some, Option.bind_some]
        simp only
        rcases Kp T (i := k) (j := 0) (q := PS Lr k 0) hy (atI Lf (j + 1)) 1 with ⟨d1, d2⟩ | ⟨e, he, d1, d2⟩
        ·rw [d1, d2, Option.bind_some, Option.bind_some]
         simp only
         rw [Du (by simp; omega)]
         exact .inl ⟨k, x, y, by omega, k2, hx, hy, by omega, rfl, rfl⟩
        ·rw [d1, d2]
         exact .inr ⟨e, _, k, 0, x, y, he, rfl, rfl⟩
       ·rw [c1, c2]
        refine .inr ⟨e, _, k, 0, x, y, he, rfl, ?_⟩
        rw [Option.bind_some, Eo T he]; rfl
    ·rw [f1, f2, Option.bind_some, Option.bind_some]
     simp only
     rw [Ii T hk he, Option.bind_some, NI T he]
     exact .inr ⟨e, w, k, o', x, y, he, rfl, rfl⟩
  ·rw [e1, e2, Option.bind_some, Option.bind_some]
   simp only
   rw [Pz T hj (by omega) he]
   exact .inr ⟨e, w, j, o', x, zE, he, rfl, rfl⟩
theorem NW {β : Type} (hN : 10 * n + 1000 <= N) {i : Nat} (hi : i < n) {l : List Expr} (hl : l.length <= 64) (at_ : Int) (fin : Ac -> List Expr -> Ak ⊕ (Ac × BC)) (finF : Aa -> Expr -> Option β) :
  (∃ j x, i < j /\ j < n /\ Fit N x /\ l.length < 64 /\ RpR N (PS Lr i 0) l at_ fin = some (fin (PS Lr j 0) (l ++ [x])) /\ RpF N (RS Lf i 0) ((l.length : Int) == 64) at_ finF = finF (RS Lf j 0) x) \/
  (∃ e w j o' x, e ≠ 0 /\ RpR N (PS Lr i 0) l at_ fin = some (.inl ⟨e, w⟩) /\ RpF N (RS Lf i 0) ((l.length : Int) == 64) at_ finF = finF (RB Lf j o' e w) x) := by
 unfold RpR RpF
 rw [FF T hi 0 (by decide), Gn T hi]
 cases hs : Se Lf i [58] with
 | false => exact .inr ⟨60, atI Lf i, i, 0, zE, by decide, rfl, RL T hi (by omega) (by decide)⟩
 | true =>
  have hi1 := T.lt hi hs
  simp only [cond_true, Option.bind_some, sk]
  unfold Pz1
  rw [show (RS Lf (i + 1) 0).L = Lf from rfl, show (RS Lf (i + 1) 0).At = ((i + 1 : Nat) : Int) from rfl, MQ T hi1, Option.bind_some]
  rcases Hq T hN hi1 with ⟨k, x, h1, k2, hx, e1, e2⟩ | ⟨e, w, j, o', x, he, hj, e1, e2⟩
  ·rw [e1, e2, Option.bind_some, Option.bind_some]
   simp only
   unfold Pz2
   rw [Pm T k2, Of T k2]
   cases hen : En Lf k with
   | false =>
    refine .inr ⟨60, atI Lf k, k, 0, x, by decide, rfl, ?_⟩
    rw [cond_false, Option.bind_some]
    have := NH T (N := N) (fin := finF) (full := ((l.length : Int) == 64)) (at_ := at_) k2 (o := 0) (w := atI Lf k) (e := 60) (by decide) x (atI Lf (i + 1))
    unfold Pz2 at this
    rw [Ii T k2 (by decide), Option.bind_some] at this
    exact this
   | true =>
    simp only [cond_true, Option.bind_some, sk]
    unfold CV
    by_cases hr : l.length = 64
    ·rw [show ((l.length : Int) == 64) = true by rw [hr]; rfl]
     refine .inr ⟨2, at_, k, 0, x, by decide, rfl, ?_⟩
     simp only [cond_true, Jw T, Option.bind_some]
     rw [show (⟨(RB Lf k 0 2 at_).L, (RB Lf k 0 2 at_).At, (RB Lf k 0 2 at_).Open, (RB Lf k 0 2 at_).Bad, (RB Lf k 0 2 at_).Where⟩ : Aa) = RB Lf k 0 2 at_ from rfl, Eo T (by decide), Option.bind_some]
    ·rw [show ((l.length : Int) == 64) = false by simp; omega]
     simp only [cond_false, Option.bind_some, sk]
     rw [show (⟨(RS Lf k 0).L, (RS Lf k 0).At, (RS Lf k 0).Open, (RS Lf k 0).Bad, (RS Lf k 0).Where⟩ : Aa) = RS Lf k 0 from rfl]
     rcases Kp T (i := k) (j := 0) (q := PS Lr k 0) hx (atI Lf (i + 1)) 1 with ⟨c1, c2⟩ | ⟨e, he, c1, c2⟩
     ·rw [c1, c2, Option.bind_some, Option.bind_some]
      simp only
      rw [Du (by simp; omega)]
      refine .inl ⟨k, x, by omega, k2, hx, by omega, ?_, rfl⟩
      simp only [Option.bind_some]
      rw [JW, List.getElem?_append_right (Nat.le_refl _), Nat.sub_self]
      simp
     ·rw [c1, c2]
      exact .inr ⟨e, _, k, 0, x, he, rfl, rfl⟩
  ·rw [e1, e2, Option.bind_some, Option.bind_some]
   simp only
   rw [NH T hj he]
   exact .inr ⟨e, w, j, o', x, he, rfl, rfl⟩
structure Ow (N : Nat) (b : BC) : Prop where
 p : b.Points.length <= 64 /\ ∀ c, c ∈ b.Points -> Fit N c.When /\ Fit N c.Then
 m : b.Multipliers.length <= 64 /\ ∀ c, c ∈ b.Multipliers -> Fit N c.When /\ Fit N c.Then
 e : b.Penalties.length <= 64 /\ ∀ c, c ∈ b.Penalties -> Fit N c.When /\ Fit N c.Then
 r : b.Repeats.length <= 64 /\ ∀ x, x ∈ b.Repeats -> Fit N x
omit T in
theorem Nc {l : List Clause} {x y : Expr} (h : l.length <= 64 /\ ∀ c, c ∈ l -> Fit N c.When /\ Fit N c.Then) (hl : l.length < 64) (hx : Fit N x) (hy : Fit N y) : (l ++ [(⟨x, y⟩ : Clause)]).length <= 64 /\ ∀ c, c ∈ l ++ [(⟨x, y⟩ : Clause)] -> Fit N c.When /\ Fit N c.Then := by
 refine ⟨by simp; omega, fun c hc => ?_⟩
 rcases List.mem_append.1 hc with hc | hc
 ·exact h.2 c hc
 ·rw [List.mem_singleton.1 hc]; exact ⟨hx, hy⟩
theorem Jk {i : Nat} {a : An} {b : Af} (hi : i < n) (ha : Lr[i]? = some a) (hb : Lf[i]? = some b) {t : TN} (ht : t ≠ [10]) : (Se Lf i t = true -> a.text_ = t /\ b.Text = t) /\ (a.text_ ≠ t -> Se Lf i t = false) := by
 refine ⟨fun h => ⟨?_, ?_⟩, fun h => ?_⟩
 ·have := T.see ha hi ht
  rw [h] at this
  unfold seeR at this
  simp at this; exact this.2
 ·unfold Se at h; rw [hb] at h
  simp only at h
  unfold seeF at h
  simp at h; exact h.2
 ·rw [<- T.see ha hi ht]
  unfold seeR
  simp [h]
end
abbrev CK : TN := [112, 111, 105, 110, 116, 115]
abbrev EI : TN := [109, 117, 108, 116, 105, 112, 108, 105, 101, 114]
abbrev Hd : TN := [112, 101, 110, 97, 108, 116, 121]
abbrev NO : TN := [114, 101, 112, 101, 97, 116]
section
variable {N n : Nat} {Lr : List An} {Lf : List Af} (T : IB n Lr Lf)
include T
theorem PK (hN : 10 * n + 1000 <= N) {i : Nat} (hi : i < n) {B : BC} (hB : Ow N B) :
  (∃ j B', i < j /\ j < n /\ Ow N B' /\ CL N (PS Lr i 0) B = some (.inr (PS Lr j 0, B')) /\ CN N (RS Lf i 0) B = some (RS Lf j 0, B')) \/
  (∃ e w j o' B', e ≠ 0 /\ CL N (PS Lr i 0) B = some (.inl ⟨e, w⟩) /\ CN N (RS Lf i 0) B = some (RB Lf j o' e w, B')) := by
 obtain ⟨a, b, ha, hb, hc, hd, hcc, hat⟩ := T.hd hi
 have wp := Jk T hi ha hb (t := CK) (by decide)
 have wm := Jk T hi ha hb (t := EI) (by decide)
 have wn := Jk T hi ha hb (t := Hd) (by decide)
 have wr := Jk T hi ha hb (t := NO) (by decide)
 unfold CL CN
 rw [show (PS Lr i 0).l_ = Lr.drop i from rfl, hc, show (RS Lf i 0).L = Lf from rfl, show (RS Lf i 0).At = (i : Int) from rfl, hd, W1 T hi]
 simp only [Option.bind_some, Ej T hi, Eb T hi 0 (t := NO) (by decide)]
 rw [show (⟨Lf, ((i + 1 : Nat) : Int), (RS Lf i 0).Open, (RS Lf i 0).Bad, (RS Lf i 0).Where⟩ : Aa) = RS Lf (i + 1) 0 from rfl]
 cases hr : Se Lf i NO with
 | true =>
  obtain ⟨h1, h2⟩ := wr.1 hr
  have hp : Se Lf i CK = false := wp.2 (by rw [h1]; decide)
  have hm : Se Lf i EI = false := wm.2 (by rw [h1]; decide)
  have hn : Se Lf i Hd = false := wn.2 (by rw [h1]; decide)
  simp only [hp, hm, hn, h2, Bool.not_false, Bool.not_true, cond_true, cond_false, Option.bind_some, show (NO == NO) = true from rfl]
  rcases NW T hN (T.lt hi hr) hB.r.1 a.at_ (fun q l => .inr (q, ({ Points := B.Points, Multipliers := B.Multipliers, Penalties := B.Penalties, Repeats := l } : BC)))
   (fun r x => (((CU B.Repeats [({ Op := 0, Value := 0, Kids := ([] : List Expr) } : Expr)]).bind fun r219 => ((idx r219 (B.Repeats.length : Int)).bind fun x228 => some (r219.set ((B.Repeats.length : Int) : Int).toNat x))).bind fun j210 => some (r, ({ Points := B.Points, Multipliers := B.Multipliers, Penalties := B.Penalties, Repeats := j210 } : BC)))) with ⟨j, x, g1, g2, g3, g4, g5, g6⟩ | ⟨e, w, j, o', x, he, g5, g6⟩
  ·left
   refine ⟨j, ⟨B.Points, B.Multipliers, B.Penalties, B.Repeats ++ [x]⟩, by omega, g2, ?_, g5, ?_⟩
   rotate_left
   ·rw [<- hat]
    refine Eq.trans g6 ?_
    rw [Du (by simp; omega)]
    simp only [Option.bind_some]
    rw [JW, List.getElem?_append_right (Nat.le_refl _), Nat.sub_self]
    simp
   ·refine ⟨hB.p, hB.m, hB.e, by simp; omega, fun y hy => ?_⟩
    rcases List.mem_append.1 hy with hy | hy
    ·exact hB.r.2 y hy
    ·rw [List.mem_singleton.1 hy]; exact g3
  ·refine .inr ⟨e, w, j, o', ⟨B.Points, B.Multipliers, B.Penalties, B.Repeats ++ [x]⟩, he, g5, ?_⟩
   rw [<- hat]
   refine Eq.trans g6 ?_
   rw [Du (by simp; have := hB.r.1; omega)]
   simp only [Option.bind_some]
   rw [JW, List.getElem?_append_right (Nat.le_refl _), Nat.sub_self]
   simp
 | false =>
  simp only [cond_false, Bool.not_false, Bool.not_true, Option.bind_some]
  have hfail : Se Lf i CK = false -> Se Lf i EI = false -> Se Lf i Hd = false ->
    ((bif !Se Lf i CK then ((bif !Se Lf i EI then ((bif !Se Lf i Hd then some true else some false) : Option Bool) else some false)) else some false) : Option Bool) = some true := by
   intro h1 h2 h3; rw [h1, h2, h3]; rfl
  by_cases t1 : a.text_ = CK
  ·rw [t1]
   simp only [show (CK == CK) = true from rfl, cond_true, Eb T hi 0 (t := CK) (by decide), Option.bind_some]
   cases hp : Se Lf i CK with
   | false =>
    rw [wm.2 (by rw [t1]; decide), wn.2 (by rw [t1]; decide)]
    exact .inr ⟨60, b.At, i, 0, B, by decide, by rw [<- hat]; rfl, rfl⟩
   | true =>
    obtain ⟨_, h2⟩ := wp.1 hp
    simp only [h2, Bool.not_false, Bool.not_true, cond_true, cond_false, Option.bind_some, show (CK == CK) = true from rfl, show (CK == NO) = false from rfl, show (CK == EI) = false from rfl, show (CK == Hd) = false from rfl, Bool.false_and, Bool.or_false]
    rcases HM T hN (T.lt hi hp) hB.p.1 a.at_ (fun q l => .inr (q, ({ Points := l, Multipliers := B.Multipliers, Penalties := B.Penalties, Repeats := B.Repeats } : BC)))
     (fun r x y => (((CU B.Points [({ When := x, Then := y } : Clause)]).bind fun r445 => some r445).bind fun j436 => some (j436, B.Multipliers, B.Penalties)).bind fun j424 => some (r, ({ Points := j424.1, Multipliers := j424.2.1, Penalties := j424.2.2, Repeats := B.Repeats } : BC))) with ⟨j, x, y, g1, g2, gx, gy, g4, g5, g6⟩ | ⟨e, w, j, o', x, y, he, g5, g6⟩
    ·refine .inl ⟨j, ⟨B.Points ++ [({ When := x, Then := y } : Clause)], B.Multipliers, B.Penalties, B.Repeats⟩, by omega, g2, ⟨Nc hB.p g4 gx gy, hB.m, hB.e, hB.r⟩, g5, ?_⟩
     rw [<- hat]
     refine Eq.trans g6 ?_
     rw [Du (by simp; omega)]; rfl
    ·refine .inr ⟨e, w, j, o', ⟨B.Points ++ [({ When := x, Then := y } : Clause)], B.Multipliers, B.Penalties, B.Repeats⟩, he, g5, ?_⟩
     rw [<- hat]
     refine Eq.trans g6 ?_
     rw [Du (by simp; have := hB.p.1; omega)]; rfl
  rw [show (a.text_ == CK) = false by simpa using t1, wp.2 t1]
  simp only [cond_false, cond_true, Bool.not_false]
  by_cases t2 : a.text_ = EI
  ·rw [t2]
   simp only [show (EI == EI) = true from rfl, cond_true, Eb T hi 0 (t := EI) (by decide), Option.bind_some]
   cases hp : Se Lf i EI with
   | false =>
    rw [wn.2 (by rw [t2]; decide)]
    exact .inr ⟨60, b.At, i, 0, B, by decide, by rw [<- hat]; rfl, rfl⟩
   | true =>
    obtain ⟨_, h2⟩ := wm.1 hp
    simp only [h2, Bool.not_false, Bool.not_true, cond_true, cond_false, Option.bind_some, show (EI == EI) = true from rfl, show (EI == NO) = false from rfl, show (EI == CK) = false from rfl, show (EI == Hd) = false from rfl, Bool.false_and, Bool.or_false]
    rcases HM T hN (T.lt hi hp) hB.m.1 a.at_ (fun q l => .inr (q, ({ Points := B.Points, Multipliers := l, Penalties := B.Penalties, Repeats := B.Repeats } : BC)))
     (fun r x y => ((((CU B.Multipliers [({ When := x, Then := y } : Clause)]).bind fun r481 => some r481).bind fun j472 => some (j472, B.Penalties)).bind fun j460 => some (B.Points, j460.1, j460.2)).bind fun j424 => some (r, ({ Points := j424.1, Multipliers := j424.2.1, Penalties := j424.2.2, Repeats := B.Repeats } : BC))) with ⟨j, x, y, g1, g2, gx, gy, g4, g5, g6⟩ | ⟨e, w, j, o', x, y, he, g5, g6⟩
    ·refine .inl ⟨j, ⟨B.Points, B.Multipliers ++ [({ When := x, Then := y } : Clause)], B.Penalties, B.Repeats⟩, by omega, g2, ⟨hB.p, Nc hB.m g4 gx gy, hB.e, hB.r⟩, g5, ?_⟩
     rw [<- hat]
     refine Eq.trans g6 ?_
     rw [Du (by simp; omega)]; rfl
    ·refine .inr ⟨e, w, j, o', ⟨B.Points, B.Multipliers ++ [({ When := x, Then := y } : Clause)], B.Penalties, B.Repeats⟩, he, g5, ?_⟩
     rw [<- hat]
     refine Eq.trans g6 ?_
     rw [Du (by simp; have := hB.m.1; omega)]; rfl
  rw [show (a.text_ == EI) = false by simpa using t2, wm.2 t2]
  simp only [cond_false, cond_true, Bool.not_false]
  by_cases t3 : a.text_ = Hd
  ·rw [t3]
   simp only [show (Hd == Hd) = true from rfl, cond_true, Eb T hi 0 (t := Hd) (by decide), Option.bind_some]
   cases hp : Se Lf i Hd with
   | false => exact .inr ⟨60, b.At, i, 0, B, by decide, by rw [<- hat]; rfl, rfl⟩
   | true =>
    obtain ⟨_, h2⟩ := wn.1 hp
    simp only [h2, Bool.not_false, Bool.not_true, cond_true, cond_false, Option.bind_some, show (Hd == Hd) = true from rfl, show (Hd == NO) = false from rfl, show (Hd == CK) = false from rfl, show (Hd == EI) = false from rfl, Bool.true_and]
    rcases HM T hN (T.lt hi hp) hB.e.1 a.at_ (fun q l => .inr (q, ({ Points := B.Points, Multipliers := B.Multipliers, Penalties := l, Repeats := B.Repeats } : BC)))
     (fun r x y => (((((CU B.Penalties [({ When := x, Then := y } : Clause)]).bind fun r517 => some r517).bind fun j508 => some j508).bind fun j496 => some (B.Multipliers, j496)).bind fun j460 => some (B.Points, j460.1, j460.2)).bind fun j424 => some (r, ({ Points := j424.1, Multipliers := j424.2.1, Penalties := j424.2.2, Repeats := B.Repeats } : BC))) with ⟨j, x, y, g1, g2, gx, gy, g4, g5, g6⟩ | ⟨e, w, j, o', x, y, he, g5, g6⟩
    ·refine .inl ⟨j, ⟨B.Points, B.Multipliers, B.Penalties ++ [({ When := x, Then := y } : Clause)], B.Repeats⟩, by omega, g2, ⟨hB.p, hB.m, Nc hB.e g4 gx gy, hB.r⟩, g5, ?_⟩
     rw [<- hat]
     refine Eq.trans g6 ?_
     rw [Du (by simp; omega)]; rfl
    ·refine .inr ⟨e, w, j, o', ⟨B.Points, B.Multipliers, B.Penalties ++ [({ When := x, Then := y } : Clause)], B.Repeats⟩, he, g5, ?_⟩
     rw [<- hat]
     refine Eq.trans g6 ?_
     rw [Du (by simp; have := hB.e.1; omega)]; rfl
  rw [show (a.text_ == Hd) = false by simpa using t3, wn.2 t3]
  exact .inr ⟨60, b.At, i, 0, B, by decide, by rw [<- hat]; rfl, rfl⟩
end
end Go.Proofs.YtaihlcdkcampbaaGreatDoor
