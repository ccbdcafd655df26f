/- Lemmas of the claim RulesReads, printed by a program of the claimant and by hand. No statement of the seat is proved here. -/
import Derived.Test.YtaihlcdkcampbaaGreatDoorA3
set_option linter.unusedVariables false
set_option linter.unusedSimpArgs false
set_option linter.unusedSectionVars false
set_option maxHeartbeats 4000000
set_option maxRecDepth 100000
namespace Go.Proofs.YtaihlcdkcampbaaGreatDoor
open Go.Proofs
def ref06_reader_sum_L0 (N : Nat) (sR234 : pileupref06_reader → Option (pileupref06_reader × Expr)) (x0 : pileupref06_reader) (r24 : (pileupref06_reader × Expr)) : (Int × Int × List Expr × List pileupref06_token × Int × Int × Int × Int) → Option (Flow (pileupref06_reader × Expr) (Int × Int × List Expr × List pileupref06_token × Int × Int × Int × Int)) := fun s39 =>
 ((bif (s39.2.2.2.2.2.2.1 == 0) then ((ref06_reader_see N ({ L := s39.2.2.2.1, At := s39.2.2.2.2.1, Open := s39.2.2.2.2.2.1, Bad := s39.2.2.2.2.2.2.1, Where := s39.2.2.2.2.2.2.2 } : pileupref06_reader) ([43] : List UInt8)).bind fun r74 => (bif r74 then some true else ((ref06_reader_see N ({ L := s39.2.2.2.1, At := s39.2.2.2.2.1, Open := s39.2.2.2.2.2.1, Bad := s39.2.2.2.2.2.2.1, Where := s39.2.2.2.2.2.2.2 } : pileupref06_reader) ([45] : List UInt8)).bind fun r84 => some r84))) else some false).bind fun j63 => (bif j63 then ((ref06_reader_see N ({ L := s39.2.2.2.1, At := s39.2.2.2.2.1, Open := s39.2.2.2.2.2.1, Bad := s39.2.2.2.2.2.2.1, Where := s39.2.2.2.2.2.2.2 } : pileupref06_reader) ([43] : List UInt8)).bind fun r94 => ((sR234 ({ L := s39.2.2.2.1, At := (W64 (s39.2.2.2.2.1 + 1)), Open := s39.2.2.2.2.2.1, Bad := s39.2.2.2.2.2.2.1, Where := s39.2.2.2.2.2.2.2 } : pileupref06_reader)).bind fun r112 => ((ref06_pair N (bif r94 then 8 else 9) ({ Op := s39.1, Value := s39.2.1, Kids := s39.2.2.1 } : Expr) r112.2).bind fun r124 => some (.next (r124.Op, r124.Value, r124.Kids, r112.1.L, r112.1.At, r112.1.Open, r112.1.Bad, r112.1.Where))))) else some (.done (s39.1, s39.2.1, s39.2.2.1, s39.2.2.2.1, s39.2.2.2.2.1, s39.2.2.2.2.2.1, s39.2.2.2.2.2.2.1, s39.2.2.2.2.2.2.2))))
def ref06_reader_sum_S (N : Nat) (sR234 : pileupref06_reader → Option (pileupref06_reader × Expr)) (x0 : pileupref06_reader) : Option (pileupref06_reader × Expr) :=
 ((sR234 x0).bind fun r24 => ((iter (ref06_reader_sum_L0 N sR234 x0 r24) N (r24.2.Op, r24.2.Value, r24.2.Kids, r24.1.L, r24.1.At, r24.1.Open, r24.1.Bad, r24.1.Where)).bind fun o => o.k (fun r => some r) (fun s47 => some (({ L := s47.2.2.2.1, At := s47.2.2.2.2.1, Open := s47.2.2.2.2.2.1, Bad := s47.2.2.2.2.2.2.1, Where := s47.2.2.2.2.2.2.2 } : pileupref06_reader), ({ Op := s47.1, Value := s47.2.1, Kids := s47.2.2.1 } : Expr)))))
theorem cS_ref06_reader_sum (N : Nat) (sR234 : pileupref06_reader → Option (pileupref06_reader × Expr)) (hsR234 : Self234 sR234) {wb w0 : World} {Fb F0 : Mem} {Lf : Own} (bp0 : Nat) (x0 : pileupref06_reader) (a0_0 : Option Addr) (n0_0 : Nat) (hb0_0 : LC x0.L.length n0_0) (hs0_0 : SlA tpileupref06_token F0 a0_0 x0.L) (hs0 : HS wb Fb w0 F0 ((sb bp0 (kpileupref06_reader x0 a0_0 n0_0) 108) :: Lf)) (r : (pileupref06_reader × Expr)) (h : ref06_reader_sum_S N sR234 x0 = some r) :
  Calls Tryz.prog 227 ([(pt bp0 0)] : List Value).toArray w0 (BRet wb Fb F0 fun F' v L' => ∃ (aq0_0 : Option Addr) (nq0_0 : Nat) (aq1_2 : Option Addr) (nq1_2 : Nat), v = (.agg (kExpr r.2 aq1_2 nq1_2)) ∧ L' = (sb bp0 (kpileupref06_reader r.1 aq0_0 nq0_0) 108) :: Lf ∧ LC r.1.L.length nq0_0 ∧ SlA tpileupref06_token F' aq0_0 r.1.L ∧ LC r.2.Kids.length nq1_2 ∧ SlA tExpr F' aq1_2 r.2.Kids) := by
 refine Go 37 Tryz.func227 ?_
 refine Sq (Rg [0] ?_)
 refine Al' 33 #[(vi 0), (vi 0), (.slice none ([] : List Expr).length 0)] hs0 (fun b21 w22 hs23 => ?_)
 refine Nss (Rg [0, 1, 2, 3] ?_)
 refine Vs 1 ?_
 obtain ⟨r24, hr25, h26⟩ := bind_some h
 refine CB co_ref06_reader_term (hsR234 bp0 (x0) a0_0 n0_0 hb0_0 hs0_0 hs23.pk1 _ hr25) ?_
 rintro _ F1 w27 _ hs28 le29 ⟨ar24_0_0, nr24_0_0, ar24_1_2, nr24_1_2, rfl, rfl, hbr24_0_0, hsr24_0_0, hbr24_1_2, hsr24_1_2⟩
 refine Al' 33 #[(vi 0), (vi 0), (.slice none ([] : List Expr).length 0)] hs28 (fun b31 w32 hs33 => ?_)
 refine St0 (kExpr r24.2 ar24_1_2 nr24_1_2) hs33 (fun w34 hs35 => ?_)
 refine Nss ?_
 obtain ⟨o36, ho37, h38⟩ := bind_some h26
 refine CWP.cut (fun f w => ∃ (s47 : (Int × Int × List Expr × List pileupref06_token × Int × Int × Int × Int)) (F3 : Mem) (as47_2 : Option Addr) (ns47_2 : Nat) (as47_3 : Option Addr) (ns47_3 : Nat), o36 = .done s47 ∧ HS wb Fb w F3 ((sb b31 #[(vi s47.1), (vi s47.2.1), (.slice as47_2 s47.2.2.1.length ns47_2)] 33) :: (sb bp0 #[(.slice as47_3 s47.2.2.2.1.length ns47_3), (vi s47.2.2.2.2.1), (vi s47.2.2.2.2.2.1), (vi s47.2.2.2.2.2.2.1), (vi s47.2.2.2.2.2.2.2)] 108) :: (sb b21 #[(vi 0), (vi 0), (.slice none ([] : List Expr).length 0)] 33) :: Lf) ∧ Mem.le F1 F3 ∧ FI f [] [(2, (pt b21 0)), (3, (pt b31 0))] ∧ LC s47.2.2.1.length ns47_2 ∧ SlA tExpr F3 as47_2 s47.2.2.1 ∧ LC s47.2.2.2.1.length ns47_3 ∧ SlA tpileupref06_token F3 as47_3 s47.2.2.2.1) ?_ ?_
 ·refine Bk ?_
  refine CWP.loop (by kernel_rfl) (fun m f w => ∃ (s39 : (Int × Int × List Expr × List pileupref06_token × Int × Int × Int × Int)) (F2 : Mem) (as39_2 : Option Addr) (ns39_2 : Nat) (as39_3 : Option Addr) (ns39_3 : Nat), iter (ref06_reader_sum_L0 N sR234 x0 r24) m s39 = some o36 ∧ HS wb Fb w F2 ((sb b31 #[(vi s39.1), (vi s39.2.1), (.slice as39_2 s39.2.2.1.length ns39_2)] 33) :: (sb bp0 #[(.slice as39_3 s39.2.2.2.1.length ns39_3), (vi s39.2.2.2.2.1), (vi s39.2.2.2.2.2.1), (vi s39.2.2.2.2.2.2.1), (vi s39.2.2.2.2.2.2.2)] 108) :: (sb b21 #[(vi 0), (vi 0), (.slice none ([] : List Expr).length 0)] 33) :: Lf) ∧ Mem.le F1 F2 ∧ FI f [] [(0, (pt bp0 0)), (2, (pt b21 0)), (3, (pt b31 0))] ∧ LC s39.2.2.1.length ns39_2 ∧ SlA tExpr F2 as39_2 s39.2.2.1 ∧ LC s39.2.2.2.1.length ns39_3 ∧ SlA tpileupref06_token F2 as39_3 s39.2.2.2.1) N ⟨(r24.2.Op, r24.2.Value, r24.2.Kids, r24.1.L, r24.1.At, r24.1.Open, r24.1.Bad, r24.1.Where), F1, ar24_1_2, nr24_1_2, ar24_0_0, nr24_0_0, ho37, hs35, (Mem.le.refl _), fI, hbr24_1_2, hsr24_1_2, hbr24_0_0, hsr24_0_0⟩ ?_
  rintro m54 f w40 ⟨s39, F2, as39_2, ns39_2, as39_3, ns39_3, hit55, hs41, le42, ⟨_, rfl⟩, hbs39_2, hss39_2, hbs39_3, hss39_3⟩
  obtain ⟨m56, fl57, rfl, hb58, hnx59⟩ := iter_step hit55
  refine Sq ?_
  refine Sq (Rg [0, 1, 2, 3, 4, 5, 6, 7, 8, 9, 10, 11, 12] ?_)
  obtain ⟨j63, hj69, h70⟩ := bind_some hb58
  refine RWP.cut (fun f w => ∃ (F4 : Mem), HS wb Fb w F4 ((sb b31 #[(vi s39.1), (vi s39.2.1), (.slice as39_2 s39.2.2.1.length ns39_2)] 33) :: (sb bp0 #[(.slice as39_3 s39.2.2.2.1.length ns39_3), (vi s39.2.2.2.2.1), (vi s39.2.2.2.2.2.1), (vi s39.2.2.2.2.2.2.1), (vi s39.2.2.2.2.2.2.2)] 108) :: (sb b21 #[(vi 0), (vi 0), (.slice none ([] : List Expr).length 0)] 33) :: Lf) ∧ Mem.le F2 F4 ∧ FI f [] [(0, (pt bp0 0)), (2, (pt b21 0)), (3, (pt b31 0)), (20, (.bool j63))]) ?_ ?_
  ·refine Vs 3 ?_
   refine Ld hs41.at1 ?_
   refine Vs 2 ?_
   refine Sp hj69 (fun hb71 h72 => ?_) (fun hb71 h73 => ?_)
   ·refine Vgs hb71 1 ?_
    obtain ⟨r74, hr75, h76⟩ := bind_some h72
    refine RWP.callB (dst := (some 15)) (ty := 4) (g := (some (5, true))) (by kernel_rfl) (gd_y (d := 13) (by kernel_rfl) rfl hb71) (f0 := (.func 142)) (aos := #[(.tmp 14), (.const (.string ⟨([43] : List UInt8).toArray⟩))]) (ats := #[104, 9]) (fid := 142) (first := #[]) (cap := #[]) (args := [(pt bp0 0), (.string ⟨(([43] : List UInt8)).toArray⟩)]) rfl co_ref06_reader_see (rfl) (c_ref06_reader_see N bp0 (({ L := s39.2.2.2.1, At := s39.2.2.2.2.1, Open := s39.2.2.2.2.2.1, Bad := s39.2.2.2.2.2.2.1, Where := s39.2.2.2.2.2.2.2 } : pileupref06_reader)) as39_3 ns39_3 hbs39_3 hss39_3 (([43] : List UInt8)) hs41.pk2.pk1.pk2 _ hr75) ?_
    rintro _ F5 w77 _ hs78 le79 ⟨rfl, rfl⟩
    refine Vgs hb71 1 ?_
    refine Sp h76 (fun hb81 h82 => ?_) (fun hb81 h83 => ?_)
    ·refine Ss hb81 2 ?_
     refine Pg1 hb71 hb81 ?_
     refine Pk1 hb71 ?_
     obtain rfl := some_inj h82
     exact RWP.nil ⟨rfl, F5, hs78.pk2.pk1.pk2, le79, fI⟩
    ·refine Vgs hb81 1 ?_
     obtain ⟨r84, hr85, h86⟩ := bind_some h83
     refine RWP.callB (dst := (some 18)) (ty := 4) (g := (some (8, false))) (by kernel_rfl) (gd_y (d := 16) (by kernel_rfl) rfl hb81) (f0 := (.func 142)) (aos := #[(.tmp 17), (.const (.string ⟨([45] : List UInt8).toArray⟩))]) (ats := #[104, 9]) (fid := 142) (first := #[]) (cap := #[]) (args := [(pt bp0 0), (.string ⟨(([45] : List UInt8)).toArray⟩)]) rfl co_ref06_reader_see (rfl) (c_ref06_reader_see N bp0 (({ L := s39.2.2.2.1, At := s39.2.2.2.2.1, Open := s39.2.2.2.2.2.1, Bad := s39.2.2.2.2.2.2.1, Where := s39.2.2.2.2.2.2.2 } : pileupref06_reader)) as39_3 ns39_3 hbs39_3 (SlA.mono hss39_3 le79) (([45] : List UInt8)) hs78 _ hr85) ?_
     rintro _ F6 w87 _ hs88 le89 ⟨rfl, rfl⟩
     refine Pg0 hb71 hb81 ?_
     refine Pk1 hb71 ?_
     obtain rfl := some_inj h86
     exact RWP.nil ⟨rfl, F6, hs88.pk2.pk1.pk2, (le79.trans le89), fI⟩
   ·refine Ss hb71 3 ?_
    refine Su' 2 ?_
    refine Ss hb71 1 ?_
    refine Pk0 hb71 ?_
    obtain rfl := some_inj h73
    exact RWP.nil ⟨rfl, F2, hs41, (Mem.le.refl _), fI⟩
  ·rintro f w60 ⟨F4, hs61, le62, ⟨_, rfl⟩⟩
   refine thenQ_nrm ?_
   refine Cd h70 (fun hb91 h92 => ?_) (fun hb91 h93 => ?_)
   ·refine Sc ?_
    refine thenQ_nrm ?_
    refine Bk ?_
    refine Sq (Rg [0] ?_)
    refine Vs 1 ?_
    refine Nss ?_
    refine Sq (Rg [0, 1] ?_)
    refine Vs 1 ?_
    obtain ⟨r94, hr95, h96⟩ := bind_some h92
    refine CB co_ref06_reader_see (c_ref06_reader_see N bp0 (({ L := s39.2.2.2.1, At := s39.2.2.2.2.1, Open := s39.2.2.2.2.2.1, Bad := s39.2.2.2.2.2.2.1, Where := s39.2.2.2.2.2.2.2 } : pileupref06_reader)) as39_3 ns39_3 hbs39_3 (SlA.mono hss39_3 le62) (([43] : List UInt8)) hs61.pk2.pk1.pk2 _ hr95) ?_
    rintro _ F7 w97 _ hs98 le99 ⟨rfl, rfl⟩
    refine Nt ?_
    refine CWP.cut (fun f w => ∃ (F8 : Mem), HS wb Fb w F8 ((sb bp0 #[(.slice as39_3 s39.2.2.2.1.length ns39_3), (vi s39.2.2.2.2.1), (vi s39.2.2.2.2.2.1), (vi s39.2.2.2.2.2.2.1), (vi s39.2.2.2.2.2.2.2)] 108) :: (sb b31 #[(vi s39.1), (vi s39.2.1), (.slice as39_2 s39.2.2.1.length ns39_2)] 33) :: (sb b21 #[(vi 0), (vi 0), (.slice none ([] : List Expr).length 0)] 33) :: Lf) ∧ Mem.le F7 F8 ∧ FI f [] [(0, (pt bp0 0)), (2, (pt b21 0)), (3, (pt b31 0)), (4, (vi (bif r94 then 8 else 9)))]) ?_ ?_
    ·refine Cp r94 (fun hb109 => ?_) (fun hb109 => ?_)
     ·refine Rg [0] ?_
      refine Vs 1 ?_
      refine RWP.nil ?_
      exact .inl ⟨rfl, F7, hs98, (Mem.le.refl _), (fJ ⟨rfl, rfl, rfl, (congrArg (Value.int .i64) (bif_t hb109 (rfl))), trivial⟩)⟩
     ·refine Sc ?_
      exact .inl ⟨rfl, F7, hs98, (Mem.le.refl _), (fJ ⟨rfl, rfl, rfl, (congrArg (Value.int .i64) (bif_f hb109 (rfl))), trivial⟩)⟩
    ·rintro f w101 ⟨F8, hs102, le103, ⟨_, rfl⟩⟩
     refine thenQ_nrm ?_
     refine Sq (Rg [0, 1, 2, 3, 4, 5, 6, 7] ?_)
     refine Vs 3 ?_
     refine Ld hs102.at0 ?_
     refine Vs 3 ?_
     refine St0 #[(.slice as39_3 s39.2.2.2.1.length ns39_3), (vi (W64 (s39.2.2.2.2.1 + 1))), (vi s39.2.2.2.2.2.1), (vi s39.2.2.2.2.2.2.1), (vi s39.2.2.2.2.2.2.2)] hs102 (fun w110 hs111 => ?_)
     refine Nss (Rg [0, 1, 2, 3] ?_)
     refine Vs 1 ?_
     obtain ⟨r112, hr113, h114⟩ := bind_some h96
     refine CB co_ref06_reader_term (hsR234 bp0 (({ L := s39.2.2.2.1, At := (W64 (s39.2.2.2.2.1 + 1)), Open := s39.2.2.2.2.2.1, Bad := s39.2.2.2.2.2.2.1, Where := s39.2.2.2.2.2.2.2 } : pileupref06_reader)) as39_3 ns39_3 hbs39_3 (SlA.mono hss39_3 ((le62.trans le99).trans le103)) hs111 _ hr113) ?_
     rintro _ F9 w115 _ hs116 le117 ⟨ar112_0_0, nr112_0_0, ar112_1_2, nr112_1_2, rfl, rfl, hbr112_0_0, hsr112_0_0, hbr112_1_2, hsr112_1_2⟩
     refine Al' 33 #[(vi 0), (vi 0), (.slice none ([] : List Expr).length 0)] hs116 (fun b119 w120 hs121 => ?_)
     refine St0 (kExpr r112.2 ar112_1_2 nr112_1_2) hs121 (fun w122 hs123 => ?_)
     refine Nt ?_
     refine Rg [0, 1, 2, 3, 4] ?_
     refine Vs 1 ?_
     refine Ld hs123.at2 ?_
     refine Ld hs123.at0 ?_
     obtain ⟨r124, hr125, h126⟩ := bind_some h114
     refine Cl' co_ref06_pair hs123 (c_ref06_pair N w122 F9 hs123.pers ((bif r94 then 8 else 9)) (({ Op := s39.1, Value := s39.2.1, Kids := s39.2.2.1 } : Expr)) as39_2 ns39_2 hbs39_2 (SlA.mono hss39_2 (((le62.trans le99).trans le103).trans le117)) (r112.2) ar112_1_2 nr112_1_2 hbr112_1_2 hsr112_1_2 _ hr125) ?_
     rintro _ F10 w128 hs129 le130 ⟨ar124_0_2, nr124_0_2, rfl, hbr124_0_2, hsr124_0_2⟩
     refine St2 (kExpr r124 ar124_0_2 nr124_0_2) hs129 (fun w132 hs133 => ?_)
     refine RWP.nil ?_
     refine blockQ_nrm ?_
     have hn134 := iter_next h126 hnx59
     exact ⟨m56, Nat.lt_succ_self _, (r124.Op, r124.Value, r124.Kids, r112.1.L, r112.1.At, r112.1.Open, r112.1.Bad, r112.1.Where), F10, ar124_0_2, nr124_0_2, ar112_0_0, nr112_0_0, hn134, hs133.dr0.pk2.pk1.pk2, (((((le42.trans le62).trans le99).trans le103).trans le117).trans le130), fI, hbr124_0_2, hsr124_0_2, hbr112_0_0, (SlA.mono hsr112_0_0 le130)⟩
   ·refine Ex ?_
    refine thenQ_ex ?_
    refine thenQ_ex ?_
    refine blockQ_hit rfl ?_
    have ho135 := iter_done h93 hnx59
    exact .inl ⟨rfl, (s39.1, s39.2.1, s39.2.2.1, s39.2.2.2.1, s39.2.2.2.2.1, s39.2.2.2.2.2.1, s39.2.2.2.2.2.2.1, s39.2.2.2.2.2.2.2), F4, as39_2, ns39_2, as39_3, ns39_3, ho135, hs61, (le42.trans le62), fI, hbs39_2, (SlA.mono hss39_2 le62), hbs39_3, (SlA.mono hss39_3 le62)⟩
 ·rintro f w48 ⟨s47, F3, as47_2, ns47_2, as47_3, ns47_3, rfl, hs49, le50, ⟨_, rfl⟩, hbs47_2, hss47_2, hbs47_3, hss47_3⟩
  have h136 := k_done h38
  refine thenQ_nrm ?_
  refine Sq (Rg [0, 1] ?_)
  refine Ld hs49.at0 ?_
  refine St2 #[(vi s47.1), (vi s47.2.1), (.slice as47_2 s47.2.2.1.length ns47_2)] hs49 (fun w137 hs138 => ?_)
  refine Nt ?_
  refine Rt ?_
  obtain rfl := some_inj h136
  exact ⟨rfl, (.agg #[(vi s47.1), (vi s47.2.1), (.slice as47_2 s47.2.2.1.length ns47_2)]), res_of (l := [.cell 2 33]) (by kernel_rfl) (vs := [(.agg #[(vi s47.1), (vi s47.2.1), (.slice as47_2 s47.2.2.1.length ns47_2)])]) ⟨b21, 0, rfl, run_loadVar' (t := 33) (g := true) (s := 3) (by kernel_rfl) hs138.at2 rfl (by decide), trivial⟩, F3, _, _, rfl, hs138.dr0.dr1, (le29.trans le50), ⟨as47_3, ns47_3, as47_2, ns47_2, rfl, rfl, hbs47_3, hss47_3, hbs47_2, hss47_2⟩⟩
end Go.Proofs.YtaihlcdkcampbaaGreatDoor
namespace Go.Proofs.YtaihlcdkcampbaaGreatDoor
open Go.Proofs
def ref06_reader_term_L0 (N : Nat) (sR240 : pileupref06_reader → Option (pileupref06_reader × Expr)) (x0 : pileupref06_reader) (r24 : (pileupref06_reader × Expr)) : (Int × Int × List Expr × List pileupref06_token × Int × Int × Int × Int) → Option (Flow (pileupref06_reader × Expr) (Int × Int × List Expr × List pileupref06_token × Int × Int × Int × Int)) := fun s39 =>
 ((bif (s39.2.2.2.2.2.2.1 == 0) then ((ref06_reader_see N ({ L := s39.2.2.2.1, At := s39.2.2.2.2.1, Open := s39.2.2.2.2.2.1, Bad := s39.2.2.2.2.2.2.1, Where := s39.2.2.2.2.2.2.2 } : pileupref06_reader) ([42] : List UInt8)).bind fun r74 => some r74) else some false).bind fun j63 => (bif j63 then ((sR240 ({ L := s39.2.2.2.1, At := (W64 (s39.2.2.2.2.1 + 1)), Open := s39.2.2.2.2.2.1, Bad := s39.2.2.2.2.2.2.1, Where := s39.2.2.2.2.2.2.2 } : pileupref06_reader)).bind fun r86 => ((ref06_pair N 10 ({ Op := s39.1, Value := s39.2.1, Kids := s39.2.2.1 } : Expr) r86.2).bind fun r98 => some (.next (r98.Op, r98.Value, r98.Kids, r86.1.L, r86.1.At, r86.1.Open, r86.1.Bad, r86.1.Where)))) else some (.done (s39.1, s39.2.1, s39.2.2.1, s39.2.2.2.1, s39.2.2.2.2.1, s39.2.2.2.2.2.1, s39.2.2.2.2.2.2.1, s39.2.2.2.2.2.2.2))))
def ref06_reader_term_S (N : Nat) (sR240 : pileupref06_reader → Option (pileupref06_reader × Expr)) (x0 : pileupref06_reader) : Option (pileupref06_reader × Expr) :=
 ((sR240 x0).bind fun r24 => ((iter (ref06_reader_term_L0 N sR240 x0 r24) N (r24.2.Op, r24.2.Value, r24.2.Kids, r24.1.L, r24.1.At, r24.1.Open, r24.1.Bad, r24.1.Where)).bind fun o => o.k (fun r => some r) (fun s47 => some (({ L := s47.2.2.2.1, At := s47.2.2.2.2.1, Open := s47.2.2.2.2.2.1, Bad := s47.2.2.2.2.2.2.1, Where := s47.2.2.2.2.2.2.2 } : pileupref06_reader), ({ Op := s47.1, Value := s47.2.1, Kids := s47.2.2.1 } : Expr)))))
theorem cS_ref06_reader_term (N : Nat) (sR240 : pileupref06_reader → Option (pileupref06_reader × Expr)) (hsR240 : Self240 sR240) {wb w0 : World} {Fb F0 : Mem} {Lf : Own} (bp0 : Nat) (x0 : pileupref06_reader) (a0_0 : Option Addr) (n0_0 : Nat) (hb0_0 : LC x0.L.length n0_0) (hs0_0 : SlA tpileupref06_token F0 a0_0 x0.L) (hs0 : HS wb Fb w0 F0 ((sb bp0 (kpileupref06_reader x0 a0_0 n0_0) 108) :: Lf)) (r : (pileupref06_reader × Expr)) (h : ref06_reader_term_S N sR240 x0 = some r) :
  Calls Tryz.prog 234 ([(pt bp0 0)] : List Value).toArray w0 (BRet wb Fb F0 fun F' v L' => ∃ (aq0_0 : Option Addr) (nq0_0 : Nat) (aq1_2 : Option Addr) (nq1_2 : Nat), v = (.agg (kExpr r.2 aq1_2 nq1_2)) ∧ L' = (sb bp0 (kpileupref06_reader r.1 aq0_0 nq0_0) 108) :: Lf ∧ LC r.1.L.length nq0_0 ∧ SlA tpileupref06_token F' aq0_0 r.1.L ∧ LC r.2.Kids.length nq1_2 ∧ SlA tExpr F' aq1_2 r.2.Kids) := by
 refine Go 29 Tryz.func234 ?_
 refine Sq (Rg [0] ?_)
 refine Al' 33 #[(vi 0), (vi 0), (.slice none ([] : List Expr).length 0)] hs0 (fun b21 w22 hs23 => ?_)
 refine Nss (Rg [0, 1, 2, 3] ?_)
 refine Vs 1 ?_
 obtain ⟨r24, hr25, h26⟩ := bind_some h
 refine CB co_ref06_reader_item (hsR240 bp0 (x0) a0_0 n0_0 hb0_0 hs0_0 hs23.pk1 _ hr25) ?_
 rintro _ F1 w27 _ hs28 le29 ⟨ar24_0_0, nr24_0_0, ar24_1_2, nr24_1_2, rfl, rfl, hbr24_0_0, hsr24_0_0, hbr24_1_2, hsr24_1_2⟩
 refine Al' 33 #[(vi 0), (vi 0), (.slice none ([] : List Expr).length 0)] hs28 (fun b31 w32 hs33 => ?_)
 refine St0 (kExpr r24.2 ar24_1_2 nr24_1_2) hs33 (fun w34 hs35 => ?_)
 refine Nss ?_
 obtain ⟨o36, ho37, h38⟩ := bind_some h26
 refine CWP.cut (fun f w => ∃ (s47 : (Int × Int × List Expr × List pileupref06_token × Int × Int × Int × Int)) (F3 : Mem) (as47_2 : Option Addr) (ns47_2 : Nat) (as47_3 : Option Addr) (ns47_3 : Nat), o36 = .done s47 ∧ HS wb Fb w F3 ((sb b31 #[(vi s47.1), (vi s47.2.1), (.slice as47_2 s47.2.2.1.length ns47_2)] 33) :: (sb bp0 #[(.slice as47_3 s47.2.2.2.1.length ns47_3), (vi s47.2.2.2.2.1), (vi s47.2.2.2.2.2.1), (vi s47.2.2.2.2.2.2.1), (vi s47.2.2.2.2.2.2.2)] 108) :: (sb b21 #[(vi 0), (vi 0), (.slice none ([] : List Expr).length 0)] 33) :: Lf) ∧ Mem.le F1 F3 ∧ FI f [] [(2, (pt b21 0)), (3, (pt b31 0))] ∧ LC s47.2.2.1.length ns47_2 ∧ SlA tExpr F3 as47_2 s47.2.2.1 ∧ LC s47.2.2.2.1.length ns47_3 ∧ SlA tpileupref06_token F3 as47_3 s47.2.2.2.1) ?_ ?_
 ·refine Bk ?_
  refine CWP.loop (by kernel_rfl) (fun m f w => ∃ (s39 : (Int × Int × List Expr × List pileupref06_token × Int × Int × Int × Int)) (F2 : Mem) (as39_2 : Option Addr) (ns39_2 : Nat) (as39_3 : Option Addr) (ns39_3 : Nat), iter (ref06_reader_term_L0 N sR240 x0 r24) m s39 = some o36 ∧ HS wb Fb w F2 ((sb b31 #[(vi s39.1), (vi s39.2.1), (.slice as39_2 s39.2.2.1.length ns39_2)] 33) :: (sb bp0 #[(.slice as39_3 s39.2.2.2.1.length ns39_3), (vi s39.2.2.2.2.1), (vi s39.2.2.2.2.2.1), (vi s39.2.2.2.2.2.2.1), (vi s39.2.2.2.2.2.2.2)] 108) :: (sb b21 #[(vi 0), (vi 0), (.slice none ([] : List Expr).length 0)] 33) :: Lf) ∧ Mem.le F1 F2 ∧ FI f [] [(0, (pt bp0 0)), (2, (pt b21 0)), (3, (pt b31 0))] ∧ LC s39.2.2.1.length ns39_2 ∧ SlA tExpr F2 as39_2 s39.2.2.1 ∧ LC s39.2.2.2.1.length ns39_3 ∧ SlA tpileupref06_token F2 as39_3 s39.2.2.2.1) N ⟨(r24.2.Op, r24.2.Value, r24.2.Kids, r24.1.L, r24.1.At, r24.1.Open, r24.1.Bad, r24.1.Where), F1, ar24_1_2, nr24_1_2, ar24_0_0, nr24_0_0, ho37, hs35, (Mem.le.refl _), fI, hbr24_1_2, hsr24_1_2, hbr24_0_0, hsr24_0_0⟩ ?_
  rintro m54 f w40 ⟨s39, F2, as39_2, ns39_2, as39_3, ns39_3, hit55, hs41, le42, ⟨_, rfl⟩, hbs39_2, hss39_2, hbs39_3, hss39_3⟩
  obtain ⟨m56, fl57, rfl, hb58, hnx59⟩ := iter_step hit55
  refine Sq ?_
  refine Sq (Rg [0, 1, 2, 3, 4, 5, 6, 7, 8] ?_)
  obtain ⟨j63, hj69, h70⟩ := bind_some hb58
  refine RWP.cut (fun f w => ∃ (F4 : Mem), HS wb Fb w F4 ((sb b31 #[(vi s39.1), (vi s39.2.1), (.slice as39_2 s39.2.2.1.length ns39_2)] 33) :: (sb bp0 #[(.slice as39_3 s39.2.2.2.1.length ns39_3), (vi s39.2.2.2.2.1), (vi s39.2.2.2.2.2.1), (vi s39.2.2.2.2.2.2.1), (vi s39.2.2.2.2.2.2.2)] 108) :: (sb b21 #[(vi 0), (vi 0), (.slice none ([] : List Expr).length 0)] 33) :: Lf) ∧ Mem.le F2 F4 ∧ FI f [] [(0, (pt bp0 0)), (2, (pt b21 0)), (3, (pt b31 0)), (15, (.bool j63))]) ?_ ?_
  ·refine Vs 3 ?_
   refine Ld hs41.at1 ?_
   refine Vs 2 ?_
   refine Sp hj69 (fun hb71 h72 => ?_) (fun hb71 h73 => ?_)
   ·refine Vgs hb71 1 ?_
    obtain ⟨r74, hr75, h76⟩ := bind_some h72
    refine RWP.callB (dst := (some 14)) (ty := 4) (g := (some (5, true))) (by kernel_rfl) (gd_y (d := 12) (by kernel_rfl) rfl hb71) (f0 := (.func 142)) (aos := #[(.tmp 13), (.const (.string ⟨([42] : List UInt8).toArray⟩))]) (ats := #[104, 9]) (fid := 142) (first := #[]) (cap := #[]) (args := [(pt bp0 0), (.string ⟨(([42] : List UInt8)).toArray⟩)]) rfl co_ref06_reader_see (rfl) (c_ref06_reader_see N bp0 (({ L := s39.2.2.2.1, At := s39.2.2.2.2.1, Open := s39.2.2.2.2.2.1, Bad := s39.2.2.2.2.2.2.1, Where := s39.2.2.2.2.2.2.2 } : pileupref06_reader)) as39_3 ns39_3 hbs39_3 hss39_3 (([42] : List UInt8)) hs41.pk2.pk1.pk2 _ hr75) ?_
    rintro _ F5 w77 _ hs78 le79 ⟨rfl, rfl⟩
    refine Pk1 hb71 ?_
    obtain rfl := some_inj h76
    exact RWP.nil ⟨rfl, F5, hs78.pk2.pk1.pk2, le79, fI⟩
   ·refine Ss hb71 2 ?_
    refine Pk0 hb71 ?_
    obtain rfl := some_inj h73
    exact RWP.nil ⟨rfl, F2, hs41, (Mem.le.refl _), fI⟩
  ·rintro f w60 ⟨F4, hs61, le62, ⟨_, rfl⟩⟩
   refine thenQ_nrm ?_
   refine Cd h70 (fun hb81 h82 => ?_) (fun hb81 h83 => ?_)
   ·refine Sc ?_
    refine thenQ_nrm ?_
    refine Bk ?_
    refine Sq (Rg [0, 1, 2, 3, 4, 5, 6, 7] ?_)
    refine Vs 3 ?_
    refine Ld hs61.at1 ?_
    refine Vs 3 ?_
    refine St1 #[(.slice as39_3 s39.2.2.2.1.length ns39_3), (vi (W64 (s39.2.2.2.2.1 + 1))), (vi s39.2.2.2.2.2.1), (vi s39.2.2.2.2.2.2.1), (vi s39.2.2.2.2.2.2.2)] hs61 (fun w84 hs85 => ?_)
    refine Nss (Rg [0, 1, 2, 3] ?_)
    refine Vs 1 ?_
    obtain ⟨r86, hr87, h88⟩ := bind_some h82
    refine CB co_ref06_reader_item (hsR240 bp0 (({ L := s39.2.2.2.1, At := (W64 (s39.2.2.2.2.1 + 1)), Open := s39.2.2.2.2.2.1, Bad := s39.2.2.2.2.2.2.1, Where := s39.2.2.2.2.2.2.2 } : pileupref06_reader)) as39_3 ns39_3 hbs39_3 (SlA.mono hss39_3 le62) hs85.pk2.pk1.pk2 _ hr87) ?_
    rintro _ F6 w89 _ hs90 le91 ⟨ar86_0_0, nr86_0_0, ar86_1_2, nr86_1_2, rfl, rfl, hbr86_0_0, hsr86_0_0, hbr86_1_2, hsr86_1_2⟩
    refine Al' 33 #[(vi 0), (vi 0), (.slice none ([] : List Expr).length 0)] hs90 (fun b93 w94 hs95 => ?_)
    refine St0 (kExpr r86.2 ar86_1_2 nr86_1_2) hs95 (fun w96 hs97 => ?_)
    refine Nt ?_
    refine Rg [0, 1, 2, 3] ?_
    refine Ld hs97.at2 ?_
    refine Ld hs97.at0 ?_
    obtain ⟨r98, hr99, h100⟩ := bind_some h88
    refine Cl' co_ref06_pair hs97 (c_ref06_pair N w96 F6 hs97.pers (10) (({ Op := s39.1, Value := s39.2.1, Kids := s39.2.2.1 } : Expr)) as39_2 ns39_2 hbs39_2 (SlA.mono hss39_2 (le62.trans le91)) (r86.2) ar86_1_2 nr86_1_2 hbr86_1_2 hsr86_1_2 _ hr99) ?_
    rintro _ F7 w102 hs103 le104 ⟨ar98_0_2, nr98_0_2, rfl, hbr98_0_2, hsr98_0_2⟩
    refine St2 (kExpr r98 ar98_0_2 nr98_0_2) hs103 (fun w106 hs107 => ?_)
    refine RWP.nil ?_
    refine blockQ_nrm ?_
    have hn108 := iter_next h100 hnx59
    exact ⟨m56, Nat.lt_succ_self _, (r98.Op, r98.Value, r98.Kids, r86.1.L, r86.1.At, r86.1.Open, r86.1.Bad, r86.1.Where), F7, ar98_0_2, nr98_0_2, ar86_0_0, nr86_0_0, hn108, hs107.dr0.pk2.pk1.pk2, (((le42.trans le62).trans le91).trans le104), fI, hbr98_0_2, hsr98_0_2, hbr86_0_0, (SlA.mono hsr86_0_0 le104)⟩
   ·refine Ex ?_
    refine thenQ_ex ?_
    refine thenQ_ex ?_
    refine blockQ_hit rfl ?_
    have ho109 := iter_done h83 hnx59
    exact .inl ⟨rfl, (s39.1, s39.2.1, s39.2.2.1, s39.2.2.2.1, s39.2.2.2.2.1, s39.2.2.2.2.2.1, s39.2.2.2.2.2.2.1, s39.2.2.2.2.2.2.2), F4, as39_2, ns39_2, as39_3, ns39_3, ho109, hs61, (le42.trans le62), fI, hbs39_2, (SlA.mono hss39_2 le62), hbs39_3, (SlA.mono hss39_3 le62)⟩
 ·rintro f w48 ⟨s47, F3, as47_2, ns47_2, as47_3, ns47_3, rfl, hs49, le50, ⟨_, rfl⟩, hbs47_2, hss47_2, hbs47_3, hss47_3⟩
  have h110 := k_done h38
  refine thenQ_nrm ?_
  refine Sq (Rg [0, 1] ?_)
  refine Ld hs49.at0 ?_
  refine St2 #[(vi s47.1), (vi s47.2.1), (.slice as47_2 s47.2.2.1.length ns47_2)] hs49 (fun w111 hs112 => ?_)
  refine Nt ?_
  refine Rt ?_
  obtain rfl := some_inj h110
  exact ⟨rfl, (.agg #[(vi s47.1), (vi s47.2.1), (.slice as47_2 s47.2.2.1.length ns47_2)]), res_of (l := [.cell 2 33]) (by kernel_rfl) (vs := [(.agg #[(vi s47.1), (vi s47.2.1), (.slice as47_2 s47.2.2.1.length ns47_2)])]) ⟨b21, 0, rfl, run_loadVar' (t := 33) (g := true) (s := 3) (by kernel_rfl) hs112.at2 rfl (by decide), trivial⟩, F3, _, _, rfl, hs112.dr0.dr1, (le29.trans le50), ⟨as47_3, ns47_3, as47_2, ns47_2, rfl, rfl, hbs47_3, hss47_3, hbs47_2, hss47_2⟩⟩
end Go.Proofs.YtaihlcdkcampbaaGreatDoor
namespace Go.Proofs.YtaihlcdkcampbaaGreatDoor
open Go.Proofs
def ref06_reader_wrong (N : Nat) (x0 : pileupref06_reader) (x1 : Int) (x2 : Int) : Option pileupref06_reader :=
 ((bif (x0.Bad == 0) then some (x1, x2) else some (x0.Bad, x0.Where)).bind fun j24 => some ({ L := x0.L, At := x0.At, Open := x0.Open, Bad := j24.1, Where := j24.2 } : pileupref06_reader))
theorem co_ref06_reader_wrong : CallOk Tryz.prog 90 := fun _ _ => by kernel_rfl
theorem c_ref06_reader_wrong (N : Nat) {wb w0 : World} {Fb F0 : Mem} {Lf : Own} (bp0 : Nat) (x0 : pileupref06_reader) (a0_0 : Option Addr) (n0_0 : Nat) (hb0_0 : LC x0.L.length n0_0) (hs0_0 : SlA tpileupref06_token F0 a0_0 x0.L) (x1 : Int) (x2 : Int) (hs0 : HS wb Fb w0 F0 ((sb bp0 (kpileupref06_reader x0 a0_0 n0_0) 108) :: Lf)) (r : pileupref06_reader) (h : ref06_reader_wrong N x0 x1 x2 = some r) :
  Calls Tryz.prog 90 ([(pt bp0 0), (vi x1), (vi x2)] : List Value).toArray w0 (BRet wb Fb F0 fun F' v L' => ∃ (aq0_0 : Option Addr) (nq0_0 : Nat), v = (.tuple #[]) ∧ L' = (sb bp0 (kpileupref06_reader r aq0_0 nq0_0) 108) :: Lf ∧ LC r.L.length nq0_0 ∧ SlA tpileupref06_token F' aq0_0 r.L) := by
 refine Go 19 Tryz.func90 ?_
 refine Sq (Rg [0, 1, 2, 3, 4] ?_)
 refine Vs 3 ?_
 refine Ld hs0.at0 ?_
 refine Vs 1 ?_
 refine Nt ?_
 obtain ⟨j24, hj26, h27⟩ := bind_some h
 refine CWP.cut (fun f w => ∃ (F1 : Mem), HS wb Fb w F1 ((sb bp0 #[(.slice a0_0 x0.L.length n0_0), (vi x0.At), (vi x0.Open), (vi j24.1), (vi j24.2)] 108) :: Lf) ∧ Mem.le F0 F1 ∧ FI f [] []) ?_ ?_
 ·refine Cd hj26 (fun hb28 h29 => ?_) (fun hb28 h30 => ?_)
  ·refine Sq (Rg [0, 1, 2, 3, 4] ?_)
   refine Vs 4 ?_
   refine St0 #[(.slice a0_0 x0.L.length n0_0), (vi x0.At), (vi x0.Open), (vi x1), (vi x0.Where)] hs0 (fun w31 hs32 => ?_)
   refine Nt ?_
   refine Rg [0, 1, 2, 3, 4] ?_
   refine Vs 4 ?_
   refine St0 #[(.slice a0_0 x0.L.length n0_0), (vi x0.At), (vi x0.Open), (vi x1), (vi x2)] hs32 (fun w33 hs34 => ?_)
   refine RWP.nil ?_
   obtain rfl := some_inj h29
   exact .inl ⟨rfl, F0, hs34, (Mem.le.refl _), fI⟩
  ·refine Sc ?_
   obtain rfl := some_inj h30
   exact .inl ⟨rfl, F0, hs0, (Mem.le.refl _), fI⟩
 ·rintro f w21 ⟨F1, hs22, le23, ⟨_, rfl⟩⟩
  obtain rfl := some_inj h27
  exact ReB [] hs22 le23 ⟨a0_0, n0_0, rfl, rfl, hb0_0, (SlA.mono hs0_0 le23)⟩
end Go.Proofs.YtaihlcdkcampbaaGreatDoor
namespace Go.Proofs.YtaihlcdkcampbaaGreatDoor
open Go.Proofs
def ref06_reader_take (N : Nat) (x0 : pileupref06_reader) (x1 : (List UInt8)) : Option pileupref06_reader :=
 (bif (x0.Bad != 0) then some x0 else ((ref06_reader_see N x0 x1).bind fun r24 => (bif (!r24) then (((idx x0.L x0.At).bind fun x43 => ((ref06_reader_wrong N x0 60 x43.At).bind fun r57 => some (r57.L, r57.At, r57.Open, r57.Bad, r57.Where))).bind fun j39 => some ({ L := j39.1, At := j39.2.1, Open := j39.2.2.1, Bad := j39.2.2.2.1, Where := j39.2.2.2.2 } : pileupref06_reader)) else some ({ L := x0.L, At := (W64 (x0.At + 1)), Open := x0.Open, Bad := x0.Bad, Where := x0.Where } : pileupref06_reader))))
theorem co_ref06_reader_take : CallOk Tryz.prog 143 := fun _ _ => by kernel_rfl
theorem c_ref06_reader_take (N : Nat) {wb w0 : World} {Fb F0 : Mem} {Lf : Own} (bp0 : Nat) (x0 : pileupref06_reader) (a0_0 : Option Addr) (n0_0 : Nat) (hb0_0 : LC x0.L.length n0_0) (hs0_0 : SlA tpileupref06_token F0 a0_0 x0.L) (x1 : (List UInt8)) (hs0 : HS wb Fb w0 F0 ((sb bp0 (kpileupref06_reader x0 a0_0 n0_0) 108) :: Lf)) (r : pileupref06_reader) (h : ref06_reader_take N x0 x1 = some r) :
  Calls Tryz.prog 143 ([(pt bp0 0), (.string ⟨(x1).toArray⟩)] : List Value).toArray w0 (BRet wb Fb F0 fun F' v L' => ∃ (aq0_0 : Option Addr) (nq0_0 : Nat), v = (.tuple #[]) ∧ L' = (sb bp0 (kpileupref06_reader r aq0_0 nq0_0) 108) :: Lf ∧ LC r.L.length nq0_0 ∧ SlA tpileupref06_token F' aq0_0 r.L) := by
 refine Go 33 Tryz.func143 ?_
 refine Sq ?_
 refine Sq (Rg [0, 1, 2, 3, 4] ?_)
 refine Vs 3 ?_
 refine Ld hs0.at0 ?_
 refine Vs 1 ?_
 refine Nt ?_
 refine Cd h (fun hb21 h22 => ?_) (fun hb21 h23 => ?_)
 ·refine Rt ?_
  refine thenQ_ret ?_
  obtain rfl := some_inj h22
  exact ReB [] hs0 (Mem.le.refl _) ⟨a0_0, n0_0, rfl, rfl, hb0_0, hs0_0⟩
 ·refine Sc ?_
  refine thenQ_nrm ?_
  refine Sq ?_
  refine Sq (Rg [0, 1, 2, 3] ?_)
  refine Vs 2 ?_
  obtain ⟨r24, hr25, h26⟩ := bind_some h23
  refine CB co_ref06_reader_see (c_ref06_reader_see N bp0 (x0) a0_0 n0_0 hb0_0 hs0_0 (x1) hs0 _ hr25) ?_
  rintro _ F1 w27 _ hs28 le29 ⟨rfl, rfl⟩
  refine Vs 1 ?_
  refine Nt ?_
  refine Cd h26 (fun hb31 h32 => ?_) (fun hb31 h33 => ?_)
  ·refine Sq ?_
   obtain ⟨j39, hj41, h42⟩ := bind_some h32
   refine RD 13 13 [] [] hs28 (fun f w => ∃ (F2 : Mem) (aj39_0 : Option Addr) (nj39_0 : Nat), HS wb Fb w F2 ((sb bp0 #[(.slice aj39_0 j39.1.length nj39_0), (vi j39.2.1), (vi j39.2.2.1), (vi j39.2.2.2.1), (vi j39.2.2.2.2)] 108) :: Lf) ∧ Mem.le F1 F2 ∧ FI f [] [] ∧ LC j39.1.length nj39_0 ∧ SlA tpileupref06_token F2 aj39_0 j39.1) (fun wd34 hw35 => ?_) ?_
   ·refine Dv [0, 1, 2, 3, 5, 6, 7] ?_
    refine DWP.two (i := 4) (j := 8) (by kernel_rfl) ?_ ?_
    ·refine DStep.val (l' := [true, true, true, true, true, true, true, true, false, false, false, false, false]) (zd := true) (by kernel_rfl) (by kernel_rfl) (dst := (some 17)) (ty := 105) (g := none) (by kernel_rfl) rfl (run_load' (t := 105) (x := (.tmp 16)) (b := bp0) (o := 0) (g := false) (s := 1) (C := (kpileupref06_reader x0 a0_0 n0_0)) (v := (.slice a0_0 x0.L.length n0_0)) rfl (by kernel_rfl) hw35.at0 rfl rfl rfl) (dz_of hw35 (Mem.le.refl _) (by simp) (fun e => by cases e)) ?_
     refine D1 8 ?_
     refine DStep.val (l' := [true, true, true, true, true, true, true, true, true, false, false, false, false]) (zd := true) (by kernel_rfl) (by kernel_rfl) (dst := (some 21)) (ty := 3) (g := none) (by kernel_rfl) rfl (run_load' (t := 3) (x := (.tmp 20)) (b := bp0) (o := 1) (g := false) (s := 1) (C := (kpileupref06_reader x0 a0_0 n0_0)) (v := (vi x0.At)) rfl (by kernel_rfl) hw35.at0 rfl rfl rfl) (dz_of hw35 (Mem.le.refl _) (by simp) (fun e => by cases e)) ?_
     obtain ⟨x43, hx44, h46⟩ := bind_some hj41
     obtain ⟨hi45, hx44'⟩ := idx_spec hx44
     obtain ⟨b47, o48, C49, E50, fz51, rfl, hF53, hE54⟩ := SlA.open (SlA.mono hs0_0 le29) hx44'
     have hc56 := hE54 _ _ hx44'
     refine Di 9 hi45 ?_
     refine Dv [10] ?_
     refine Dx 11 1 (fun _ hq => hq.1.1 _ _ hF53) hc56 ?_
     refine D1 12 ?_
     obtain ⟨r57, hr58, h59⟩ := bind_some h46
     refine DCB co_ref06_reader_wrong (c_ref06_reader_wrong N bp0 (x0) (some ⟨b47, o48, none⟩) n0_0 hb0_0 (SlA.mono hs0_0 le29) (60) (x43.At) hw35 _ hr58) ?_
     rintro _ F3 w60 _ hs61 le62 ⟨ar57_0_0, nr57_0_0, rfl, rfl, hbr57_0_0, hsr57_0_0⟩
     refine ⟨dz_of hs61 le62 (by simp) (zdT (by kernel_rfl)), ?_⟩
     obtain rfl := some_inj h59
     exact DWP.done (by kernel_rfl) ⟨F3, ar57_0_0, nr57_0_0, hs61, le62, fI, hbr57_0_0, hsr57_0_0⟩
    ·refine DStep.val (l' := [true, true, true, true, false, true, true, true, true, false, false, false, false]) (zd := true) (by kernel_rfl) (by kernel_rfl) (dst := (some 21)) (ty := 3) (g := none) (by kernel_rfl) rfl (run_load' (t := 3) (x := (.tmp 20)) (b := bp0) (o := 1) (g := false) (s := 1) (C := (kpileupref06_reader x0 a0_0 n0_0)) (v := (vi x0.At)) rfl (by kernel_rfl) hw35.at0 rfl rfl rfl) (dz_of hw35 (Mem.le.refl _) (by simp) (fun e => by cases e)) ?_
     refine D1 4 ?_
     refine DStep.val (l' := [true, true, true, true, true, true, true, true, true, false, false, false, false]) (zd := true) (by kernel_rfl) (by kernel_rfl) (dst := (some 17)) (ty := 105) (g := none) (by kernel_rfl) rfl (run_load' (t := 105) (x := (.tmp 16)) (b := bp0) (o := 0) (g := false) (s := 1) (C := (kpileupref06_reader x0 a0_0 n0_0)) (v := (.slice a0_0 x0.L.length n0_0)) rfl (by kernel_rfl) hw35.at0 rfl rfl rfl) (dz_of hw35 (Mem.le.refl _) (by simp) (fun e => by cases e)) ?_
     obtain ⟨x64, hx65, h67⟩ := bind_some hj41
     obtain ⟨hi66, hx65'⟩ := idx_spec hx65
     obtain ⟨b68, o69, C70, E71, fz72, rfl, hF74, hE75⟩ := SlA.open (SlA.mono hs0_0 le29) hx65'
     have hc77 := hE75 _ _ hx65'
     refine Di 9 hi66 ?_
     refine Dv [10] ?_
     refine Dx 11 1 (fun _ hq => hq.1.1 _ _ hF74) hc77 ?_
     refine D1 12 ?_
     obtain ⟨r78, hr79, h80⟩ := bind_some h67
     refine DCB co_ref06_reader_wrong (c_ref06_reader_wrong N bp0 (x0) (some ⟨b68, o69, none⟩) n0_0 hb0_0 (SlA.mono hs0_0 le29) (60) (x64.At) hw35 _ hr79) ?_
     rintro _ F4 w81 _ hs82 le83 ⟨ar78_0_0, nr78_0_0, rfl, rfl, hbr78_0_0, hsr78_0_0⟩
     refine ⟨dz_of hs82 le83 (by simp) (zdT (by kernel_rfl)), ?_⟩
     obtain rfl := some_inj h80
     exact DWP.done (by kernel_rfl) ⟨F4, ar78_0_0, nr78_0_0, hs82, le83, fI, hbr78_0_0, hsr78_0_0⟩
   ·rintro f w36 ⟨F2, aj39_0, nj39_0, hs37, le38, ⟨_, rfl⟩, hbj39_0, hsj39_0⟩
    refine thenQ_nrm ?_
    refine Rt ?_
    refine thenQ_ret ?_
    obtain rfl := some_inj h42
    exact ReB [] hs37 (le29.trans le38) ⟨aj39_0, nj39_0, rfl, rfl, hbj39_0, hsj39_0⟩
  ·refine Sc ?_
   refine thenQ_nrm ?_
   refine Rg [0, 1, 2, 3, 4, 5, 6, 7] ?_
   refine Vs 3 ?_
   refine Ld hs28.at0 ?_
   refine Vs 3 ?_
   refine St0 #[(.slice a0_0 x0.L.length n0_0), (vi (W64 (x0.At + 1))), (vi x0.Open), (vi x0.Bad), (vi x0.Where)] hs28 (fun w85 hs86 => ?_)
   refine RWP.nil ?_
   obtain rfl := some_inj h33
   exact ReB [] hs86 le29 ⟨a0_0, n0_0, rfl, rfl, hb0_0, (SlA.mono hs0_0 le29)⟩
end Go.Proofs.YtaihlcdkcampbaaGreatDoor
namespace Go.Proofs.YtaihlcdkcampbaaGreatDoor
open Go.Proofs
def ref06_fields (N : Nat)  : Option (List (List UInt8)) :=
 some [([98, 97, 110, 100] : List UInt8), ([109, 111, 100, 101] : List UInt8), ([104, 111, 117, 114] : List UInt8), ([109, 121, 99, 111, 117, 110, 116, 114, 121] : List UInt8), ([109, 121, 122, 111, 110, 101] : List UInt8), ([109, 121, 99, 111, 110, 116, 105, 110, 101, 110, 116] : List UInt8), ([99, 111, 117, 110, 116, 114, 121] : List UInt8), ([122, 111, 110, 101] : List UInt8), ([99, 111, 110, 116, 105, 110, 101, 110, 116] : List UInt8), ([99, 97, 108, 108] : List UInt8), ([103, 111, 116, 122, 111, 110, 101] : List UInt8), ([99, 97, 116, 101, 103, 111, 114, 121] : List UInt8), ([112, 111, 119, 101, 114] : List UInt8), ([115, 116, 97, 116, 117, 115] : List UInt8)]
theorem co_ref06_fields : CallOk Tryz.prog 165 := fun _ _ => by kernel_rfl
theorem c_ref06_fields (N : Nat) (w0 : World) (F0 : Mem) (hF : ∀ b o, F0 b = some o → w0.heap[b]? = some o)  (r : (List (List UInt8))) (h : ref06_fields N  = some r) :
  Calls Tryz.prog 165 ([] : List Value).toArray w0 (FRet w0 F0 fun F' v => ∃ (aq0_0 : Option Addr) (nq0_0 : Nat), v = (.slice aq0_0 r.length nq0_0) ∧ LC r.length nq0_0 ∧ SlA tStr F' aq0_0 r) := by
 have hs0 := HS.start hF
 refine Go 2 Tryz.func165 ?_
 refine Sq (Rg [0] ?_)
 refine Vs 1 ?_
 refine Nss (Rg [0, 1] ?_)
 refine Bs 9 [(.string ⟨(([98, 97, 110, 100] : List UInt8)).toArray⟩), (.string ⟨(([109, 111, 100, 101] : List UInt8)).toArray⟩), (.string ⟨(([104, 111, 117, 114] : List UInt8)).toArray⟩), (.string ⟨(([109, 121, 99, 111, 117, 110, 116, 114, 121] : List UInt8)).toArray⟩), (.string ⟨(([109, 121, 122, 111, 110, 101] : List UInt8)).toArray⟩), (.string ⟨(([109, 121, 99, 111, 110, 116, 105, 110, 101, 110, 116] : List UInt8)).toArray⟩), (.string ⟨(([99, 111, 117, 110, 116, 114, 121] : List UInt8)).toArray⟩), (.string ⟨(([122, 111, 110, 101] : List UInt8)).toArray⟩), (.string ⟨(([99, 111, 110, 116, 105, 110, 101, 110, 116] : List UInt8)).toArray⟩), (.string ⟨(([99, 97, 108, 108] : List UInt8)).toArray⟩), (.string ⟨(([103, 111, 116, 122, 111, 110, 101] : List UInt8)).toArray⟩), (.string ⟨(([99, 97, 116, 101, 103, 111, 114, 121] : List UInt8)).toArray⟩), (.string ⟨(([112, 111, 119, 101, 114] : List UInt8)).toArray⟩), (.string ⟨(([115, 116, 97, 116, 117, 115] : List UInt8)).toArray⟩)] hs0 (fun b21 w22 hs23 => ?_)
 have hr25 : RowR tStr 9 F0 (some ⟨b21, 0, none⟩) 14 [([98, 97, 110, 100] : List UInt8), ([109, 111, 100, 101] : List UInt8), ([104, 111, 117, 114] : List UInt8), ([109, 121, 99, 111, 117, 110, 116, 114, 121] : List UInt8), ([109, 121, 122, 111, 110, 101] : List UInt8), ([109, 121, 99, 111, 110, 116, 105, 110, 101, 110, 116] : List UInt8), ([99, 111, 117, 110, 116, 114, 121] : List UInt8), ([122, 111, 110, 101] : List UInt8), ([99, 111, 110, 116, 105, 110, 101, 110, 116] : List UInt8), ([99, 97, 108, 108] : List UInt8), ([103, 111, 116, 122, 111, 110, 101] : List UInt8), ([99, 97, 116, 101, 103, 111, 114, 121] : List UInt8), ([112, 111, 119, 101, 114] : List UInt8), ([115, 116, 97, 116, 117, 115] : List UInt8)] (some b21, .cells ([(.string ⟨(([98, 97, 110, 100] : List UInt8)).toArray⟩), (.string ⟨(([109, 111, 100, 101] : List UInt8)).toArray⟩), (.string ⟨(([104, 111, 117, 114] : List UInt8)).toArray⟩), (.string ⟨(([109, 121, 99, 111, 117, 110, 116, 114, 121] : List UInt8)).toArray⟩), (.string ⟨(([109, 121, 122, 111, 110, 101] : List UInt8)).toArray⟩), (.string ⟨(([109, 121, 99, 111, 110, 116, 105, 110, 101, 110, 116] : List UInt8)).toArray⟩), (.string ⟨(([99, 111, 117, 110, 116, 114, 121] : List UInt8)).toArray⟩), (.string ⟨(([122, 111, 110, 101] : List UInt8)).toArray⟩), (.string ⟨(([99, 111, 110, 116, 105, 110, 101, 110, 116] : List UInt8)).toArray⟩), (.string ⟨(([99, 97, 108, 108] : List UInt8)).toArray⟩), (.string ⟨(([103, 111, 116, 122, 111, 110, 101] : List UInt8)).toArray⟩), (.string ⟨(([99, 97, 116, 101, 103, 111, 114, 121] : List UInt8)).toArray⟩), (.string ⟨(([112, 111, 119, 101, 114] : List UInt8)).toArray⟩), (.string ⟨(([115, 116, 97, 116, 117, 115] : List UInt8)).toArray⟩)] : List Value).toArray 9 (0, 0)) := RowR.lit ⟨rfl, ⟨rfl, ⟨rfl, ⟨rfl, ⟨rfl, ⟨rfl, ⟨rfl, ⟨rfl, ⟨rfl, ⟨rfl, ⟨rfl, ⟨rfl, ⟨rfl, ⟨rfl, rfl⟩⟩⟩⟩⟩⟩⟩⟩⟩⟩⟩⟩⟩⟩ (by simp)
 refine Vs 1 ?_
 refine Nt ?_
 refine Rt ?_
 have hb29 := RowR.bound hr25
 obtain ⟨F1, hs26, le27, hs28⟩ := hs23.fr0 hr25
 obtain rfl := some_inj h
 exact Re [(.slice (some ⟨b21, 0, none⟩) [([98, 97, 110, 100] : List UInt8), ([109, 111, 100, 101] : List UInt8), ([104, 111, 117, 114] : List UInt8), ([109, 121, 99, 111, 117, 110, 116, 114, 121] : List UInt8), ([109, 121, 122, 111, 110, 101] : List UInt8), ([109, 121, 99, 111, 110, 116, 105, 110, 101, 110, 116] : List UInt8), ([99, 111, 117, 110, 116, 114, 121] : List UInt8), ([122, 111, 110, 101] : List UInt8), ([99, 111, 110, 116, 105, 110, 101, 110, 116] : List UInt8), ([99, 97, 108, 108] : List UInt8), ([103, 111, 116, 122, 111, 110, 101] : List UInt8), ([99, 97, 116, 101, 103, 111, 114, 121] : List UInt8), ([112, 111, 119, 101, 114] : List UInt8), ([115, 116, 97, 116, 117, 115] : List UInt8)].length 14)] hs26 ⟨(some ⟨b21, 0, none⟩), 14, rfl, hb29, hs28⟩
end Go.Proofs.YtaihlcdkcampbaaGreatDoor
namespace Go.Proofs.YtaihlcdkcampbaaGreatDoor
open Go.Proofs
def ref06_number (N : Nat) (x0 : Int) : Option Expr :=
 some ({ Op := 1, Value := x0, Kids := ([] : List Expr) } : Expr)
theorem co_ref06_number : CallOk Tryz.prog 216 := fun _ _ => by kernel_rfl
theorem c_ref06_number (N : Nat) (w0 : World) (F0 : Mem) (hF : ∀ b o, F0 b = some o → w0.heap[b]? = some o) (x0 : Int) (r : Expr) (h : ref06_number N x0 = some r) :
  Calls Tryz.prog 216 ([(vi x0)] : List Value).toArray w0 (FRet w0 F0 fun F' v => ∃ (aq0_2 : Option Addr) (nq0_2 : Nat), v = (.agg (kExpr r aq0_2 nq0_2)) ∧ LC r.Kids.length nq0_2 ∧ SlA tExpr F' aq0_2 r.Kids) := by
 have hs0 := HS.start hF
 refine Go 5 Tryz.func216 ?_
 refine Sq (Rg [0] ?_)
 refine Al' 33 #[(vi 0), (vi 0), (.slice none ([] : List Expr).length 0)] hs0 (fun b21 w22 hs23 => ?_)
 refine Nss (Rg [0, 1, 2] ?_)
 refine Vs 2 ?_
 refine St0 #[(vi 1), (vi x0), (.slice none ([] : List Expr).length 0)] hs23 (fun w24 hs25 => ?_)
 refine Nt ?_
 refine Rt ?_
 obtain rfl := some_inj h
 exact ⟨rfl, (.agg #[(vi 1), (vi x0), (.slice none ([] : List Expr).length 0)]), res_of (l := [.cell 2 33]) (by kernel_rfl) (vs := [(.agg #[(vi 1), (vi x0), (.slice none ([] : List Expr).length 0)])]) ⟨b21, 0, rfl, run_loadVar' (t := 33) (g := true) (s := 3) (by kernel_rfl) hs25.at0 rfl (by decide), trivial⟩, (.agg #[(vi 1), (vi x0), (.slice none ([] : List Expr).length 0)]), F0, rfl, hs25.clear, ⟨none, 0, rfl, LC.nil, (.inl rfl)⟩⟩
end Go.Proofs.YtaihlcdkcampbaaGreatDoor
namespace Go.Proofs.YtaihlcdkcampbaaGreatDoor
open Go.Proofs
def ref06_reader_open (N : Nat) (x0 : pileupref06_reader) : Option pileupref06_reader :=
 ((bif (x0.Bad == 0) then ((ref06_reader_see N x0 ([40] : List UInt8)).bind fun r33 => (bif r33 then some (x0.Open == 32) else some false)) else some false).bind fun j24 => ((bif j24 then (((idx x0.L x0.At).bind fun x64 => ((ref06_reader_wrong N x0 2 x64.At).bind fun r78 => some (r78.L, r78.At, r78.Open, r78.Bad, r78.Where))).bind fun j59 => some (j59.1, j59.2.1, j59.2.2.1, j59.2.2.2.1, j59.2.2.2.2)) else some (x0.L, x0.At, x0.Open, x0.Bad, x0.Where)).bind fun j46 => ((ref06_reader_take N ({ L := j46.1, At := j46.2.1, Open := j46.2.2.1, Bad := j46.2.2.2.1, Where := j46.2.2.2.2 } : pileupref06_reader) ([40] : List UInt8)).bind fun r106 => some ({ L := r106.L, At := r106.At, Open := (W64 (r106.Open + 1)), Bad := r106.Bad, Where := r106.Where } : pileupref06_reader))))
theorem co_ref06_reader_open : CallOk Tryz.prog 245 := fun _ _ => by kernel_rfl
theorem c_ref06_reader_open (N : Nat) {wb w0 : World} {Fb F0 : Mem} {Lf : Own} (bp0 : Nat) (x0 : pileupref06_reader) (a0_0 : Option Addr) (n0_0 : Nat) (hb0_0 : LC x0.L.length n0_0) (hs0_0 : SlA tpileupref06_token F0 a0_0 x0.L) (hs0 : HS wb Fb w0 F0 ((sb bp0 (kpileupref06_reader x0 a0_0 n0_0) 108) :: Lf)) (r : pileupref06_reader) (h : ref06_reader_open N x0 = some r) :
  Calls Tryz.prog 245 ([(pt bp0 0)] : List Value).toArray w0 (BRet wb Fb F0 fun F' v L' => ∃ (aq0_0 : Option Addr) (nq0_0 : Nat), v = (.tuple #[]) ∧ L' = (sb bp0 (kpileupref06_reader r aq0_0 nq0_0) 108) :: Lf ∧ LC r.L.length nq0_0 ∧ SlA tpileupref06_token F' aq0_0 r.L) := by
 refine Go 40 Tryz.func245 ?_
 refine Sq ?_
 refine Sq (Rg [0, 1, 2, 3, 4, 5, 6, 7, 8, 9, 10, 11, 12, 13, 14, 15] ?_)
 obtain ⟨j24, hj28, h29⟩ := bind_some h
 refine RWP.cut (fun f w => ∃ (F1 : Mem), HS wb Fb w F1 ((sb bp0 (kpileupref06_reader x0 a0_0 n0_0) 108) :: Lf) ∧ Mem.le F0 F1 ∧ FI f [] [(0, (pt bp0 0)), (17, (.bool j24))]) ?_ ?_
 ·refine Vs 3 ?_
  refine Ld hs0.at0 ?_
  refine Vs 2 ?_
  refine Sp hj28 (fun hb30 h31 => ?_) (fun hb30 h32 => ?_)
  ·refine Vgs hb30 1 ?_
   obtain ⟨r33, hr34, h35⟩ := bind_some h31
   refine RWP.callB (dst := (some 9)) (ty := 4) (g := (some (5, true))) (by kernel_rfl) (gd_y (d := 7) (by kernel_rfl) rfl hb30) (f0 := (.func 142)) (aos := #[(.tmp 8), (.const (.string ⟨([40] : List UInt8).toArray⟩))]) (ats := #[104, 9]) (fid := 142) (first := #[]) (cap := #[]) (args := [(pt bp0 0), (.string ⟨(([40] : List UInt8)).toArray⟩)]) rfl co_ref06_reader_see (rfl) (c_ref06_reader_see N bp0 (x0) a0_0 n0_0 hb0_0 hs0_0 (([40] : List UInt8)) hs0 _ hr34) ?_
   rintro _ F2 w36 _ hs37 le38 ⟨rfl, rfl⟩
   refine Pk1 hb30 ?_
   refine Vs 1 ?_
   refine Sp h35 (fun hb40 h41 => ?_) (fun hb40 h42 => ?_)
   ·refine Vgs hb40 3 ?_
    refine Lg hb40 hs37.at0 ?_
    refine Vgs hb40 1 ?_
    refine Pk1 hb40 ?_
    obtain rfl := some_inj h41
    exact RWP.nil ⟨rfl, F2, hs37, le38, fI⟩
   ·refine Ss hb40 5 ?_
    refine Pk0 hb40 ?_
    obtain rfl := some_inj h42
    exact RWP.nil ⟨rfl, F2, hs37, le38, fI⟩
  ·refine Ss hb30 2 ?_
   refine Pk0 hb30 ?_
   refine Vs 1 ?_
   refine Ss (rfl : false = false) 5 ?_
   refine Pk0 (rfl : false = false) ?_
   obtain rfl := some_inj h32
   exact RWP.nil ⟨rfl, F0, hs0, (Mem.le.refl _), fI⟩
 ·rintro f w21 ⟨F1, hs22, le23, ⟨_, rfl⟩⟩
  refine thenQ_nrm ?_
  obtain ⟨j46, hj49, h50⟩ := bind_some h29
  refine CWP.cut (fun f w => ∃ (F3 : Mem) (aj46_0 : Option Addr) (nj46_0 : Nat), HS wb Fb w F3 ((sb bp0 #[(.slice aj46_0 j46.1.length nj46_0), (vi j46.2.1), (vi j46.2.2.1), (vi j46.2.2.2.1), (vi j46.2.2.2.2)] 108) :: Lf) ∧ Mem.le F1 F3 ∧ FI f [] [(0, (pt bp0 0))] ∧ LC j46.1.length nj46_0 ∧ SlA tpileupref06_token F3 aj46_0 j46.1) ?_ ?_
  ·refine Cd hj49 (fun hb51 h52 => ?_) (fun hb51 h53 => ?_)
   ·obtain ⟨j59, hj62, h63⟩ := bind_some h52
    refine RD 13 13 [] [] hs22 (fun f w => ∃ (F4 : Mem) (aj59_0 : Option Addr) (nj59_0 : Nat), HS wb Fb w F4 ((sb bp0 #[(.slice aj59_0 j59.1.length nj59_0), (vi j59.2.1), (vi j59.2.2.1), (vi j59.2.2.2.1), (vi j59.2.2.2.2)] 108) :: Lf) ∧ Mem.le F1 F4 ∧ FI f [] [(0, (pt bp0 0))] ∧ LC j59.1.length nj59_0 ∧ SlA tpileupref06_token F4 aj59_0 j59.1) (fun wd54 hw55 => ?_) ?_
    ·refine Dv [0, 1, 2, 3, 5, 6, 7] ?_
     refine DWP.two (i := 4) (j := 8) (by kernel_rfl) ?_ ?_
     ·refine DStep.val (l' := [true, true, true, true, true, true, true, true, false, false, false, false, false]) (zd := true) (by kernel_rfl) (by kernel_rfl) (dst := (some 22)) (ty := 105) (g := none) (by kernel_rfl) rfl (run_load' (t := 105) (x := (.tmp 21)) (b := bp0) (o := 0) (g := false) (s := 1) (C := (kpileupref06_reader x0 a0_0 n0_0)) (v := (.slice a0_0 x0.L.length n0_0)) rfl (by kernel_rfl) hw55.at0 rfl rfl rfl) (dz_of hw55 (Mem.le.refl _) (by simp) (fun e => by cases e)) ?_
      refine D1 8 ?_
      refine DStep.val (l' := [true, true, true, true, true, true, true, true, true, false, false, false, false]) (zd := true) (by kernel_rfl) (by kernel_rfl) (dst := (some 26)) (ty := 3) (g := none) (by kernel_rfl) rfl (run_load' (t := 3) (x := (.tmp 25)) (b := bp0) (o := 1) (g := false) (s := 1) (C := (kpileupref06_reader x0 a0_0 n0_0)) (v := (vi x0.At)) rfl (by kernel_rfl) hw55.at0 rfl rfl rfl) (dz_of hw55 (Mem.le.refl _) (by simp) (fun e => by cases e)) ?_
      obtain ⟨x64, hx65, h67⟩ := bind_some hj62
      obtain ⟨hi66, hx65'⟩ := idx_spec hx65
      obtain ⟨b68, o69, C70, E71, fz72, rfl, hF74, hE75⟩ := SlA.open (SlA.mono hs0_0 le23) hx65'
      have hc77 := hE75 _ _ hx65'
      refine Di 9 hi66 ?_
      refine Dv [10] ?_
      refine Dx 11 1 (fun _ hq => hq.1.1 _ _ hF74) hc77 ?_
      refine D1 12 ?_
      obtain ⟨r78, hr79, h80⟩ := bind_some h67
      refine DCB co_ref06_reader_wrong (c_ref06_reader_wrong N bp0 (x0) (some ⟨b68, o69, none⟩) n0_0 hb0_0 (SlA.mono hs0_0 le23) (2) (x64.At) hw55 _ hr79) ?_
      rintro _ F5 w81 _ hs82 le83 ⟨ar78_0_0, nr78_0_0, rfl, rfl, hbr78_0_0, hsr78_0_0⟩
      refine ⟨dz_of hs82 le83 (by simp) (zdT (by kernel_rfl)), ?_⟩
      obtain rfl := some_inj h80
      exact DWP.done (by kernel_rfl) ⟨F5, ar78_0_0, nr78_0_0, hs82, le83, fI, hbr78_0_0, hsr78_0_0⟩
     ·refine DStep.val (l' := [true, true, true, true, false, true, true, true, true, false, false, false, false]) (zd := true) (by kernel_rfl) (by kernel_rfl) (dst := (some 26)) (ty := 3) (g := none) (by kernel_rfl) rfl (run_load' (t := 3) (x := (.tmp 25)) (b := bp0) (o := 1) (g := false) (s := 1) (C := (kpileupref06_reader x0 a0_0 n0_0)) (v := (vi x0.At)) rfl (by kernel_rfl) hw55.at0 rfl rfl rfl) (dz_of hw55 (Mem.le.refl _) (by simp) (fun e => by cases e)) ?_
      refine D1 4 ?_
      refine DStep.val (l' := [true, true, true, true, true, true, true, true, true, false, false, false, false]) (zd := true) (by kernel_rfl) (by kernel_rfl) (dst := (some 22)) (ty := 105) (g := none) (by kernel_rfl) rfl (run_load' (t := 105) (x := (.tmp 21)) (b := bp0) (o := 0) (g := false) (s := 1) (C := (kpileupref06_reader x0 a0_0 n0_0)) (v := (.slice a0_0 x0.L.length n0_0)) rfl (by kernel_rfl) hw55.at0 rfl rfl rfl) (dz_of hw55 (Mem.le.refl _) (by simp) (fun e => by cases e)) ?_
      obtain ⟨x85, hx86, h88⟩ := bind_some hj62
      obtain ⟨hi87, hx86'⟩ := idx_spec hx86
      obtain ⟨b89, o90, C91, E92, fz93, rfl, hF95, hE96⟩ := SlA.open (SlA.mono hs0_0 le23) hx86'
      have hc98 := hE96 _ _ hx86'
      refine Di 9 hi87 ?_
      refine Dv [10] ?_
      refine Dx 11 1 (fun _ hq => hq.1.1 _ _ hF95) hc98 ?_
      refine D1 12 ?_
      obtain ⟨r99, hr100, h101⟩ := bind_some h88
      refine DCB co_ref06_reader_wrong (c_ref06_reader_wrong N bp0 (x0) (some ⟨b89, o90, none⟩) n0_0 hb0_0 (SlA.mono hs0_0 le23) (2) (x85.At) hw55 _ hr100) ?_
      rintro _ F6 w102 _ hs103 le104 ⟨ar99_0_0, nr99_0_0, rfl, rfl, hbr99_0_0, hsr99_0_0⟩
      refine ⟨dz_of hs103 le104 (by simp) (zdT (by kernel_rfl)), ?_⟩
      obtain rfl := some_inj h101
      exact DWP.done (by kernel_rfl) ⟨F6, ar99_0_0, nr99_0_0, hs103, le104, fI, hbr99_0_0, hsr99_0_0⟩
    ·rintro f w56 ⟨F4, aj59_0, nj59_0, hs57, le58, ⟨_, rfl⟩, hbj59_0, hsj59_0⟩
     obtain rfl := some_inj h63
     exact .inl ⟨rfl, F4, aj59_0, nj59_0, hs57, le58, fI, hbj59_0, hsj59_0⟩
   ·refine Sc ?_
    obtain rfl := some_inj h53
    exact .inl ⟨rfl, F1, a0_0, n0_0, hs22, (Mem.le.refl _), fI, hb0_0, (SlA.mono hs0_0 le23)⟩
  ·rintro f w43 ⟨F3, aj46_0, nj46_0, hs44, le45, ⟨_, rfl⟩, hbj46_0, hsj46_0⟩
   refine thenQ_nrm ?_
   refine Sq (Rg [0, 1] ?_)
   refine Vs 1 ?_
   obtain ⟨r106, hr107, h108⟩ := bind_some h50
   refine CB co_ref06_reader_take (c_ref06_reader_take N bp0 (({ L := j46.1, At := j46.2.1, Open := j46.2.2.1, Bad := j46.2.2.2.1, Where := j46.2.2.2.2 } : pileupref06_reader)) aj46_0 nj46_0 hbj46_0 hsj46_0 (([40] : List UInt8)) hs44 _ hr107) ?_
   rintro _ F7 w109 _ hs110 le111 ⟨ar106_0_0, nr106_0_0, rfl, rfl, hbr106_0_0, hsr106_0_0⟩
   refine Nt ?_
   refine Rg [0, 1, 2, 3, 4, 5, 6, 7] ?_
   refine Vs 3 ?_
   refine Ld hs110.at0 ?_
   refine Vs 3 ?_
   refine St0 #[(.slice ar106_0_0 r106.L.length nr106_0_0), (vi r106.At), (vi (W64 (r106.Open + 1))), (vi r106.Bad), (vi r106.Where)] hs110 (fun w113 hs114 => ?_)
   refine RWP.nil ?_
   obtain rfl := some_inj h108
   exact ReB [] hs114 ((le23.trans le45).trans le111) ⟨ar106_0_0, nr106_0_0, rfl, rfl, hbr106_0_0, hsr106_0_0⟩
end Go.Proofs.YtaihlcdkcampbaaGreatDoor
namespace Go.Proofs.YtaihlcdkcampbaaGreatDoor
open Go.Proofs
def ref06_reader_shut (N : Nat) (x0 : pileupref06_reader) : Option pileupref06_reader :=
 ((ref06_reader_take N x0 ([41] : List UInt8)).bind fun r21 => some ({ L := r21.L, At := r21.At, Open := (W64 (r21.Open - 1)), Bad := r21.Bad, Where := r21.Where } : pileupref06_reader))
theorem co_ref06_reader_shut : CallOk Tryz.prog 246 := fun _ _ => by kernel_rfl
theorem c_ref06_reader_shut (N : Nat) {wb w0 : World} {Fb F0 : Mem} {Lf : Own} (bp0 : Nat) (x0 : pileupref06_reader) (a0_0 : Option Addr) (n0_0 : Nat) (hb0_0 : LC x0.L.length n0_0) (hs0_0 : SlA tpileupref06_token F0 a0_0 x0.L) (hs0 : HS wb Fb w0 F0 ((sb bp0 (kpileupref06_reader x0 a0_0 n0_0) 108) :: Lf)) (r : pileupref06_reader) (h : ref06_reader_shut N x0 = some r) :
  Calls Tryz.prog 246 ([(pt bp0 0)] : List Value).toArray w0 (BRet wb Fb F0 fun F' v L' => ∃ (aq0_0 : Option Addr) (nq0_0 : Nat), v = (.tuple #[]) ∧ L' = (sb bp0 (kpileupref06_reader r aq0_0 nq0_0) 108) :: Lf ∧ LC r.L.length nq0_0 ∧ SlA tpileupref06_token F' aq0_0 r.L) := by
 refine Go 11 Tryz.func246 ?_
 refine Sq (Rg [0, 1] ?_)
 refine Vs 1 ?_
 obtain ⟨r21, hr22, h23⟩ := bind_some h
 refine CB co_ref06_reader_take (c_ref06_reader_take N bp0 (x0) a0_0 n0_0 hb0_0 hs0_0 (([41] : List UInt8)) hs0 _ hr22) ?_
 rintro _ F1 w24 _ hs25 le26 ⟨ar21_0_0, nr21_0_0, rfl, rfl, hbr21_0_0, hsr21_0_0⟩
 refine Nt ?_
 refine Rg [0, 1, 2, 3, 4, 5, 6, 7] ?_
 refine Vs 3 ?_
 refine Ld hs25.at0 ?_
 refine Vs 3 ?_
 refine St0 #[(.slice ar21_0_0 r21.L.length nr21_0_0), (vi r21.At), (vi (W64 (r21.Open - 1))), (vi r21.Bad), (vi r21.Where)] hs25 (fun w28 hs29 => ?_)
 refine RWP.nil ?_
 obtain rfl := some_inj h23
 exact ReB [] hs29 le26 ⟨ar21_0_0, nr21_0_0, rfl, rfl, hbr21_0_0, hsr21_0_0⟩
end Go.Proofs.YtaihlcdkcampbaaGreatDoor
namespace Go.Proofs.YtaihlcdkcampbaaGreatDoor
open Go.Proofs
def ref06_reader_item_L0 (N : Nat) (sR89 : pileupref06_reader → Option (pileupref06_reader × Expr)) (x0 : pileupref06_reader) (j35 : (Int × Int × List UInt8)) (j64 : (Bool)) (r106 : (List (List UInt8))) : Int → Option (Flow (pileupref06_reader × Expr) Int) := fun s117 =>
 (bif (decide (s117 < (r106.length : Int))) then ((bif (j35.1 == 2) then ((idx r106 s117).bind fun x161 => some (j35.2.2 == x161)) else some false).bind fun j148 => (bif j148 then some (.ret (({ L := x0.L, At := (W64 (x0.At + 1)), Open := x0.Open, Bad := x0.Bad, Where := x0.Where } : pileupref06_reader), ({ Op := 2, Value := s117, Kids := ([] : List Expr) } : Expr))) else some (.next (W64 (s117 + 1))))) else some (.done s117))
def ref06_reader_item_S (N : Nat) (sR89 : pileupref06_reader → Option (pileupref06_reader × Expr)) (x0 : pileupref06_reader) : Option (pileupref06_reader × Expr) :=
 (bif (x0.Bad != 0) then some (x0, ({ Op := 0, Value := 0, Kids := ([] : List Expr) } : Expr)) else (((idx x0.L x0.At).bind fun x42 => some (x42.Kind, x42.At, x42.Text)).bind fun j35 => ((bif (j35.1 == 1) then ((ref06_figure N j35.2.2).bind fun r75 => some (decide (r75 ≥ 0))) else some false).bind fun j64 => (bif j64 then ((ref06_figure N j35.2.2).bind fun r88 => ((ref06_number N r88).bind fun r96 => some (({ L := x0.L, At := (W64 (x0.At + 1)), Open := x0.Open, Bad := x0.Bad, Where := x0.Where } : pileupref06_reader), r96))) else ((ref06_fields N ).bind fun r106 => ((iter (ref06_reader_item_L0 N sR89 x0 j35 j64 r106) N 0).bind fun o => o.k (fun r => some r) (fun s127 => ((ref06_reader_see N x0 ([40] : List UInt8)).bind fun r185 => (bif r185 then ((ref06_reader_open N x0).bind fun r195 => ((sR89 r195).bind fun r202 => ((ref06_reader_shut N r202.1).bind fun r214 => some (r214, r202.2)))) else ((ref06_reader_take N x0 ([105, 102] : List UInt8)).bind fun r223 => ((ref06_reader_open N r223).bind fun r230 => ((sR89 r230).bind fun r237 => ((ref06_reader_take N r237.1 ([44] : List UInt8)).bind fun r249 => ((sR89 r249).bind fun r256 => ((ref06_reader_take N r256.1 ([44] : List UInt8)).bind fun r268 => ((sR89 r268).bind fun r275 => ((ref06_reader_shut N r275.1).bind fun r288 => some (r288, ({ Op := 11, Value := 0, Kids := [r237.2, r256.2, r275.2] } : Expr)))))))))))))))))))
theorem cS_ref06_reader_item (N : Nat) (sR89 : pileupref06_reader → Option (pileupref06_reader × Expr)) (hsR89 : Self89 sR89) {wb w0 : World} {Fb F0 : Mem} {Lf : Own} (bp0 : Nat) (x0 : pileupref06_reader) (a0_0 : Option Addr) (n0_0 : Nat) (hb0_0 : LC x0.L.length n0_0) (hs0_0 : SlA tpileupref06_token F0 a0_0 x0.L) (hs0 : HS wb Fb w0 F0 ((sb bp0 (kpileupref06_reader x0 a0_0 n0_0) 108) :: Lf)) (r : (pileupref06_reader × Expr)) (h : ref06_reader_item_S N sR89 x0 = some r) :
  Calls Tryz.prog 240 ([(pt bp0 0)] : List Value).toArray w0 (BRet wb Fb F0 fun F' v L' => ∃ (aq0_0 : Option Addr) (nq0_0 : Nat) (aq1_2 : Option Addr) (nq1_2 : Nat), v = (.agg (kExpr r.2 aq1_2 nq1_2)) ∧ L' = (sb bp0 (kpileupref06_reader r.1 aq0_0 nq0_0) 108) :: Lf ∧ LC r.1.L.length nq0_0 ∧ SlA tpileupref06_token F' aq0_0 r.1.L ∧ LC r.2.Kids.length nq1_2 ∧ SlA tExpr F' aq1_2 r.2.Kids) := by
 refine Go 104 Tryz.func240 ?_
 refine Sq (Rg [0] ?_)
 refine Al' 33 #[(vi 0), (vi 0), (.slice none ([] : List Expr).length 0)] hs0 (fun b21 w22 hs23 => ?_)
 refine Nss ?_
 refine Sq (Rg [0, 1, 2, 3, 4] ?_)
 refine Vs 3 ?_
 refine Ld hs23.at1 ?_
 refine Vs 1 ?_
 refine Nt ?_
 refine Cd h (fun hb24 h25 => ?_) (fun hb24 h26 => ?_)
 ·refine Sq (Rg [0, 1] ?_)
  refine Vs 1 ?_
  refine St0 #[(vi 0), (vi 0), (.slice none ([] : List Expr).length 0)] hs23 (fun w27 hs28 => ?_)
  refine Nt ?_
  refine Rt ?_
  refine thenQ_ret ?_
  obtain rfl := some_inj h25
  exact ⟨rfl, (.agg #[(vi 0), (vi 0), (.slice none ([] : List Expr).length 0)]), res_of (l := [.cell 2 33]) (by kernel_rfl) (vs := [(.agg #[(vi 0), (vi 0), (.slice none ([] : List Expr).length 0)])]) ⟨b21, 0, rfl, run_loadVar' (t := 33) (g := true) (s := 3) (by kernel_rfl) hs28.at0 rfl (by decide), trivial⟩, F0, _, _, rfl, hs28.dr0, (Mem.le.refl _), ⟨a0_0, n0_0, none, 0, rfl, rfl, hb0_0, hs0_0, LC.nil, (.inl rfl)⟩⟩
 ·refine Sc ?_
  refine thenQ_nrm ?_
  refine Sq ?_
  obtain ⟨j35, hj40, h41⟩ := bind_some h26
  refine RD 11 12 [(sb b21 #[(vi 0), (vi 0), (.slice none ([] : List Expr).length 0)] 33), (sb bp0 (kpileupref06_reader x0 a0_0 n0_0) 108)] [] hs23 (fun f w => ∃ (F1 : Mem) (b34 : Nat), HS wb Fb w F1 ((sb b34 #[(vi j35.1), (vi j35.2.1), (.string ⟨(j35.2.2).toArray⟩)] 110) :: (sb b21 #[(vi 0), (vi 0), (.slice none ([] : List Expr).length 0)] 33) :: (sb bp0 (kpileupref06_reader x0 a0_0 n0_0) 108) :: Lf) ∧ Mem.le F0 F1 ∧ FI f [] [(0, (pt bp0 0)), (2, (pt b21 0)), (3, (pt b34 0))]) (fun wd29 hw30 => ?_) ?_
  ·refine Dv [0, 1, 2] ?_
   refine Dl 3 (fun _ hq => (hq.1.2 1 _ _ rfl)) ?_
   refine Dv [4, 5, 6] ?_
   refine Dl 7 (fun _ hq => (hq.1.2 1 _ _ rfl)) ?_
   obtain ⟨x42, hx43, h45⟩ := bind_some hj40
   obtain ⟨hi44, hx43'⟩ := idx_spec hx43
   obtain ⟨b46, o47, C48, E49, fz50, rfl, hF52, hE53⟩ := SlA.open hs0_0 hx43'
   have hc55 := hE53 _ _ hx43'
   refine Di 8 hi44 ?_
   refine Dx 9 0 (fun _ hq => hq.1.1 _ _ hF52) hc55 ?_
   refine D1 10 ?_
   refine DAl 110 #[(vi 0), (vi 0), (.string ⟨(([] : List UInt8)).toArray⟩)] hw30 (Mem.le.refl _) (fun b56 w57 hs58 => ?_)
   refine D1 11 ?_
   refine DSt0 (kpileupref06_token x42) hs58 (Mem.le.refl _) (fun w59 hs60 => ?_)
   obtain rfl := some_inj h45
   exact DWP.done (by kernel_rfl) ⟨F0, b56, hs60, (Mem.le.refl _), fI⟩
  ·rintro f w31 ⟨F1, b34, hs32, le33, ⟨_, rfl⟩⟩
   refine thenQ_nrm ?_
   refine Sq ?_
   refine Sq (Rg [0, 1, 2, 3, 4, 5, 6, 7, 8] ?_)
   obtain ⟨j64, hj70, h71⟩ := bind_some h41
   refine RWP.cut (fun f w => ∃ (F2 : Mem), HS wb Fb w F2 ((sb b34 #[(vi j35.1), (vi j35.2.1), (.string ⟨(j35.2.2).toArray⟩)] 110) :: (sb b21 #[(vi 0), (vi 0), (.slice none ([] : List Expr).length 0)] 33) :: (sb bp0 (kpileupref06_reader x0 a0_0 n0_0) 108) :: Lf) ∧ Mem.le F1 F2 ∧ FI f [] [(0, (pt bp0 0)), (2, (pt b21 0)), (3, (pt b34 0)), (34, (.bool j64))]) ?_ ?_
   ·refine Vs 1 ?_
    refine Ld hs32.at0 ?_
    refine Vs 2 ?_
    refine Sp hj70 (fun hb72 h73 => ?_) (fun hb72 h74 => ?_)
    ·refine Vgs hb72 1 ?_
     refine Lg hb72 hs32.at0 ?_
     obtain ⟨r75, hr76, h77⟩ := bind_some h73
     refine Cg hb72 co_ref06_figure hs32 (c_ref06_figure N w31 F1 hs32.pers (j35.2.2) _ hr76) ?_
     rintro _ F3 w79 hs80 le81 rfl
     refine Vgs hb72 1 ?_
     refine Pk1 hb72 ?_
     obtain rfl := some_inj h77
     exact RWP.nil ⟨rfl, F3, hs80, le81, fI⟩
    ·refine Ss hb72 4 ?_
     refine Pk0 hb72 ?_
     obtain rfl := some_inj h74
     exact RWP.nil ⟨rfl, F1, hs32, (Mem.le.refl _), fI⟩
   ·rintro f w61 ⟨F2, hs62, le63, ⟨_, rfl⟩⟩
    refine thenQ_nrm ?_
    refine Cd h71 (fun hb83 h84 => ?_) (fun hb83 h85 => ?_)
    ·refine Sq (Rg [0, 1, 2, 3, 4, 5, 6, 7] ?_)
     refine Vs 3 ?_
     refine Ld hs62.at2 ?_
     refine Vs 3 ?_
     refine St2 #[(.slice a0_0 x0.L.length n0_0), (vi (W64 (x0.At + 1))), (vi x0.Open), (vi x0.Bad), (vi x0.Where)] hs62 (fun w86 hs87 => ?_)
     refine Nss (Rg [0, 1, 2, 3, 4] ?_)
     refine Vs 1 ?_
     refine Ld hs87.at0 ?_
     obtain ⟨r88, hr89, h90⟩ := bind_some h84
     refine Cl' co_ref06_figure hs87 (c_ref06_figure N w86 F2 hs87.pers (j35.2.2) _ hr89) ?_
     rintro _ F4 w92 hs93 le94 rfl
     obtain ⟨r96, hr97, h98⟩ := bind_some h90
     refine Cl' co_ref06_number hs93 (c_ref06_number N w92 F4 hs93.pers (r88) _ hr97) ?_
     rintro _ F5 w100 hs101 le102 ⟨ar96_0_2, nr96_0_2, rfl, hbr96_0_2, hsr96_0_2⟩
     refine St1 (kExpr r96 ar96_0_2 nr96_0_2) hs101 (fun w104 hs105 => ?_)
     refine Nt ?_
     refine Rt ?_
     refine thenQ_ret ?_
     obtain rfl := some_inj h98
     exact ⟨rfl, (.agg (kExpr r96 ar96_0_2 nr96_0_2)), res_of (l := [.cell 2 33]) (by kernel_rfl) (vs := [(.agg (kExpr r96 ar96_0_2 nr96_0_2))]) ⟨b21, 0, rfl, run_loadVar' (t := 33) (g := true) (s := 3) (by kernel_rfl) hs105.at1 rfl (by decide), trivial⟩, F5, _, _, rfl, hs105.dr0.dr0, (((le33.trans le63).trans le94).trans le102), ⟨a0_0, n0_0, ar96_0_2, nr96_0_2, rfl, rfl, hb0_0, (SlA.mono hs0_0 (((le33.trans le63).trans le94).trans le102)), hbr96_0_2, hsr96_0_2⟩⟩
    ·refine Sc ?_
     refine thenQ_nrm ?_
     refine Sq (Rg [0, 1] ?_)
     obtain ⟨r106, hr107, h108⟩ := bind_some h85
     refine Cl' co_ref06_fields hs62 (c_ref06_fields N w61 F2 hs62.pers  _ hr107) ?_
     rintro _ F6 w110 hs111 le112 ⟨ar106_0_0, nr106_0_0, rfl, hbr106_0_0, hsr106_0_0⟩
     refine Vs 1 ?_
     refine Nss ?_
     refine Sq (Rg [0] ?_)
     refine Vs 1 ?_
     refine Nt ?_
     obtain ⟨o114, ho115, h116⟩ := bind_some h108
     refine CWP.cut (fun f w => ∃ (s127 : Int) (F8 : Mem), o114 = .done s127 ∧ HS wb Fb w F8 ((sb b21 #[(vi 0), (vi 0), (.slice none ([] : List Expr).length 0)] 33) :: (sb bp0 (kpileupref06_reader x0 a0_0 n0_0) 108) :: Lf) ∧ Mem.le F6 F8 ∧ FI f [] [(0, (pt bp0 0)), (2, (pt b21 0))]) ?_ ?_
     ·refine Bk ?_
      refine CWP.loop (by kernel_rfl) (fun m f w => ∃ (s117 : Int) (F7 : Mem), iter (ref06_reader_item_L0 N sR89 x0 j35 j64 r106) m s117 = some o114 ∧ HS wb Fb w F7 ((sb b34 #[(vi j35.1), (vi j35.2.1), (.string ⟨(j35.2.2).toArray⟩)] 110) :: (sb b21 #[(vi 0), (vi 0), (.slice none ([] : List Expr).length 0)] 33) :: (sb bp0 (kpileupref06_reader x0 a0_0 n0_0) 108) :: Lf) ∧ Mem.le F6 F7 ∧ FI f [] [(0, (pt bp0 0)), (2, (pt b21 0)), (3, (pt b34 0)), (4, (.slice ar106_0_0 r106.length nr106_0_0)), (5, (vi s117))]) N ⟨0, F6, ho115, hs111, (Mem.le.refl _), fI⟩ ?_
      rintro m134 f w118 ⟨s117, F7, hit135, hs119, le120, ⟨_, rfl⟩⟩
      obtain ⟨m136, fl137, rfl, hb138, hnx139⟩ := iter_step hit135
      refine Sq ?_
      refine Sq (Rg [0, 1, 2, 3] ?_)
      refine Vs 4 ?_
      refine Nt ?_
      refine Cd hb138 (fun hb140 h141 => ?_) (fun hb140 h142 => ?_)
      ·refine Sc ?_
       refine thenQ_nrm ?_
       refine Sq ?_
       refine Bk ?_
       refine Sq ?_
       obtain ⟨j148, hj156, h157⟩ := bind_some h141
       refine RD 12 12 [(sb b34 #[(vi j35.1), (vi j35.2.1), (.string ⟨(j35.2.2).toArray⟩)] 110), (sb b21 #[(vi 0), (vi 0), (.slice none ([] : List Expr).length 0)] 33), (sb bp0 (kpileupref06_reader x0 a0_0 n0_0) 108)] [] hs119 (fun f w => ∃ (F9 : Mem), HS wb Fb w F9 ((sb b34 #[(vi j35.1), (vi j35.2.1), (.string ⟨(j35.2.2).toArray⟩)] 110) :: (sb b21 #[(vi 0), (vi 0), (.slice none ([] : List Expr).length 0)] 33) :: (sb bp0 (kpileupref06_reader x0 a0_0 n0_0) 108) :: Lf) ∧ Mem.le F7 F9 ∧ FI f [] [(0, (pt bp0 0)), (2, (pt b21 0)), (3, (pt b34 0)), (4, (.slice ar106_0_0 r106.length nr106_0_0)), (5, (vi s117)), (64, (.bool j148))]) (fun wd143 hw144 => ?_) ?_
       ·refine Dv [0] ?_
        refine Dl 1 (fun _ hq => (hq.1.2 0 _ _ rfl)) ?_
        refine Dv [2, 3] ?_
        refine Sd hj156 (fun hb158 h159 => ?_) (fun hb158 h160 => ?_)
        ·refine Dg 4 57 0 (pt b34 2) 3 true 56 hb158 (fun _ hq => fa 110 3 2 2 1 b34 0 2) ?_
         refine Dg 5 58 9 _ 3 true 56 hb158 (fun _ hq => ld 9 57 b34 2 false 1 (.string ⟨(j35.2.2).toArray⟩) (hq.1.2 0 _ _ rfl)) ?_
         refine Dg 6 59 120 _ 3 true 56 hb158 (fun _ hq => mv 4 (.slice ar106_0_0 r106.length nr106_0_0)) ?_
         refine Dg 7 60 3 _ 3 true 56 hb158 (fun _ hq => mv 5 (vi s117)) ?_
         obtain ⟨x161, hx162, h164⟩ := bind_some h159
         obtain ⟨hi163, hx162'⟩ := idx_spec hx162
         obtain ⟨b165, o166, C167, E168, fz169, rfl, hF171, hE172⟩ := SlA.open (SlA.mono hsr106_0_0 le120) hx162'
         have hc174 := hE172 _ _ hx162'
         refine Dg 8 61 0 (.pointer (some ⟨b165, (o166 + (s117 : Int).toNat * 1), none⟩)) 3 true 56 hb158 (fun _ hq => ix 120 59 60 b165 o166 9 1 16 hi163) ?_
         refine Dg 9 62 9 _ 3 true 56 hb158 (fun _ hq => lx 9 61 0 1 false 1 (.string ⟨(x161).toArray⟩) (hq.1.1 _ _ hF171) hc174) ?_
         refine Dg 10 63 4 (.bool (j35.2.2 == x161)) 3 true 56 hb158 (fun _ hq => run_scmp (t := 9) (t' := 9) (x := (.tmp 58)) (y := (.tmp 62)) (op := .eql) (a := j35.2.2) (b := x161) (v := (j35.2.2 == x161)) rfl rfl rfl) ?_
         refine Dt 11 64 4 _ (fun _ hq => p1 56 (.tmp 63) (.const (.bool false)) (.bool (j35.2.2 == x161)) hb158) ?_
         obtain rfl := some_inj h164
         exact DWP.done (by kernel_rfl) ⟨F7, hw144, (Mem.le.refl _), fI⟩
        ·refine Dk [(4, 57), (5, 58), (6, 59), (7, 60), (8, 61), (9, 62), (10, 63)] 3 true 56 hb158 ?_
         refine Dt 11 64 4 _ (fun _ hq => p0 56 (.tmp 63) (.const (.bool false)) (.bool false) hb158) ?_
         obtain rfl := some_inj h160
         exact DWP.done (by kernel_rfl) ⟨F7, hw144, (Mem.le.refl _), fI⟩
       ·rintro f w145 ⟨F9, hs146, le147, ⟨_, rfl⟩⟩
        refine thenQ_nrm ?_
        refine Cd h157 (fun hb175 h176 => ?_) (fun hb175 h177 => ?_)
        ·refine Sq (Rg [0, 1, 2, 3, 4, 5, 6, 7] ?_)
         refine Vs 3 ?_
         refine Ld hs146.at2 ?_
         refine Vs 3 ?_
         refine St2 #[(.slice a0_0 x0.L.length n0_0), (vi (W64 (x0.At + 1))), (vi x0.Open), (vi x0.Bad), (vi x0.Where)] hs146 (fun w178 hs179 => ?_)
         refine Nss (Rg [0, 1, 2] ?_)
         refine Vs 2 ?_
         refine St1 #[(vi 2), (vi s117), (.slice none ([] : List Expr).length 0)] hs179 (fun w180 hs181 => ?_)
         refine Nt ?_
         refine Rt ?_
         refine blockQ_ret ?_
         refine thenQ_ret ?_
         refine thenQ_ret ?_
         refine blockQ_ret ?_
         have hret := iter_ret h176 hnx139
         subst hret
         refine .inr ?_
         refine thenQ_ret ?_
         obtain rfl := some_inj h116
         exact ⟨rfl, (.agg #[(vi 2), (vi s117), (.slice none ([] : List Expr).length 0)]), res_of (l := [.cell 2 33]) (by kernel_rfl) (vs := [(.agg #[(vi 2), (vi s117), (.slice none ([] : List Expr).length 0)])]) ⟨b21, 0, rfl, run_loadVar' (t := 33) (g := true) (s := 3) (by kernel_rfl) hs181.at1 rfl (by decide), trivial⟩, F9, _, _, rfl, hs181.dr0.dr0, ((((le33.trans le63).trans le112).trans le120).trans le147), ⟨a0_0, n0_0, none, 0, rfl, rfl, hb0_0, (SlA.mono hs0_0 ((((le33.trans le63).trans le112).trans le120).trans le147)), LC.nil, (.inl rfl)⟩⟩
        ·refine Sc ?_
         refine blockQ_nrm ?_
         refine thenQ_nrm ?_
         refine Rg [0, 1, 2] ?_
         refine Vs 3 ?_
         refine RWP.nil ?_
         have hn182 := iter_next h177 hnx139
         exact ⟨m136, Nat.lt_succ_self _, (W64 (s117 + 1)), F9, hn182, hs146, (le120.trans le147), fI⟩
      ·refine Ex ?_
       refine thenQ_ex ?_
       refine thenQ_ex ?_
       refine blockQ_hit rfl ?_
       have ho183 := iter_done h142 hnx139
       exact .inl ⟨rfl, s117, F7, ho183, hs119.dr0, le120, fI⟩
     ·rintro f w128 ⟨s127, F8, rfl, hs129, le130, ⟨_, rfl⟩⟩
      have h184 := k_done h116
      refine thenQ_nrm ?_
      refine Sq ?_
      refine Sq (Rg [0, 1] ?_)
      refine Vs 1 ?_
      obtain ⟨r185, hr186, h187⟩ := bind_some h184
      refine CB co_ref06_reader_see (c_ref06_reader_see N bp0 (x0) a0_0 n0_0 hb0_0 (SlA.mono hs0_0 (((le33.trans le63).trans le112).trans le130)) (([40] : List UInt8)) hs129.pk1 _ hr186) ?_
      rintro _ F10 w188 _ hs189 le190 ⟨rfl, rfl⟩
      refine Nt ?_
      refine Cd h187 (fun hb192 h193 => ?_) (fun hb192 h194 => ?_)
      ·refine Sq (Rg [0, 1] ?_)
       refine Vs 1 ?_
       obtain ⟨r195, hr196, h197⟩ := bind_some h193
       refine CB co_ref06_reader_open (c_ref06_reader_open N bp0 (x0) a0_0 n0_0 hb0_0 (SlA.mono hs0_0 ((((le33.trans le63).trans le112).trans le130).trans le190)) hs189 _ hr196) ?_
       rintro _ F11 w198 _ hs199 le200 ⟨ar195_0_0, nr195_0_0, rfl, rfl, hbr195_0_0, hsr195_0_0⟩
       refine Nss (Rg [0, 1, 2, 3] ?_)
       refine Vs 1 ?_
       obtain ⟨r202, hr203, h204⟩ := bind_some h197
       refine CB co_ref06_reader_expr (hsR89 bp0 (r195) ar195_0_0 nr195_0_0 hbr195_0_0 hsr195_0_0 hs199 _ hr203) ?_
       rintro _ F12 w205 _ hs206 le207 ⟨ar202_0_0, nr202_0_0, ar202_1_2, nr202_1_2, rfl, rfl, hbr202_0_0, hsr202_0_0, hbr202_1_2, hsr202_1_2⟩
       refine Al' 33 #[(vi 0), (vi 0), (.slice none ([] : List Expr).length 0)] hs206 (fun b209 w210 hs211 => ?_)
       refine St0 (kExpr r202.2 ar202_1_2 nr202_1_2) hs211 (fun w212 hs213 => ?_)
       refine Nss (Rg [0, 1] ?_)
       refine Vs 1 ?_
       obtain ⟨r214, hr215, h216⟩ := bind_some h204
       refine CB co_ref06_reader_shut (c_ref06_reader_shut N bp0 (r202.1) ar202_0_0 nr202_0_0 hbr202_0_0 hsr202_0_0 hs213.pk2.pk1.pk2 _ hr215) ?_
       rintro _ F13 w217 _ hs218 le219 ⟨ar214_0_0, nr214_0_0, rfl, rfl, hbr214_0_0, hsr214_0_0⟩
       refine Nss (Rg [0, 1] ?_)
       refine Ld hs218.at1 ?_
       refine St2 (kExpr r202.2 ar202_1_2 nr202_1_2) hs218 (fun w221 hs222 => ?_)
       refine Nt ?_
       refine Rt ?_
       refine thenQ_ret ?_
       obtain rfl := some_inj h216
       exact ⟨rfl, (.agg (kExpr r202.2 ar202_1_2 nr202_1_2)), res_of (l := [.cell 2 33]) (by kernel_rfl) (vs := [(.agg (kExpr r202.2 ar202_1_2 nr202_1_2))]) ⟨b21, 0, rfl, run_loadVar' (t := 33) (g := true) (s := 3) (by kernel_rfl) hs222.at2 rfl (by decide), trivial⟩, F13, _, _, rfl, hs222.dr1.dr1, (((((((le33.trans le63).trans le112).trans le130).trans le190).trans le200).trans le207).trans le219), ⟨ar214_0_0, nr214_0_0, ar202_1_2, nr202_1_2, rfl, rfl, hbr214_0_0, hsr214_0_0, hbr202_1_2, (SlA.mono hsr202_1_2 le219)⟩⟩
      ·refine Sc ?_
       refine thenQ_nrm ?_
       refine Sq (Rg [0, 1] ?_)
       refine Vs 1 ?_
       obtain ⟨r223, hr224, h225⟩ := bind_some h194
       refine CB co_ref06_reader_take (c_ref06_reader_take N bp0 (x0) a0_0 n0_0 hb0_0 (SlA.mono hs0_0 ((((le33.trans le63).trans le112).trans le130).trans le190)) (([105, 102] : List UInt8)) hs189 _ hr224) ?_
       rintro _ F14 w226 _ hs227 le228 ⟨ar223_0_0, nr223_0_0, rfl, rfl, hbr223_0_0, hsr223_0_0⟩
       refine Nss (Rg [0, 1] ?_)
       refine Vs 1 ?_
       obtain ⟨r230, hr231, h232⟩ := bind_some h225
       refine CB co_ref06_reader_open (c_ref06_reader_open N bp0 (r223) ar223_0_0 nr223_0_0 hbr223_0_0 hsr223_0_0 hs227 _ hr231) ?_
       rintro _ F15 w233 _ hs234 le235 ⟨ar230_0_0, nr230_0_0, rfl, rfl, hbr230_0_0, hsr230_0_0⟩
       refine Nss (Rg [0, 1, 2, 3] ?_)
       refine Vs 1 ?_
       obtain ⟨r237, hr238, h239⟩ := bind_some h232
       refine CB co_ref06_reader_expr (hsR89 bp0 (r230) ar230_0_0 nr230_0_0 hbr230_0_0 hsr230_0_0 hs234 _ hr238) ?_
       rintro _ F16 w240 _ hs241 le242 ⟨ar237_0_0, nr237_0_0, ar237_1_2, nr237_1_2, rfl, rfl, hbr237_0_0, hsr237_0_0, hbr237_1_2, hsr237_1_2⟩
       refine Al' 33 #[(vi 0), (vi 0), (.slice none ([] : List Expr).length 0)] hs241 (fun b244 w245 hs246 => ?_)
       refine St0 (kExpr r237.2 ar237_1_2 nr237_1_2) hs246 (fun w247 hs248 => ?_)
       refine Nss (Rg [0, 1] ?_)
       refine Vs 1 ?_
       obtain ⟨r249, hr250, h251⟩ := bind_some h239
       refine CB co_ref06_reader_take (c_ref06_reader_take N bp0 (r237.1) ar237_0_0 nr237_0_0 hbr237_0_0 hsr237_0_0 (([44] : List UInt8)) hs248.pk2.pk1.pk2 _ hr250) ?_
       rintro _ F17 w252 _ hs253 le254 ⟨ar249_0_0, nr249_0_0, rfl, rfl, hbr249_0_0, hsr249_0_0⟩
       refine Nss (Rg [0, 1, 2, 3] ?_)
       refine Vs 1 ?_
       obtain ⟨r256, hr257, h258⟩ := bind_some h251
       refine CB co_ref06_reader_expr (hsR89 bp0 (r249) ar249_0_0 nr249_0_0 hbr249_0_0 hsr249_0_0 hs253 _ hr257) ?_
       rintro _ F18 w259 _ hs260 le261 ⟨ar256_0_0, nr256_0_0, ar256_1_2, nr256_1_2, rfl, rfl, hbr256_0_0, hsr256_0_0, hbr256_1_2, hsr256_1_2⟩
       refine Al' 33 #[(vi 0), (vi 0), (.slice none ([] : List Expr).length 0)] hs260 (fun b263 w264 hs265 => ?_)
       refine St0 (kExpr r256.2 ar256_1_2 nr256_1_2) hs265 (fun w266 hs267 => ?_)
       refine Nss (Rg [0, 1] ?_)
       refine Vs 1 ?_
       obtain ⟨r268, hr269, h270⟩ := bind_some h258
       refine CB co_ref06_reader_take (c_ref06_reader_take N bp0 (r256.1) ar256_0_0 nr256_0_0 hbr256_0_0 hsr256_0_0 (([44] : List UInt8)) hs267.pk3.pk3.pk2.pk3 _ hr269) ?_
       rintro _ F19 w271 _ hs272 le273 ⟨ar268_0_0, nr268_0_0, rfl, rfl, hbr268_0_0, hsr268_0_0⟩
       refine Nss (Rg [0, 1, 2, 3] ?_)
       refine Vs 1 ?_
       obtain ⟨r275, hr276, h277⟩ := bind_some h270
       refine CB co_ref06_reader_expr (hsR89 bp0 (r268) ar268_0_0 nr268_0_0 hbr268_0_0 hsr268_0_0 hs272 _ hr276) ?_
       rintro _ F20 w278 _ hs279 le280 ⟨ar275_0_0, nr275_0_0, ar275_1_2, nr275_1_2, rfl, rfl, hbr275_0_0, hsr275_0_0, hbr275_1_2, hsr275_1_2⟩
       refine Al' 33 #[(vi 0), (vi 0), (.slice none ([] : List Expr).length 0)] hs279 (fun b282 w283 hs284 => ?_)
       refine St0 (kExpr r275.2 ar275_1_2 nr275_1_2) hs284 (fun w285 hs286 => ?_)
       refine Nss (Rg [0, 1] ?_)
       refine Vs 1 ?_
       have hs287 := hs286.pk4.pk4.pk4.pk3.pk4
       obtain ⟨r288, hr289, h290⟩ := bind_some h277
       refine CB co_ref06_reader_shut (c_ref06_reader_shut N bp0 (r275.1) ar275_0_0 nr275_0_0 hbr275_0_0 hsr275_0_0 hs287 _ hr289) ?_
       rintro _ F21 w291 _ hs292 le293 ⟨ar288_0_0, nr288_0_0, rfl, rfl, hbr288_0_0, hsr288_0_0⟩
       refine Nss (Rg [0, 1, 2, 3, 4, 5] ?_)
       refine Ld hs292.at3 ?_
       refine Ld hs292.at2 ?_
       refine Ld hs292.at1 ?_
       refine Bs 33 [(vi r237.2.Op), (vi r237.2.Value), (.slice ar237_1_2 r237.2.Kids.length nr237_1_2), (vi r256.2.Op), (vi r256.2.Value), (.slice ar256_1_2 r256.2.Kids.length nr256_1_2), (vi r275.2.Op), (vi r275.2.Value), (.slice ar275_1_2 r275.2.Kids.length nr275_1_2)] hs292 (fun b295 w296 hs297 => ?_)
       have hr299 : RowR tExpr 33 F21 (some ⟨b295, 0, none⟩) 3 [r237.2, r256.2, r275.2] (some b295, .cells ([(vi r237.2.Op), (vi r237.2.Value), (.slice ar237_1_2 r237.2.Kids.length nr237_1_2), (vi r256.2.Op), (vi r256.2.Value), (.slice ar256_1_2 r256.2.Kids.length nr256_1_2), (vi r275.2.Op), (vi r275.2.Value), (.slice ar275_1_2 r275.2.Kids.length nr275_1_2)] : List Value).toArray 33 (0, 0)) := RowR.lit ⟨(tExpr_mk ⟨ar237_1_2, nr237_1_2, rfl, hbr237_1_2, (SlA.mono hsr237_1_2 ((((le254.trans le261).trans le273).trans le280).trans le293))⟩), ⟨(tExpr_mk ⟨ar256_1_2, nr256_1_2, rfl, hbr256_1_2, (SlA.mono hsr256_1_2 ((le273.trans le280).trans le293))⟩), ⟨(tExpr_mk ⟨ar275_1_2, nr275_1_2, rfl, hbr275_1_2, (SlA.mono hsr275_1_2 le293)⟩), rfl⟩⟩⟩ (by simp)
       refine Vs 1 ?_
       refine St5 #[(vi 11), (vi 0), (.slice (some ⟨b295, 0, none⟩) [r237.2, r256.2, r275.2].length 3)] hs297 (fun w300 hs301 => ?_)
       refine Nt ?_
       refine Rt ?_
       have hb305 := RowR.bound hr299
       obtain ⟨F22, hs302, le303, hs304⟩ := hs301.fr0 hr299
       obtain rfl := some_inj h290
       exact ⟨rfl, (.agg #[(vi 11), (vi 0), (.slice (some ⟨b295, 0, none⟩) [r237.2, r256.2, r275.2].length 3)]), res_of (l := [.cell 2 33]) (by kernel_rfl) (vs := [(.agg #[(vi 11), (vi 0), (.slice (some ⟨b295, 0, none⟩) [r237.2, r256.2, r275.2].length 3)])]) ⟨b21, 0, rfl, run_loadVar' (t := 33) (g := true) (s := 3) (by kernel_rfl) hs302.at4 rfl (by decide), trivial⟩, F22, _, _, rfl, hs302.dr1.dr1.dr1.dr1, (((((((((((((le33.trans le63).trans le112).trans le130).trans le190).trans le228).trans le235).trans le242).trans le254).trans le261).trans le273).trans le280).trans le293).trans le303), ⟨ar288_0_0, nr288_0_0, (some ⟨b295, 0, none⟩), 3, rfl, rfl, hbr288_0_0, (SlA.mono hsr288_0_0 le303), hb305, hs304⟩⟩
end Go.Proofs.YtaihlcdkcampbaaGreatDoor
namespace Go.Proofs.YtaihlcdkcampbaaGreatDoor
open Go.Proofs
def ref06_reader_expr_L0 (N : Nat) (sR146 : pileupref06_reader → Option (pileupref06_reader × Expr)) (x0 : pileupref06_reader) (r24 : (pileupref06_reader × Expr)) : (Int × Int × List Expr × List pileupref06_token × Int × Int × Int × Int) → Option (Flow (pileupref06_reader × Expr) (Int × Int × List Expr × List pileupref06_token × Int × Int × Int × Int)) := fun s39 =>
 ((bif (s39.2.2.2.2.2.2.1 == 0) then ((ref06_reader_see N ({ L := s39.2.2.2.1, At := s39.2.2.2.2.1, Open := s39.2.2.2.2.2.1, Bad := s39.2.2.2.2.2.2.1, Where := s39.2.2.2.2.2.2.2 } : pileupref06_reader) ([111, 114] : List UInt8)).bind fun r74 => some r74) else some false).bind fun j63 => (bif j63 then ((sR146 ({ L := s39.2.2.2.1, At := (W64 (s39.2.2.2.2.1 + 1)), Open := s39.2.2.2.2.2.1, Bad := s39.2.2.2.2.2.2.1, Where := s39.2.2.2.2.2.2.2 } : pileupref06_reader)).bind fun r86 => ((ref06_pair N 5 ({ Op := s39.1, Value := s39.2.1, Kids := s39.2.2.1 } : Expr) r86.2).bind fun r98 => some (.next (r98.Op, r98.Value, r98.Kids, r86.1.L, r86.1.At, r86.1.Open, r86.1.Bad, r86.1.Where)))) else some (.done (s39.1, s39.2.1, s39.2.2.1, s39.2.2.2.1, s39.2.2.2.2.1, s39.2.2.2.2.2.1, s39.2.2.2.2.2.2.1, s39.2.2.2.2.2.2.2))))
def ref06_reader_expr_S (N : Nat) (sR146 : pileupref06_reader → Option (pileupref06_reader × Expr)) (x0 : pileupref06_reader) : Option (pileupref06_reader × Expr) :=
 ((sR146 x0).bind fun r24 => ((iter (ref06_reader_expr_L0 N sR146 x0 r24) N (r24.2.Op, r24.2.Value, r24.2.Kids, r24.1.L, r24.1.At, r24.1.Open, r24.1.Bad, r24.1.Where)).bind fun o => o.k (fun r => some r) (fun s47 => some (({ L := s47.2.2.2.1, At := s47.2.2.2.2.1, Open := s47.2.2.2.2.2.1, Bad := s47.2.2.2.2.2.2.1, Where := s47.2.2.2.2.2.2.2 } : pileupref06_reader), ({ Op := s47.1, Value := s47.2.1, Kids := s47.2.2.1 } : Expr)))))
theorem cS_ref06_reader_expr (N : Nat) (sR146 : pileupref06_reader → Option (pileupref06_reader × Expr)) (hsR146 : Self146 sR146) {wb w0 : World} {Fb F0 : Mem} {Lf : Own} (bp0 : Nat) (x0 : pileupref06_reader) (a0_0 : Option Addr) (n0_0 : Nat) (hb0_0 : LC x0.L.length n0_0) (hs0_0 : SlA tpileupref06_token F0 a0_0 x0.L) (hs0 : HS wb Fb w0 F0 ((sb bp0 (kpileupref06_reader x0 a0_0 n0_0) 108) :: Lf)) (r : (pileupref06_reader × Expr)) (h : ref06_reader_expr_S N sR146 x0 = some r) :
  Calls Tryz.prog 89 ([(pt bp0 0)] : List Value).toArray w0 (BRet wb Fb F0 fun F' v L' => ∃ (aq0_0 : Option Addr) (nq0_0 : Nat) (aq1_2 : Option Addr) (nq1_2 : Nat), v = (.agg (kExpr r.2 aq1_2 nq1_2)) ∧ L' = (sb bp0 (kpileupref06_reader r.1 aq0_0 nq0_0) 108) :: Lf ∧ LC r.1.L.length nq0_0 ∧ SlA tpileupref06_token F' aq0_0 r.1.L ∧ LC r.2.Kids.length nq1_2 ∧ SlA tExpr F' aq1_2 r.2.Kids) := by
 refine Go 29 Tryz.func89 ?_
 refine Sq (Rg [0] ?_)
 refine Al' 33 #[(vi 0), (vi 0), (.slice none ([] : List Expr).length 0)] hs0 (fun b21 w22 hs23 => ?_)
 refine Nss (Rg [0, 1, 2, 3] ?_)
 refine Vs 1 ?_
 obtain ⟨r24, hr25, h26⟩ := bind_some h
 refine CB co_ref06_reader_both (hsR146 bp0 (x0) a0_0 n0_0 hb0_0 hs0_0 hs23.pk1 _ hr25) ?_
 rintro _ F1 w27 _ hs28 le29 ⟨ar24_0_0, nr24_0_0, ar24_1_2, nr24_1_2, rfl, rfl, hbr24_0_0, hsr24_0_0, hbr24_1_2, hsr24_1_2⟩
 refine Al' 33 #[(vi 0), (vi 0), (.slice none ([] : List Expr).length 0)] hs28 (fun b31 w32 hs33 => ?_)
 refine St0 (kExpr r24.2 ar24_1_2 nr24_1_2) hs33 (fun w34 hs35 => ?_)
 refine Nss ?_
 obtain ⟨o36, ho37, h38⟩ := bind_some h26
 refine CWP.cut (fun f w => ∃ (s47 : (Int × Int × List Expr × List pileupref06_token × Int × Int × Int × Int)) (F3 : Mem) (as47_2 : Option Addr) (ns47_2 : Nat) (as47_3 : Option Addr) (ns47_3 : Nat), o36 = .done s47 ∧ HS wb Fb w F3 ((sb b31 #[(vi s47.1), (vi s47.2.1), (.slice as47_2 s47.2.2.1.length ns47_2)] 33) :: (sb bp0 #[(.slice as47_3 s47.2.2.2.1.length ns47_3), (vi s47.2.2.2.2.1), (vi s47.2.2.2.2.2.1), (vi s47.2.2.2.2.2.2.1), (vi s47.2.2.2.2.2.2.2)] 108) :: (sb b21 #[(vi 0), (vi 0), (.slice none ([] : List Expr).length 0)] 33) :: Lf) ∧ Mem.le F1 F3 ∧ FI f [] [(2, (pt b21 0)), (3, (pt b31 0))] ∧ LC s47.2.2.1.length ns47_2 ∧ SlA tExpr F3 as47_2 s47.2.2.1 ∧ LC s47.2.2.2.1.length ns47_3 ∧ SlA tpileupref06_token F3 as47_3 s47.2.2.2.1) ?_ ?_
 ·refine Bk ?_
  refine CWP.loop (by kernel_rfl) (fun m f w => ∃ (s39 : (Int × Int × List Expr × List pileupref06_token × Int × Int × Int × Int)) (F2 : Mem) (as39_2 : Option Addr) (ns39_2 : Nat) (as39_3 : Option Addr) (ns39_3 : Nat), iter (ref06_reader_expr_L0 N sR146 x0 r24) m s39 = some o36 ∧ HS wb Fb w F2 ((sb b31 #[(vi s39.1), (vi s39.2.1), (.slice as39_2 s39.2.2.1.length ns39_2)] 33) :: (sb bp0 #[(.slice as39_3 s39.2.2.2.1.length ns39_3), (vi s39.2.2.2.2.1), (vi s39.2.2.2.2.2.1), (vi s39.2.2.2.2.2.2.1), (vi s39.2.2.2.2.2.2.2)] 108) :: (sb b21 #[(vi 0), (vi 0), (.slice none ([] : List Expr).length 0)] 33) :: Lf) ∧ Mem.le F1 F2 ∧ FI f [] [(0, (pt bp0 0)), (2, (pt b21 0)), (3, (pt b31 0))] ∧ LC s39.2.2.1.length ns39_2 ∧ SlA tExpr F2 as39_2 s39.2.2.1 ∧ LC s39.2.2.2.1.length ns39_3 ∧ SlA tpileupref06_token F2 as39_3 s39.2.2.2.1) N ⟨(r24.2.Op, r24.2.Value, r24.2.Kids, r24.1.L, r24.1.At, r24.1.Open, r24.1.Bad, r24.1.Where), F1, ar24_1_2, nr24_1_2, ar24_0_0, nr24_0_0, ho37, hs35, (Mem.le.refl _), fI, hbr24_1_2, hsr24_1_2, hbr24_0_0, hsr24_0_0⟩ ?_
  rintro m54 f w40 ⟨s39, F2, as39_2, ns39_2, as39_3, ns39_3, hit55, hs41, le42, ⟨_, rfl⟩, hbs39_2, hss39_2, hbs39_3, hss39_3⟩
  obtain ⟨m56, fl57, rfl, hb58, hnx59⟩ := iter_step hit55
  refine Sq ?_
  refine Sq (Rg [0, 1, 2, 3, 4, 5, 6, 7, 8] ?_)
  obtain ⟨j63, hj69, h70⟩ := bind_some hb58
  refine RWP.cut (fun f w => ∃ (F4 : Mem), HS wb Fb w F4 ((sb b31 #[(vi s39.1), (vi s39.2.1), (.slice as39_2 s39.2.2.1.length ns39_2)] 33) :: (sb bp0 #[(.slice as39_3 s39.2.2.2.1.length ns39_3), (vi s39.2.2.2.2.1), (vi s39.2.2.2.2.2.1), (vi s39.2.2.2.2.2.2.1), (vi s39.2.2.2.2.2.2.2)] 108) :: (sb b21 #[(vi 0), (vi 0), (.slice none ([] : List Expr).length 0)] 33) :: Lf) ∧ Mem.le F2 F4 ∧ FI f [] [(0, (pt bp0 0)), (2, (pt b21 0)), (3, (pt b31 0)), (15, (.bool j63))]) ?_ ?_
  ·refine Vs 3 ?_
   refine Ld hs41.at1 ?_
   refine Vs 2 ?_
   refine Sp hj69 (fun hb71 h72 => ?_) (fun hb71 h73 => ?_)
   ·refine Vgs hb71 1 ?_
    obtain ⟨r74, hr75, h76⟩ := bind_some h72
    refine RWP.callB (dst := (some 14)) (ty := 4) (g := (some (5, true))) (by kernel_rfl) (gd_y (d := 12) (by kernel_rfl) rfl hb71) (f0 := (.func 142)) (aos := #[(.tmp 13), (.const (.string ⟨([111, 114] : List UInt8).toArray⟩))]) (ats := #[104, 9]) (fid := 142) (first := #[]) (cap := #[]) (args := [(pt bp0 0), (.string ⟨(([111, 114] : List UInt8)).toArray⟩)]) rfl co_ref06_reader_see (rfl) (c_ref06_reader_see N bp0 (({ L := s39.2.2.2.1, At := s39.2.2.2.2.1, Open := s39.2.2.2.2.2.1, Bad := s39.2.2.2.2.2.2.1, Where := s39.2.2.2.2.2.2.2 } : pileupref06_reader)) as39_3 ns39_3 hbs39_3 hss39_3 (([111, 114] : List UInt8)) hs41.pk2.pk1.pk2 _ hr75) ?_
    rintro _ F5 w77 _ hs78 le79 ⟨rfl, rfl⟩
    refine Pk1 hb71 ?_
    obtain rfl := some_inj h76
    exact RWP.nil ⟨rfl, F5, hs78.pk2.pk1.pk2, le79, fI⟩
   ·refine Ss hb71 2 ?_
    refine Pk0 hb71 ?_
    obtain rfl := some_inj h73
    exact RWP.nil ⟨rfl, F2, hs41, (Mem.le.refl _), fI⟩
  ·rintro f w60 ⟨F4, hs61, le62, ⟨_, rfl⟩⟩
   refine thenQ_nrm ?_
   refine Cd h70 (fun hb81 h82 => ?_) (fun hb81 h83 => ?_)
   ·refine Sc ?_
    refine thenQ_nrm ?_
    refine Bk ?_
    refine Sq (Rg [0, 1, 2, 3, 4, 5, 6, 7] ?_)
    refine Vs 3 ?_
    refine Ld hs61.at1 ?_
    refine Vs 3 ?_
    refine St1 #[(.slice as39_3 s39.2.2.2.1.length ns39_3), (vi (W64 (s39.2.2.2.2.1 + 1))), (vi s39.2.2.2.2.2.1), (vi s39.2.2.2.2.2.2.1), (vi s39.2.2.2.2.2.2.2)] hs61 (fun w84 hs85 => ?_)
    refine Nss (Rg [0, 1, 2, 3] ?_)
    refine Vs 1 ?_
    obtain ⟨r86, hr87, h88⟩ := bind_some h82
    refine CB co_ref06_reader_both (hsR146 bp0 (({ L := s39.2.2.2.1, At := (W64 (s39.2.2.2.2.1 + 1)), Open := s39.2.2.2.2.2.1, Bad := s39.2.2.2.2.2.2.1, Where := s39.2.2.2.2.2.2.2 } : pileupref06_reader)) as39_3 ns39_3 hbs39_3 (SlA.mono hss39_3 le62) hs85.pk2.pk1.pk2 _ hr87) ?_
    rintro _ F6 w89 _ hs90 le91 ⟨ar86_0_0, nr86_0_0, ar86_1_2, nr86_1_2, rfl, rfl, hbr86_0_0, hsr86_0_0, hbr86_1_2, hsr86_1_2⟩
    refine Al' 33 #[(vi 0), (vi 0), (.slice none ([] : List Expr).length 0)] hs90 (fun b93 w94 hs95 => ?_)
    refine St0 (kExpr r86.2 ar86_1_2 nr86_1_2) hs95 (fun w96 hs97 => ?_)
    refine Nt ?_
    refine Rg [0, 1, 2, 3] ?_
    refine Ld hs97.at2 ?_
    refine Ld hs97.at0 ?_
    obtain ⟨r98, hr99, h100⟩ := bind_some h88
    refine Cl' co_ref06_pair hs97 (c_ref06_pair N w96 F6 hs97.pers (5) (({ Op := s39.1, Value := s39.2.1, Kids := s39.2.2.1 } : Expr)) as39_2 ns39_2 hbs39_2 (SlA.mono hss39_2 (le62.trans le91)) (r86.2) ar86_1_2 nr86_1_2 hbr86_1_2 hsr86_1_2 _ hr99) ?_
    rintro _ F7 w102 hs103 le104 ⟨ar98_0_2, nr98_0_2, rfl, hbr98_0_2, hsr98_0_2⟩
    refine St2 (kExpr r98 ar98_0_2 nr98_0_2) hs103 (fun w106 hs107 => ?_)
    refine RWP.nil ?_
    refine blockQ_nrm ?_
    have hn108 := iter_next h100 hnx59
    exact ⟨m56, Nat.lt_succ_self _, (r98.Op, r98.Value, r98.Kids, r86.1.L, r86.1.At, r86.1.Open, r86.1.Bad, r86.1.Where), F7, ar98_0_2, nr98_0_2, ar86_0_0, nr86_0_0, hn108, hs107.dr0.pk2.pk1.pk2, (((le42.trans le62).trans le91).trans le104), fI, hbr98_0_2, hsr98_0_2, hbr86_0_0, (SlA.mono hsr86_0_0 le104)⟩
   ·refine Ex ?_
    refine thenQ_ex ?_
    refine thenQ_ex ?_
    refine blockQ_hit rfl ?_
    have ho109 := iter_done h83 hnx59
    exact .inl ⟨rfl, (s39.1, s39.2.1, s39.2.2.1, s39.2.2.2.1, s39.2.2.2.2.1, s39.2.2.2.2.2.1, s39.2.2.2.2.2.2.1, s39.2.2.2.2.2.2.2), F4, as39_2, ns39_2, as39_3, ns39_3, ho109, hs61, (le42.trans le62), fI, hbs39_2, (SlA.mono hss39_2 le62), hbs39_3, (SlA.mono hss39_3 le62)⟩
 ·rintro f w48 ⟨s47, F3, as47_2, ns47_2, as47_3, ns47_3, rfl, hs49, le50, ⟨_, rfl⟩, hbs47_2, hss47_2, hbs47_3, hss47_3⟩
  have h110 := k_done h38
  refine thenQ_nrm ?_
  refine Sq (Rg [0, 1] ?_)
  refine Ld hs49.at0 ?_
  refine St2 #[(vi s47.1), (vi s47.2.1), (.slice as47_2 s47.2.2.1.length ns47_2)] hs49 (fun w111 hs112 => ?_)
  refine Nt ?_
  refine Rt ?_
  obtain rfl := some_inj h110
  exact ⟨rfl, (.agg #[(vi s47.1), (vi s47.2.1), (.slice as47_2 s47.2.2.1.length ns47_2)]), res_of (l := [.cell 2 33]) (by kernel_rfl) (vs := [(.agg #[(vi s47.1), (vi s47.2.1), (.slice as47_2 s47.2.2.1.length ns47_2)])]) ⟨b21, 0, rfl, run_loadVar' (t := 33) (g := true) (s := 3) (by kernel_rfl) hs112.at2 rfl (by decide), trivial⟩, F3, _, _, rfl, hs112.dr0.dr1, (le29.trans le50), ⟨as47_3, ns47_3, as47_2, ns47_2, rfl, rfl, hbs47_3, hss47_3, hbs47_2, hss47_2⟩⟩
end Go.Proofs.YtaihlcdkcampbaaGreatDoor
namespace Go.Proofs.YtaihlcdkcampbaaGreatDoor
open Go.Proofs
structure Rec89 where
 q89 : pileupref06_reader → Option (pileupref06_reader × Expr)
 q146 : pileupref06_reader → Option (pileupref06_reader × Expr)
 q186 : pileupref06_reader → Option (pileupref06_reader × Expr)
 q213 : pileupref06_reader → Option (pileupref06_reader × Expr)
 q227 : pileupref06_reader → Option (pileupref06_reader × Expr)
 q234 : pileupref06_reader → Option (pileupref06_reader × Expr)
 q240 : pileupref06_reader → Option (pileupref06_reader × Expr)
def rec89 (N : Nat) : Nat → Rec89
 | 0 => ⟨fun _ => none, fun _ => none, fun _ => none, fun _ => none, fun _ => none, fun _ => none, fun _ => none⟩
 | k + 1 => ⟨ref06_reader_expr_S N (rec89 N k).q146, ref06_reader_both_S N (rec89 N k).q186, ref06_reader_deny_S N (rec89 N k).q186 (rec89 N k).q213, ref06_reader_test_S N (rec89 N k).q227, ref06_reader_sum_S N (rec89 N k).q234, ref06_reader_term_S N (rec89 N k).q240, ref06_reader_item_S N (rec89 N k).q89⟩
theorem rec89_ok (N : Nat) : ∀ k, Self89 (rec89 N k).q89 ∧ Self146 (rec89 N k).q146 ∧ Self186 (rec89 N k).q186 ∧ Self213 (rec89 N k).q213 ∧ Self227 (rec89 N k).q227 ∧ Self234 (rec89 N k).q234 ∧ Self240 (rec89 N k).q240
 | 0 => ⟨(by unfold Self89; intros; rename_i h; cases h), (by unfold Self146; intros; rename_i h; cases h), (by unfold Self186; intros; rename_i h; cases h), (by unfold Self213; intros; rename_i h; cases h), (by unfold Self227; intros; rename_i h; cases h), (by unfold Self234; intros; rename_i h; cases h), (by unfold Self240; intros; rename_i h; cases h)⟩
 | k + 1 => by
  have ih := rec89_ok N k
  exact ⟨@cS_ref06_reader_expr N (rec89 N k).q146 ih.2.1, @cS_ref06_reader_both N (rec89 N k).q186 ih.2.2.1, @cS_ref06_reader_deny N (rec89 N k).q186 ih.2.2.1 (rec89 N k).q213 ih.2.2.2.1, @cS_ref06_reader_test N (rec89 N k).q227 ih.2.2.2.2.1, @cS_ref06_reader_sum N (rec89 N k).q234 ih.2.2.2.2.2.1, @cS_ref06_reader_term N (rec89 N k).q240 ih.2.2.2.2.2.2, @cS_ref06_reader_item N (rec89 N k).q89 ih.1⟩
def ref06_reader_expr (N : Nat) (x0 : pileupref06_reader) : Option (pileupref06_reader × Expr) := (rec89 N N).q89 x0
theorem c_ref06_reader_expr (N : Nat) {wb w0 : World} {Fb F0 : Mem} {Lf : Own} (bp0 : Nat) (x0 : pileupref06_reader) (a0_0 : Option Addr) (n0_0 : Nat) (hb0_0 : LC x0.L.length n0_0) (hs0_0 : SlA tpileupref06_token F0 a0_0 x0.L) (hs0 : HS wb Fb w0 F0 ((some bp0, (.cells #[(.slice a0_0 x0.L.length n0_0), (.int .i64 x0.At), (.int .i64 x0.Open), (.int .i64 x0.Bad), (.int .i64 x0.Where)] 108 (0, 0))) :: Lf)) (r : (pileupref06_reader × Expr)) (h : ref06_reader_expr N x0 = some r) :
  Calls Tryz.prog 89 ([(.pointer (some ⟨bp0, 0, none⟩))] : List Value).toArray w0 (BRet wb Fb F0 fun F' v L' => ∃ (aq0_0 : Option Addr) (nq0_0 : Nat) (aq1_2 : Option Addr) (nq1_2 : Nat), v = (.agg #[(.int .i64 r.2.Op), (.int .i64 r.2.Value), (.slice aq1_2 r.2.Kids.length nq1_2)]) ∧ L' = (some bp0, (.cells #[(.slice aq0_0 r.1.L.length nq0_0), (.int .i64 r.1.At), (.int .i64 r.1.Open), (.int .i64 r.1.Bad), (.int .i64 r.1.Where)] 108 (0, 0))) :: Lf ∧ LC r.1.L.length nq0_0 ∧ SlA tpileupref06_token F' aq0_0 r.1.L ∧ LC r.2.Kids.length nq1_2 ∧ SlA tExpr F' aq1_2 r.2.Kids) := (rec89_ok N N).1 bp0 x0 a0_0 n0_0 hb0_0 hs0_0 hs0 r h
end Go.Proofs.YtaihlcdkcampbaaGreatDoor
namespace Go.Proofs.YtaihlcdkcampbaaGreatDoor
open Go.Proofs
def Self99 (sR99 : Expr → (List Int) → Option Int) : Prop := ∀ (w0 : World) (F0 : Mem) (hF : ∀ b o, F0 b = some o → w0.heap[b]? = some o) (x0 : Expr) (a0_2 : Option Addr) (n0_2 : Nat) (hb0_2 : LC x0.Kids.length n0_2) (hs0_2 : SlA tExpr F0 a0_2 x0.Kids) (x1 : (List Int)) (a1_0 : Option Addr) (n1_0 : Nat) (hb1_0 : LC x1.length n1_0) (hs1_0 : SlA tInt F0 a1_0 x1) (r : Int), sR99 x0 x1 = some r → Calls Tryz.prog 99 ([(.agg #[(.int .i64 x0.Op), (.int .i64 x0.Value), (.slice a0_2 x0.Kids.length n0_2)]), (.slice a1_0 x1.length n1_0)] : List Value).toArray w0 (FRet w0 F0 fun F' v => v = (.int .i64 r))
theorem co_rules_value : CallOk Tryz.prog 99 := fun _ _ => by kernel_rfl
def Self155 (sR155 : Int → Expr → (List Int) → Option Int) : Prop := ∀ (w0 : World) (F0 : Mem) (hF : ∀ b o, F0 b = some o → w0.heap[b]? = some o) (x0 : Int) (bz0 : Nat) (z0 : Expr) (az0_2 : Option Addr) (nz0_2 : Nat) (hbz0_2 : LC z0.Kids.length nz0_2) (hsz0_2 : SlA tExpr F0 az0_2 z0.Kids) (hz0 : F0 bz0 = some (.cells #[(.int .i64 z0.Op), (.int .i64 z0.Value), (.slice az0_2 z0.Kids.length nz0_2)] 33 (0, 0))) (bz1 : Nat) (z1 : (List Int)) (az1_0 : Option Addr) (nz1_0 : Nat) (hbz1_0 : LC z1.length nz1_0) (hsz1_0 : SlA tInt F0 az1_0 z1) (hz1 : F0 bz1 = some (.cells #[(.slice az1_0 z1.length nz1_0)] 47 (0, 0))) (r : Int), sR155 x0 z0 z1 = some r → Calls Tryz.prog 155 ([(.int .i64 x0), (.pointer (some ⟨bz0, 0, none⟩)), (.pointer (some ⟨bz1, 0, none⟩))] : List Value).toArray w0 (FRet w0 F0 fun F' v => v = (.int .i64 r))
theorem co_rules_value_1 : CallOk Tryz.prog 155 := fun _ _ => by kernel_rfl
end Go.Proofs.YtaihlcdkcampbaaGreatDoor
namespace Go.Proofs.YtaihlcdkcampbaaGreatDoor
open Go.Proofs
def rules_value_1_S (N : Nat) (sR99 : Expr → (List Int) → Option Int) (x0 : Int) (z0 : Expr) (z1 : (List Int)) : Option Int :=
 (((idx z0.Kids x0).bind fun x31 => ((sR99 x31 z1).bind fun r45 => some r45)).bind fun j26 => some j26)
theorem cS_rules_value_1 (N : Nat) (sR99 : Expr → (List Int) → Option Int) (hsR99 : Self99 sR99) (w0 : World) (F0 : Mem) (hF : ∀ b o, F0 b = some o → w0.heap[b]? = some o) (x0 : Int) (bz0 : Nat) (z0 : Expr) (az0_2 : Option Addr) (nz0_2 : Nat) (hbz0_2 : LC z0.Kids.length nz0_2) (hsz0_2 : SlA tExpr F0 az0_2 z0.Kids) (hz0 : F0 bz0 = some (oc (kExpr z0 az0_2 nz0_2) 33)) (bz1 : Nat) (z1 : (List Int)) (az1_0 : Option Addr) (nz1_0 : Nat) (hbz1_0 : LC z1.length nz1_0) (hsz1_0 : SlA tInt F0 az1_0 z1) (hz1 : F0 bz1 = some (oc #[(.slice az1_0 z1.length nz1_0)] 47)) (r : Int) (h : rules_value_1_S N sR99 x0 z0 z1 = some r) :
  Calls Tryz.prog 155 ([(vi x0), (pt bz0 0), (pt bz1 0)] : List Value).toArray w0 (FRet w0 F0 fun F' v => v = (vi r)) := by
 have hs0 := HS.start hF
 refine Go 12 Tryz.func155 ?_
 refine Sq (Rg [0] ?_)
 refine Vs 1 ?_
 refine Nss ?_
 obtain ⟨j26, hj29, h30⟩ := bind_some h
 refine RD 8 8 [] [] hs0 (fun f w => ∃ (F1 : Mem), HS w0 F0 w F1 [] ∧ Mem.le F0 F1 ∧ FI f [] [(4, (vi j26))]) (fun wd21 hw22 => ?_) ?_
 ·refine Dv [0] ?_
  refine Dl 1 (fun _ hq => (hq.1.1 _ _ hz0)) ?_
  refine Dv [2] ?_
  obtain ⟨x31, hx32, h34⟩ := bind_some hj29
  obtain ⟨hi33, hx32'⟩ := idx_spec hx32
  obtain ⟨b35, o36, C37, E38, fz39, rfl, hF41, hE42⟩ := SlA.open hsz0_2 hx32'
  obtain ⟨ae43_2, ne43_2, hc44, hbe43_2, hse43_2⟩ := (tExpr_open (hE42 _ _ hx32'))
  refine Di 3 hi33 ?_
  refine Dx 4 0 (fun _ hq => hq.1.1 _ _ hF41) hc44 ?_
  refine Dl 5 (fun _ hq => (hq.1.1 _ _ hz1)) ?_
  refine D1 6 ?_
  obtain ⟨r45, hr46, h47⟩ := bind_some h34
  refine DCl co_rules_value hw22 (hsR99 wd21 F0 hw22.pers (x31) ae43_2 ne43_2 hbe43_2 hse43_2 (z1) az1_0 nz1_0 hbz1_0 hsz1_0 _ hr46) ?_
  rintro _ F2 w49 hs50 le51 rfl
  refine Dv [7] ?_
  obtain rfl := some_inj h47
  exact DWP.done (by kernel_rfl) ⟨F2, hs50, le51, fI⟩
 ·rintro f w23 ⟨F1, hs24, le25, ⟨_, rfl⟩⟩
  refine thenQ_nrm ?_
  refine Rt ?_
  obtain rfl := some_inj h30
  exact Re [(vi j26)] hs24 rfl
end Go.Proofs.YtaihlcdkcampbaaGreatDoor
namespace Go.Proofs.YtaihlcdkcampbaaGreatDoor
open Go.Proofs
def rules_one (N : Nat) (x0 : Bool) : Option Int :=
 (bif x0 then some 1 else some 0)
theorem co_rules_one : CallOk Tryz.prog 156 := fun _ _ => by kernel_rfl
theorem c_rules_one (N : Nat) (w0 : World) (F0 : Mem) (hF : ∀ b o, F0 b = some o → w0.heap[b]? = some o) (x0 : Bool) (r : Int) (h : rules_one N x0 = some r) :
  Calls Tryz.prog 156 ([(.bool x0)] : List Value).toArray w0 (FRet w0 F0 fun F' v => v = (vi r)) := by
 have hs0 := HS.start hF
 refine Go 4 Tryz.func156 ?_
 refine Sq (Rg [0] ?_)
 refine Vs 1 ?_
 refine Nss ?_
 refine Sq (Rg [0] ?_)
 refine Vs 1 ?_
 refine Nt ?_
 refine Cd h (fun hb21 h22 => ?_) (fun hb21 h23 => ?_)
 ·refine Sq (Rg [0] ?_)
  refine Vs 1 ?_
  refine Nt ?_
  refine Rt ?_
  refine thenQ_ret ?_
  obtain rfl := some_inj h22
  exact Re [(vi 1)] hs0 rfl
 ·refine Sc ?_
  refine thenQ_nrm ?_
  refine Sq (Rg [0] ?_)
  refine Vs 1 ?_
  refine Nt ?_
  refine Rt ?_
  obtain rfl := some_inj h23
  exact Re [(vi 0)] hs0 rfl
end Go.Proofs.YtaihlcdkcampbaaGreatDoor
namespace Go.Proofs.YtaihlcdkcampbaaGreatDoor
open Go.Proofs
def rules_held (N : Nat) (x0 : Int) : Option Int :=
 some (max (-1000000) (min 1000000 x0))
theorem co_rules_held : CallOk Tryz.prog 157 := fun _ _ => by kernel_rfl
theorem c_rules_held (N : Nat) (w0 : World) (F0 : Mem) (hF : ∀ b o, F0 b = some o → w0.heap[b]? = some o) (x0 : Int) (r : Int) (h : rules_held N x0 = some r) :
  Calls Tryz.prog 157 ([(vi x0)] : List Value).toArray w0 (FRet w0 F0 fun F' v => v = (vi r)) := by
 have hs0 := HS.start hF
 refine Go 6 Tryz.func157 ?_
 refine Sq (Rg [0] ?_)
 refine Vs 1 ?_
 refine Nss (Rg [0, 1, 2, 3] ?_)
 refine Vs 4 ?_
 refine Nt ?_
 refine Rt ?_
 obtain rfl := some_inj h
 exact Re [(vi (max (-1000000) (min 1000000 x0)))] hs0 rfl
end Go.Proofs.YtaihlcdkcampbaaGreatDoor
namespace Go.Proofs.YtaihlcdkcampbaaGreatDoor
open Go.Proofs
def rules_value_S (N : Nat) (sR155 : Int → Expr → (List Int) → Option Int) (x0 : Expr) (x1 : (List Int)) : Option Int :=
 (bif (x0.Op == 1) then some x0.Value else (bif (x0.Op == 2) then ((idx x1 x0.Value).bind fun x33 => some x33) else (bif (x0.Op == 3) then ((sR155 0 x0 x1).bind fun r56 => some (W64 (1 - r56))) else (bif (x0.Op == 4) then ((sR155 0 x0 x1).bind fun r73 => ((sR155 1 x0 x1).bind fun r81 => some (W64 (r73 * r81)))) else (bif (x0.Op == 5) then ((sR155 0 x0 x1).bind fun r98 => ((sR155 1 x0 x1).bind fun r106 => some (max r98 r106))) else (bif (x0.Op == 6) then ((sR155 0 x0 x1).bind fun r123 => ((sR155 1 x0 x1).bind fun r131 => ((rules_one N (r123 == r131)).bind fun r139 => some r139))) else (bif (x0.Op == 7) then ((sR155 0 x0 x1).bind fun r156 => ((sR155 1 x0 x1).bind fun r164 => ((rules_one N (decide (r156 < r164))).bind fun r172 => some r172))) else (bif (x0.Op == 8) then ((sR155 0 x0 x1).bind fun r189 => ((sR155 1 x0 x1).bind fun r197 => ((rules_held N (W64 (r189 + r197))).bind fun r205 => some r205))) else (bif (x0.Op == 9) then ((sR155 0 x0 x1).bind fun r222 => ((sR155 1 x0 x1).bind fun r230 => ((rules_held N (W64 (r222 - r230))).bind fun r238 => some r238))) else (bif (x0.Op == 10) then ((sR155 0 x0 x1).bind fun r255 => ((sR155 1 x0 x1).bind fun r263 => ((rules_held N (W64 (r255 * r263))).bind fun r271 => some r271))) else (bif (x0.Op == 11) then ((sR155 0 x0 x1).bind fun r288 => ((sR155 (W64 (2 - r288)) x0 x1).bind fun r296 => some r296)) else some 0)))))))))))
theorem cS_rules_value (N : Nat) (sR155 : Int → Expr → (List Int) → Option Int) (hsR155 : Self155 sR155) (w0 : World) (F0 : Mem) (hF : ∀ b o, F0 b = some o → w0.heap[b]? = some o) (x0 : Expr) (a0_2 : Option Addr) (n0_2 : Nat) (hb0_2 : LC x0.Kids.length n0_2) (hs0_2 : SlA tExpr F0 a0_2 x0.Kids) (x1 : (List Int)) (a1_0 : Option Addr) (n1_0 : Nat) (hb1_0 : LC x1.length n1_0) (hs1_0 : SlA tInt F0 a1_0 x1) (r : Int) (h : rules_value_S N sR155 x0 x1 = some r) :
  Calls Tryz.prog 99 ([(.agg (kExpr x0 a0_2 n0_2)), (.slice a1_0 x1.length n1_0)] : List Value).toArray w0 (FRet w0 F0 fun F' v => v = (vi r)) := by
 have hs0 := HS.start hF
 refine Go 86 Tryz.func99 ?_
 refine Sq (Rg [0, 1, 2] ?_)
 refine Bx' 33 (kExpr x0 a0_2 n0_2) hs0 (fun b21 w22 hs23 => ?_)
 refine Bx' 47 #[(.slice a1_0 x1.length n1_0)] hs23 (fun b24 w25 hs26 => ?_)
 refine Vs 1 ?_
 refine Nss (Rg [0, 1] ?_)
 refine Vs 2 ?_
 refine Nss ?_
 refine Sq (Rg [0, 1] ?_)
 refine Vs 1 ?_
 refine Ld hs26.at1 ?_
 refine Nt ?_
 refine Bk ?_
 refine Sq (Rg [0, 1] ?_)
 refine Vs 2 ?_
 refine Nt ?_
 refine Cd h (fun hb27 h28 => ?_) (fun hb27 h29 => ?_)
 ·refine Sq (Rg [0, 1, 2] ?_)
  refine Vs 1 ?_
  refine Ld hs26.at1 ?_
  refine Vs 1 ?_
  refine Nt ?_
  refine Rt ?_
  refine blockQ_ret ?_
  refine thenQ_ret ?_
  obtain rfl := some_inj h28
  exact Re [(vi x0.Value)] hs26 rfl
 ·refine Sq (Rg [0, 1] ?_)
  refine Vs 2 ?_
  refine Nt ?_
  refine Cd h29 (fun hb30 h31 => ?_) (fun hb30 h32 => ?_)
  ·refine Sq (Rg [0, 1, 2, 3, 4, 5] ?_)
   refine Ld hs26.at0 ?_
   refine Vs 1 ?_
   refine Ld hs26.at1 ?_
   obtain ⟨x33, hx34, h36⟩ := bind_some h31
   obtain ⟨hi35, hx34'⟩ := idx_spec hx34
   obtain ⟨b37, o38, C39, E40, fz41, rfl, hF43, hE44⟩ := SlA.open hs1_0 hx34'
   have hc46 := hE44 _ _ hx34'
   refine Ix hi35 ?_
   refine Lx 0 (hs26.pers _ _ hF43) hc46 ?_
   refine Vs 1 ?_
   refine Nt ?_
   refine Rt ?_
   refine blockQ_ret ?_
   refine thenQ_ret ?_
   obtain rfl := some_inj h36
   exact Re [(vi x33)] hs26 rfl
  ·refine Sq (Rg [0, 1] ?_)
   refine Vs 2 ?_
   refine Nt ?_
   refine Cd h32 (fun hb47 h48 => ?_) (fun hb47 h49 => ?_)
   ·refine Sq (Rg [0, 1, 2, 3] ?_)
    refine Vs 1 ?_
    obtain ⟨F1, hs50, le51, hF52⟩ := hs26.fc1
    obtain ⟨F2, hs53, le54, hF55⟩ := hs50.fc0
    obtain ⟨r56, hr57, h58⟩ := bind_some h48
    refine Cl' co_rules_value_1 hs53 (hsR155 w25 F2 hs53.pers (0) b21 x0 a0_2 n0_2 hb0_2 (SlA.mono hs0_2 (le51.trans le54)) (le54 _ _ hF52) b24 x1 a1_0 n1_0 hb1_0 (SlA.mono hs1_0 (le51.trans le54)) hF55 _ hr57) ?_
    rintro _ F3 w60 hs61 le62 rfl
    refine Vs 2 ?_
    refine Nt ?_
    refine Rt ?_
    refine blockQ_ret ?_
    refine thenQ_ret ?_
    obtain rfl := some_inj h58
    exact Re [(vi (W64 (1 - r56)))] hs61 rfl
   ·refine Sq (Rg [0, 1] ?_)
    refine Vs 2 ?_
    refine Nt ?_
    refine Cd h49 (fun hb64 h65 => ?_) (fun hb64 h66 => ?_)
    ·refine Sq (Rg [0, 1, 2, 3, 4, 5] ?_)
     refine Vs 1 ?_
     obtain ⟨F4, hs67, le68, hF69⟩ := hs26.fc1
     obtain ⟨F5, hs70, le71, hF72⟩ := hs67.fc0
     obtain ⟨r73, hr74, h75⟩ := bind_some h65
     refine Cl' co_rules_value_1 hs70 (hsR155 w25 F5 hs70.pers (0) b21 x0 a0_2 n0_2 hb0_2 (SlA.mono hs0_2 (le68.trans le71)) (le71 _ _ hF69) b24 x1 a1_0 n1_0 hb1_0 (SlA.mono hs1_0 (le68.trans le71)) hF72 _ hr74) ?_
     rintro _ F6 w77 hs78 le79 rfl
     refine Vs 1 ?_
     obtain ⟨r81, hr82, h83⟩ := bind_some h75
     refine Cl' co_rules_value_1 hs78 (hsR155 w77 F6 hs78.pers (1) b21 x0 a0_2 n0_2 hb0_2 (SlA.mono hs0_2 ((le68.trans le71).trans le79)) ((le71.trans le79) _ _ hF69) b24 x1 a1_0 n1_0 hb1_0 (SlA.mono hs1_0 ((le68.trans le71).trans le79)) (le79 _ _ hF72) _ hr82) ?_
     rintro _ F7 w85 hs86 le87 rfl
     refine Vs 2 ?_
     refine Nt ?_
     refine Rt ?_
     refine blockQ_ret ?_
     refine thenQ_ret ?_
     obtain rfl := some_inj h83
     exact Re [(vi (W64 (r73 * r81)))] hs86 rfl
    ·refine Sq (Rg [0, 1] ?_)
     refine Vs 2 ?_
     refine Nt ?_
     refine Cd h66 (fun hb89 h90 => ?_) (fun hb89 h91 => ?_)
     ·refine Sq (Rg [0, 1, 2, 3, 4, 5] ?_)
      refine Vs 1 ?_
      obtain ⟨F8, hs92, le93, hF94⟩ := hs26.fc1
      obtain ⟨F9, hs95, le96, hF97⟩ := hs92.fc0
      obtain ⟨r98, hr99, h100⟩ := bind_some h90
      refine Cl' co_rules_value_1 hs95 (hsR155 w25 F9 hs95.pers (0) b21 x0 a0_2 n0_2 hb0_2 (SlA.mono hs0_2 (le93.trans le96)) (le96 _ _ hF94) b24 x1 a1_0 n1_0 hb1_0 (SlA.mono hs1_0 (le93.trans le96)) hF97 _ hr99) ?_
      rintro _ F10 w102 hs103 le104 rfl
      refine Vs 1 ?_
      obtain ⟨r106, hr107, h108⟩ := bind_some h100
      refine Cl' co_rules_value_1 hs103 (hsR155 w102 F10 hs103.pers (1) b21 x0 a0_2 n0_2 hb0_2 (SlA.mono hs0_2 ((le93.trans le96).trans le104)) ((le96.trans le104) _ _ hF94) b24 x1 a1_0 n1_0 hb1_0 (SlA.mono hs1_0 ((le93.trans le96).trans le104)) (le104 _ _ hF97) _ hr107) ?_
      rintro _ F11 w110 hs111 le112 rfl
      refine Vs 2 ?_
      refine Nt ?_
      refine Rt ?_
      refine blockQ_ret ?_
      refine thenQ_ret ?_
      obtain rfl := some_inj h108
      exact Re [(vi (max r98 r106))] hs111 rfl
     ·refine Sq (Rg [0, 1] ?_)
      refine Vs 2 ?_
      refine Nt ?_
      refine Cd h91 (fun hb114 h115 => ?_) (fun hb114 h116 => ?_)
      ·refine Sq (Rg [0, 1, 2, 3, 4, 5, 6] ?_)
       refine Vs 1 ?_
       obtain ⟨F12, hs117, le118, hF119⟩ := hs26.fc1
       obtain ⟨F13, hs120, le121, hF122⟩ := hs117.fc0
       obtain ⟨r123, hr124, h125⟩ := bind_some h115
       refine Cl' co_rules_value_1 hs120 (hsR155 w25 F13 hs120.pers (0) b21 x0 a0_2 n0_2 hb0_2 (SlA.mono hs0_2 (le118.trans le121)) (le121 _ _ hF119) b24 x1 a1_0 n1_0 hb1_0 (SlA.mono hs1_0 (le118.trans le121)) hF122 _ hr124) ?_
       rintro _ F14 w127 hs128 le129 rfl
       refine Vs 1 ?_
       obtain ⟨r131, hr132, h133⟩ := bind_some h125
       refine Cl' co_rules_value_1 hs128 (hsR155 w127 F14 hs128.pers (1) b21 x0 a0_2 n0_2 hb0_2 (SlA.mono hs0_2 ((le118.trans le121).trans le129)) ((le121.trans le129) _ _ hF119) b24 x1 a1_0 n1_0 hb1_0 (SlA.mono hs1_0 ((le118.trans le121).trans le129)) (le129 _ _ hF122) _ hr132) ?_
       rintro _ F15 w135 hs136 le137 rfl
       refine Vs 1 ?_
       obtain ⟨r139, hr140, h141⟩ := bind_some h133
       refine Cl' co_rules_one hs136 (c_rules_one N w135 F15 hs136.pers ((r123 == r131)) _ hr140) ?_
       rintro _ F16 w143 hs144 le145 rfl
       refine Vs 1 ?_
       refine Nt ?_
       refine Rt ?_
       refine blockQ_ret ?_
       refine thenQ_ret ?_
       obtain rfl := some_inj h141
       exact Re [(vi r139)] hs144 rfl
      ·refine Sq (Rg [0, 1] ?_)
       refine Vs 2 ?_
       refine Nt ?_
       refine Cd h116 (fun hb147 h148 => ?_) (fun hb147 h149 => ?_)
       ·refine Sq (Rg [0, 1, 2, 3, 4, 5, 6] ?_)
        refine Vs 1 ?_
        obtain ⟨F17, hs150, le151, hF152⟩ := hs26.fc1
        obtain ⟨F18, hs153, le154, hF155⟩ := hs150.fc0
        obtain ⟨r156, hr157, h158⟩ := bind_some h148
        refine Cl' co_rules_value_1 hs153 (hsR155 w25 F18 hs153.pers (0) b21 x0 a0_2 n0_2 hb0_2 (SlA.mono hs0_2 (le151.trans le154)) (le154 _ _ hF152) b24 x1 a1_0 n1_0 hb1_0 (SlA.mono hs1_0 (le151.trans le154)) hF155 _ hr157) ?_
        rintro _ F19 w160 hs161 le162 rfl
        refine Vs 1 ?_
        obtain ⟨r164, hr165, h166⟩ := bind_some h158
        refine Cl' co_rules_value_1 hs161 (hsR155 w160 F19 hs161.pers (1) b21 x0 a0_2 n0_2 hb0_2 (SlA.mono hs0_2 ((le151.trans le154).trans le162)) ((le154.trans le162) _ _ hF152) b24 x1 a1_0 n1_0 hb1_0 (SlA.mono hs1_0 ((le151.trans le154).trans le162)) (le162 _ _ hF155) _ hr165) ?_
        rintro _ F20 w168 hs169 le170 rfl
        refine Vs 1 ?_
        obtain ⟨r172, hr173, h174⟩ := bind_some h166
        refine Cl' co_rules_one hs169 (c_rules_one N w168 F20 hs169.pers ((decide (r156 < r164))) _ hr173) ?_
        rintro _ F21 w176 hs177 le178 rfl
        refine Vs 1 ?_
        refine Nt ?_
        refine Rt ?_
        refine blockQ_ret ?_
        refine thenQ_ret ?_
        obtain rfl := some_inj h174
        exact Re [(vi r172)] hs177 rfl
       ·refine Sq (Rg [0, 1] ?_)
        refine Vs 2 ?_
        refine Nt ?_
        refine Cd h149 (fun hb180 h181 => ?_) (fun hb180 h182 => ?_)
        ·refine Sq (Rg [0, 1, 2, 3, 4, 5, 6] ?_)
         refine Vs 1 ?_
         obtain ⟨F22, hs183, le184, hF185⟩ := hs26.fc1
         obtain ⟨F23, hs186, le187, hF188⟩ := hs183.fc0
         obtain ⟨r189, hr190, h191⟩ := bind_some h181
         refine Cl' co_rules_value_1 hs186 (hsR155 w25 F23 hs186.pers (0) b21 x0 a0_2 n0_2 hb0_2 (SlA.mono hs0_2 (le184.trans le187)) (le187 _ _ hF185) b24 x1 a1_0 n1_0 hb1_0 (SlA.mono hs1_0 (le184.trans le187)) hF188 _ hr190) ?_
         rintro _ F24 w193 hs194 le195 rfl
         refine Vs 1 ?_
         obtain ⟨r197, hr198, h199⟩ := bind_some h191
         refine Cl' co_rules_value_1 hs194 (hsR155 w193 F24 hs194.pers (1) b21 x0 a0_2 n0_2 hb0_2 (SlA.mono hs0_2 ((le184.trans le187).trans le195)) ((le187.trans le195) _ _ hF185) b24 x1 a1_0 n1_0 hb1_0 (SlA.mono hs1_0 ((le184.trans le187).trans le195)) (le195 _ _ hF188) _ hr198) ?_
         rintro _ F25 w201 hs202 le203 rfl
         refine Vs 1 ?_
         obtain ⟨r205, hr206, h207⟩ := bind_some h199
         refine Cl' co_rules_held hs202 (c_rules_held N w201 F25 hs202.pers ((W64 (r189 + r197))) _ hr206) ?_
         rintro _ F26 w209 hs210 le211 rfl
         refine Vs 1 ?_
         refine Nt ?_
         refine Rt ?_
         refine blockQ_ret ?_
         refine thenQ_ret ?_
         obtain rfl := some_inj h207
         exact Re [(vi r205)] hs210 rfl
        ·refine Sq (Rg [0, 1] ?_)
         refine Vs 2 ?_
         refine Nt ?_
         refine Cd h182 (fun hb213 h214 => ?_) (fun hb213 h215 => ?_)
         ·refine Sq (Rg [0, 1, 2, 3, 4, 5, 6] ?_)
          refine Vs 1 ?_
          obtain ⟨F27, hs216, le217, hF218⟩ := hs26.fc1
          obtain ⟨F28, hs219, le220, hF221⟩ := hs216.fc0
          obtain ⟨r222, hr223, h224⟩ := bind_some h214
          refine Cl' co_rules_value_1 hs219 (hsR155 w25 F28 hs219.pers (0) b21 x0 a0_2 n0_2 hb0_2 (SlA.mono hs0_2 (le217.trans le220)) (le220 _ _ hF218) b24 x1 a1_0 n1_0 hb1_0 (SlA.mono hs1_0 (le217.trans le220)) hF221 _ hr223) ?_
          rintro _ F29 w226 hs227 le228 rfl
          refine Vs 1 ?_
          obtain ⟨r230, hr231, h232⟩ := bind_some h224
          refine Cl' co_rules_value_1 hs227 (hsR155 w226 F29 hs227.pers (1) b21 x0 a0_2 n0_2 hb0_2 (SlA.mono hs0_2 ((le217.trans le220).trans le228)) ((le220.trans le228) _ _ hF218) b24 x1 a1_0 n1_0 hb1_0 (SlA.mono hs1_0 ((le217.trans le220).trans le228)) (le228 _ _ hF221) _ hr231) ?_
          rintro _ F30 w234 hs235 le236 rfl
          refine Vs 1 ?_
          obtain ⟨r238, hr239, h240⟩ := bind_some h232
          refine Cl' co_rules_held hs235 (c_rules_held N w234 F30 hs235.pers ((W64 (r222 - r230))) _ hr239) ?_
          rintro _ F31 w242 hs243 le244 rfl
          refine Vs 1 ?_
          refine Nt ?_
          refine Rt ?_
          refine blockQ_ret ?_
          refine thenQ_ret ?_
          obtain rfl := some_inj h240
          exact Re [(vi r238)] hs243 rfl
         ·refine Sq (Rg [0, 1] ?_)
          refine Vs 2 ?_
          refine Nt ?_
          refine Cd h215 (fun hb246 h247 => ?_) (fun hb246 h248 => ?_)
          ·refine Sq (Rg [0, 1, 2, 3, 4, 5, 6] ?_)
           refine Vs 1 ?_
           obtain ⟨F32, hs249, le250, hF251⟩ := hs26.fc1
           obtain ⟨F33, hs252, le253, hF254⟩ := hs249.fc0
           obtain ⟨r255, hr256, h257⟩ := bind_some h247
           refine Cl' co_rules_value_1 hs252 (hsR155 w25 F33 hs252.pers (0) b21 x0 a0_2 n0_2 hb0_2 (SlA.mono hs0_2 (le250.trans le253)) (le253 _ _ hF251) b24 x1 a1_0 n1_0 hb1_0 (SlA.mono hs1_0 (le250.trans le253)) hF254 _ hr256) ?_
           rintro _ F34 w259 hs260 le261 rfl
           refine Vs 1 ?_
           obtain ⟨r263, hr264, h265⟩ := bind_some h257
           refine Cl' co_rules_value_1 hs260 (hsR155 w259 F34 hs260.pers (1) b21 x0 a0_2 n0_2 hb0_2 (SlA.mono hs0_2 ((le250.trans le253).trans le261)) ((le253.trans le261) _ _ hF251) b24 x1 a1_0 n1_0 hb1_0 (SlA.mono hs1_0 ((le250.trans le253).trans le261)) (le261 _ _ hF254) _ hr264) ?_
           rintro _ F35 w267 hs268 le269 rfl
           refine Vs 1 ?_
           obtain ⟨r271, hr272, h273⟩ := bind_some h265
           refine Cl' co_rules_held hs268 (c_rules_held N w267 F35 hs268.pers ((W64 (r255 * r263))) _ hr272) ?_
           rintro _ F36 w275 hs276 le277 rfl
           refine Vs 1 ?_
           refine Nt ?_
           refine Rt ?_
           refine blockQ_ret ?_
           refine thenQ_ret ?_
           obtain rfl := some_inj h273
           exact Re [(vi r271)] hs276 rfl
          ·refine Sq (Rg [0, 1] ?_)
           refine Vs 2 ?_
           refine Nt ?_
           refine Cd h248 (fun hb279 h280 => ?_) (fun hb279 h281 => ?_)
           ·refine Sq (Rg [0, 1, 2, 3, 4, 5] ?_)
            refine Vs 2 ?_
            obtain ⟨F37, hs282, le283, hF284⟩ := hs26.fc1
            obtain ⟨F38, hs285, le286, hF287⟩ := hs282.fc0
            obtain ⟨r288, hr289, h290⟩ := bind_some h280
            refine Cl' co_rules_value_1 hs285 (hsR155 w25 F38 hs285.pers (0) b21 x0 a0_2 n0_2 hb0_2 (SlA.mono hs0_2 (le283.trans le286)) (le286 _ _ hF284) b24 x1 a1_0 n1_0 hb1_0 (SlA.mono hs1_0 (le283.trans le286)) hF287 _ hr289) ?_
            rintro _ F39 w292 hs293 le294 rfl
            refine Vs 1 ?_
            obtain ⟨r296, hr297, h298⟩ := bind_some h290
            refine Cl' co_rules_value_1 hs293 (hsR155 w292 F39 hs293.pers ((W64 (2 - r288))) b21 x0 a0_2 n0_2 hb0_2 (SlA.mono hs0_2 ((le283.trans le286).trans le294)) ((le286.trans le294) _ _ hF284) b24 x1 a1_0 n1_0 hb1_0 (SlA.mono hs1_0 ((le283.trans le286).trans le294)) (le294 _ _ hF287) _ hr297) ?_
            rintro _ F40 w300 hs301 le302 rfl
            refine Vs 1 ?_
            refine Nt ?_
            refine Rt ?_
            refine blockQ_ret ?_
            refine thenQ_ret ?_
            obtain rfl := some_inj h298
            exact Re [(vi r296)] hs301 rfl
           ·refine Sc ?_
            refine blockQ_nrm ?_
            refine thenQ_nrm ?_
            refine Sq (Rg [0] ?_)
            refine Vs 1 ?_
            refine Nt ?_
            refine Rt ?_
            obtain rfl := some_inj h281
            exact Re [(vi 0)] hs26 rfl
end Go.Proofs.YtaihlcdkcampbaaGreatDoor
namespace Go.Proofs.YtaihlcdkcampbaaGreatDoor
open Go.Proofs
structure Rec99 where
 q99 : Expr → (List Int) → Option Int
 q155 : Int → Expr → (List Int) → Option Int
def rec99 (N : Nat) : Nat → Rec99
 | 0 => ⟨fun _ _ => none, fun _ _ _ => none⟩
 | k + 1 => ⟨rules_value_S N (rec99 N k).q155, rules_value_1_S N (rec99 N k).q99⟩
theorem rec99_ok (N : Nat) : ∀ k, Self99 (rec99 N k).q99 ∧ Self155 (rec99 N k).q155
 | 0 => ⟨(by unfold Self99; intros; rename_i h; cases h), (by unfold Self155; intros; rename_i h; cases h)⟩
 | k + 1 => by
  have ih := rec99_ok N k
  exact ⟨@cS_rules_value N (rec99 N k).q155 ih.2, @cS_rules_value_1 N (rec99 N k).q99 ih.1⟩
def rules_value (N : Nat) (x0 : Expr) (x1 : (List Int)) : Option Int := (rec99 N N).q99 x0 x1
theorem c_rules_value (N : Nat) (w0 : World) (F0 : Mem) (hF : ∀ b o, F0 b = some o → w0.heap[b]? = some o) (x0 : Expr) (a0_2 : Option Addr) (n0_2 : Nat) (hb0_2 : LC x0.Kids.length n0_2) (hs0_2 : SlA tExpr F0 a0_2 x0.Kids) (x1 : (List Int)) (a1_0 : Option Addr) (n1_0 : Nat) (hb1_0 : LC x1.length n1_0) (hs1_0 : SlA tInt F0 a1_0 x1) (r : Int) (h : rules_value N x0 x1 = some r) :
  Calls Tryz.prog 99 ([(.agg #[(.int .i64 x0.Op), (.int .i64 x0.Value), (.slice a0_2 x0.Kids.length n0_2)]), (.slice a1_0 x1.length n1_0)] : List Value).toArray w0 (FRet w0 F0 fun F' v => v = (.int .i64 r)) := (rec99_ok N N).1 w0 F0 hF x0 a0_2 n0_2 hb0_2 hs0_2 x1 a1_0 n1_0 hb1_0 hs1_0 r h
end Go.Proofs.YtaihlcdkcampbaaGreatDoor
namespace Go.Proofs.YtaihlcdkcampbaaGreatDoor
open Go.Proofs
end Go.Proofs.YtaihlcdkcampbaaGreatDoor
namespace Go.Proofs.YtaihlcdkcampbaaGreatDoor
open Go.Proofs
end Go.Proofs.YtaihlcdkcampbaaGreatDoor
namespace Go.Proofs.YtaihlcdkcampbaaGreatDoor
open Go.Proofs
end Go.Proofs.YtaihlcdkcampbaaGreatDoor
namespace Go.Proofs.YtaihlcdkcampbaaGreatDoor
open Go.Proofs
end Go.Proofs.YtaihlcdkcampbaaGreatDoor
namespace Go.Proofs.YtaihlcdkcampbaaGreatDoor
open Go.Proofs
end Go.Proofs.YtaihlcdkcampbaaGreatDoor
namespace Go.Proofs.YtaihlcdkcampbaaGreatDoor
open Go.Proofs
def slices_IndexFunc_int_int_L0 (N : Nat) (x0 : (List Int)) (x1 : (Int → Option Bool)) : Int → Option (Flow Int Int) := fun s24 =>
 (bif (decide (s24 < (x0.length : Int))) then ((idx x0 s24).bind fun x47 => ((x1 x47).bind fun r61 => (bif r61 then some (.ret s24) else some (.next (W64 (s24 + 1)))))) else some (.done s24))
def slices_IndexFunc_int_int (N : Nat) (x0 : (List Int)) (x1 : (Int → Option Bool)) : Option Int :=
 ((iter (slices_IndexFunc_int_int_L0 N x0 x1) N 0).bind fun o => o.k (fun r => some r) (fun s33 => some (-1)))
theorem co_slices_IndexFunc_int_int : CallOk Tryz.prog 197 := fun _ _ => by kernel_rfl
theorem c_slices_IndexFunc_int_int (N : Nat) (w0 : World) (F0 : Mem) (hF : ∀ b o, F0 b = some o → w0.heap[b]? = some o) (x0 : (List Int)) (a0_0 : Option Addr) (n0_0 : Nat) (hb0_0 : LC x0.length n0_0) (hs0_0 : SlA tInt F0 a0_0 x0) (gx1 : FuncId) (fx1 kx1 : List Value) (x1 : Int → Option Bool) (hox1 : CallOk Tryz.prog gx1) (hpx1 : Fn179 F0 gx1 fx1 kx1 x1) (r : Int) (h : slices_IndexFunc_int_int N x0 x1 = some r) :
  Calls Tryz.prog 197 ([(.slice a0_0 x0.length n0_0), (.func (.func gx1) fx1.toArray kx1.toArray)] : List Value).toArray w0 (FRet w0 F0 fun F' v => v = (vi r)) := by
 have hs0 := HS.start hF
 refine Go 19 Tryz.func197 ?_
 refine Sq (Rg [0] ?_)
 refine Vs 1 ?_
 refine Nss ?_
 refine Sq (Rg [0, 1, 2] ?_)
 refine Vs 3 ?_
 refine Nt ?_
 obtain ⟨o21, ho22, h23⟩ := bind_some h
 refine CWP.cut (fun f w => ∃ (s33 : Int) (F2 : Mem), o21 = .done s33 ∧ HS w0 F0 w F2 [] ∧ Mem.le F0 F2 ∧ FI f [] []) ?_ ?_
 ·refine Bk ?_
  refine CWP.loop (by kernel_rfl) (fun m f w => ∃ (s24 : Int) (F1 : Mem), iter (slices_IndexFunc_int_int_L0 N x0 x1) m s24 = some o21 ∧ HS w0 F0 w F1 [] ∧ Mem.le F0 F1 ∧ FI f [] [(0, (.slice a0_0 x0.length n0_0)), (1, (.func (.func gx1) fx1.toArray kx1.toArray)), (7, (vi (x0.length : Int))), (8, (vi s24))]) N ⟨0, F0, ho22, hs0, (Mem.le.refl _), fI⟩ ?_
  rintro m38 f w25 ⟨s24, F1, hit39, hs26, le27, ⟨_, rfl⟩⟩
  obtain ⟨m40, fl41, rfl, hb42, hnx43⟩ := iter_step hit39
  refine Sq (Rg [0] ?_)
  refine Vs 1 ?_
  refine Nss ?_
  refine Cd hb42 (fun hb44 h45 => ?_) (fun hb44 h46 => ?_)
  ·refine Sc ?_
   refine thenQ_nrm ?_
   refine Sq ?_
   refine Bk ?_
   refine Sq (Rg [0, 1] ?_)
   refine Vs 2 ?_
   refine Nss (Rg [0, 1, 2, 3, 4, 5] ?_)
   refine Vs 3 ?_
   obtain ⟨x47, hx48, h50⟩ := bind_some h45
   obtain ⟨hi49, hx48'⟩ := idx_spec hx48
   obtain ⟨b51, o52, C53, E54, fz55, rfl, hF57, hE58⟩ := SlA.open (SlA.mono hs0_0 le27) hx48'
   have hc60 := hE58 _ _ hx48'
   refine Ix hi49 ?_
   refine Lx 0 (hs26.pers _ _ hF57) hc60 ?_
   obtain ⟨r61, hr62, h63⟩ := bind_some h50
   refine Cq hox1 hs26 (hpx1 w25 F1 (x47) _ le27 hs26.pers hr62) ?_
   rintro _ F3 w65 hs66 le67 rfl
   refine Nt ?_
   refine Cd h63 (fun hb69 h70 => ?_) (fun hb69 h71 => ?_)
   ·refine Sq (Rg [0, 1] ?_)
    refine Vs 2 ?_
    refine Nt ?_
    refine Rt ?_
    refine blockQ_ret ?_
    refine thenQ_ret ?_
    refine thenQ_ret ?_
    refine blockQ_ret ?_
    have hret := iter_ret h70 hnx43
    subst hret
    refine .inr ?_
    refine thenQ_ret ?_
    obtain rfl := some_inj h23
    exact Re [(vi s24)] hs66 rfl
   ·refine Sc ?_
    refine blockQ_nrm ?_
    refine thenQ_nrm ?_
    refine Rg [0, 1] ?_
    refine Vs 2 ?_
    refine RWP.nil ?_
    have hn72 := iter_next h71 hnx43
    exact ⟨m40, Nat.lt_succ_self _, (W64 (s24 + 1)), F3, hn72, hs66, (le27.trans le67), fI⟩
  ·refine Ex ?_
   refine thenQ_ex ?_
   refine thenQ_ex ?_
   refine blockQ_hit rfl ?_
   have ho73 := iter_done h46 hnx43
   exact .inl ⟨rfl, s24, F1, ho73, hs26, le27, fI⟩
 ·rintro f w34 ⟨s33, F2, rfl, hs35, le36, ⟨_, rfl⟩⟩
  have h74 := k_done h23
  refine thenQ_nrm ?_
  refine Sq (Rg [0] ?_)
  refine Vs 1 ?_
  refine Nt ?_
  refine Rt ?_
  obtain rfl := some_inj h74
  exact Re [(vi (-1))] hs35 rfl
end Go.Proofs.YtaihlcdkcampbaaGreatDoor
namespace Go.Proofs.YtaihlcdkcampbaaGreatDoor
open Go.Proofs
def slices_ContainsFunc_int_int (N : Nat) (x0 : (List Int)) (x1 : (Int → Option Bool)) : Option Bool :=
 ((slices_IndexFunc_int_int N x0 x1).bind fun r21 => some (decide (r21 ≥ 0)))
theorem co_slices_ContainsFunc_int_int : CallOk Tryz.prog 153 := fun _ _ => by kernel_rfl
theorem c_slices_ContainsFunc_int_int (N : Nat) (w0 : World) (F0 : Mem) (hF : ∀ b o, F0 b = some o → w0.heap[b]? = some o) (x0 : (List Int)) (a0_0 : Option Addr) (n0_0 : Nat) (hb0_0 : LC x0.length n0_0) (hs0_0 : SlA tInt F0 a0_0 x0) (gx1 : FuncId) (fx1 kx1 : List Value) (x1 : Int → Option Bool) (hox1 : CallOk Tryz.prog gx1) (hpx1 : Fn179 F0 gx1 fx1 kx1 x1) (r : Bool) (h : slices_ContainsFunc_int_int N x0 x1 = some r) :
  Calls Tryz.prog 153 ([(.slice a0_0 x0.length n0_0), (.func (.func gx1) fx1.toArray kx1.toArray)] : List Value).toArray w0 (FRet w0 F0 fun F' v => v = (.bool r)) := by
 have hs0 := HS.start hF
 refine Go 9 Tryz.func153 ?_
 refine Sq (Rg [0] ?_)
 refine Vs 1 ?_
 refine Nss (Rg [0, 1, 2, 3, 4] ?_)
 refine Vs 2 ?_
 obtain ⟨r21, hr22, h23⟩ := bind_some h
 refine Cl' co_slices_IndexFunc_int_int hs0 (c_slices_IndexFunc_int_int N w0 F0 hs0.pers (x0) a0_0 n0_0 hb0_0 hs0_0 gx1 fx1 kx1 x1 hox1 (fun w1 F1 y0 r le1 pe1 hr1 => hpx1 w1 F1 y0 r (le1) pe1 hr1) _ hr22) ?_
 rintro _ F1 w25 hs26 le27 rfl
 refine Vs 2 ?_
 refine Nt ?_
 refine Rt ?_
 obtain rfl := some_inj h23
 exact Re [(.bool (decide (r21 ≥ 0)))] hs26 rfl
end Go.Proofs.YtaihlcdkcampbaaGreatDoor
namespace Go.Proofs.YtaihlcdkcampbaaGreatDoor
open Go.Proofs
def rules_validFacts_1 (N : Nat) (x0 : Int) : Option Bool :=
 some ((decide (x0 < 0)) || (decide (x0 > 1000000)))
theorem co_rules_validFacts_1 : CallOk Tryz.prog 154 := fun _ _ => by kernel_rfl
theorem c_rules_validFacts_1 (N : Nat) (w0 : World) (F0 : Mem) (hF : ∀ b o, F0 b = some o → w0.heap[b]? = some o) (x0 : Int) (r : Bool) (h : rules_validFacts_1 N x0 = some r) :
  Calls Tryz.prog 154 ([(vi x0)] : List Value).toArray w0 (FRet w0 F0 fun F' v => v = (.bool r)) := by
 have hs0 := HS.start hF
 refine Go 9 Tryz.func154 ?_
 refine Sq (Rg [0] ?_)
 refine Vs 1 ?_
 refine Nss (Rg [0, 1, 2, 3, 4, 5, 6] ?_)
 refine RWP.cut (fun f w => ∃ (F1 : Mem), HS w0 F0 w F1 [] ∧ Mem.le F0 F1 ∧ FI f [] [(2, (.bool ((decide (x0 < 0)) || (decide (x0 > 1000000)))))]) ?_ ?_
 ·refine Vs 3 ?_
  refine RWP.split (decide (x0 < 0)) (fun hb26 => ?_) (fun hb26 => ?_)
  ·refine Ss hb26 2 ?_
   refine Pk1 hb26 ?_
   refine Vs 1 ?_
   exact RWP.nil ⟨rfl, F0, hs0, (Mem.le.refl _), (fJ ⟨(congrArg Value.bool (or_t hb26 (rfl))), trivial⟩)⟩
  ·refine Vgs hb26 2 ?_
   refine Pk0 hb26 ?_
   refine Vs 1 ?_
   exact RWP.nil ⟨rfl, F0, hs0, (Mem.le.refl _), (fJ ⟨(congrArg Value.bool (or_f hb26 (rfl))), trivial⟩)⟩
 ·rintro f w21 ⟨F1, hs22, le23, ⟨_, rfl⟩⟩
  refine thenQ_nrm ?_
  refine Rt ?_
  obtain rfl := some_inj h
  exact Re [(.bool ((decide (x0 < 0)) || (decide (x0 > 1000000))))] hs22 rfl
end Go.Proofs.YtaihlcdkcampbaaGreatDoor
namespace Go.Proofs.YtaihlcdkcampbaaGreatDoor
open Go.Proofs
def rules_validFacts (N : Nat) (x0 : (List Int)) : Option Bool :=
 ((bif ((x0.length : Int) == 14) then ((slices_ContainsFunc_int_int N x0 (fun y0 => rules_validFacts_1 N y0)).bind fun r32 => some (!r32)) else some false).bind fun j24 => some j24)
theorem co_rules_validFacts : CallOk Tryz.prog 98 := fun _ _ => by kernel_rfl
theorem c_rules_validFacts (N : Nat) (w0 : World) (F0 : Mem) (hF : ∀ b o, F0 b = some o → w0.heap[b]? = some o) (x0 : (List Int)) (a0_0 : Option Addr) (n0_0 : Nat) (hb0_0 : LC x0.length n0_0) (hs0_0 : SlA tInt F0 a0_0 x0) (r : Bool) (h : rules_validFacts N x0 = some r) :
  Calls Tryz.prog 98 ([(.slice a0_0 x0.length n0_0)] : List Value).toArray w0 (FRet w0 F0 fun F' v => v = (.bool r)) := by
 have hs0 := HS.start hF
 refine Go 11 Tryz.func98 ?_
 refine Sq (Rg [0] ?_)
 refine Vs 1 ?_
 refine Nss (Rg [0, 1, 2, 3, 4, 5, 6, 7, 8] ?_)
 obtain ⟨j24, hj27, h28⟩ := bind_some h
 refine RWP.cut (fun f w => ∃ (F1 : Mem), HS w0 F0 w F1 [] ∧ Mem.le F0 F1 ∧ FI f [] [(2, (.bool j24))]) ?_ ?_
 ·refine Vs 4 ?_
  refine Sp hj27 (fun hb29 h30 => ?_) (fun hb29 h31 => ?_)
  ·refine Vgs hb29 1 ?_
   obtain ⟨r32, hr33, h34⟩ := bind_some h30
   refine Cg hb29 co_slices_ContainsFunc_int_int hs0 (c_slices_ContainsFunc_int_int N w0 F0 hs0.pers (x0) a0_0 n0_0 hb0_0 hs0_0 154 [] [] (fun y0 => rules_validFacts_1 N y0) co_rules_validFacts_1 (fun w1 F1 y0 r le1 pe1 hr1 => c_rules_validFacts_1 N w1 F1 pe1  y0  r hr1) _ hr33) ?_
   rintro _ F2 w36 hs37 le38 rfl
   refine Vgs hb29 1 ?_
   refine Pk1 hb29 ?_
   refine Vs 1 ?_
   obtain rfl := some_inj h34
   exact RWP.nil ⟨rfl, F2, hs37, le38, fI⟩
  ·refine Ss hb29 3 ?_
   refine Pk0 hb29 ?_
   refine Vs 1 ?_
   obtain rfl := some_inj h31
   exact RWP.nil ⟨rfl, F0, hs0, (Mem.le.refl _), fI⟩
 ·rintro f w21 ⟨F1, hs22, le23, ⟨_, rfl⟩⟩
  refine thenQ_nrm ?_
  refine Rt ?_
  obtain rfl := some_inj h28
  exact Re [(.bool j24)] hs22 rfl
end Go.Proofs.YtaihlcdkcampbaaGreatDoor
namespace Go.Proofs.YtaihlcdkcampbaaGreatDoor
open Go.Proofs
end Go.Proofs.YtaihlcdkcampbaaGreatDoor
namespace Go.Proofs.YtaihlcdkcampbaaGreatDoor
def zE : Expr := ⟨0, 0, []⟩
def hold (n : Int) : Int := max (-1000000) (min 1000000 n)
def bitv (b : Bool) : Int := if b then 1 else 0
def vop (op v fv : Int) (l : List Int) : Int :=
 if op = 1 then v else if op = 2 then fv else if op = 3 then 1 - l[0]! else if op = 4 then min l[0]! l[1]! else if op = 5 then max l[0]! l[1]! else if op = 6 then bitv (l[0]! == l[1]!)
 else if op = 7 then bitv (decide (l[0]! < l[1]!)) else if op = 8 then hold (l[0]! + l[1]!) else if op = 9 then hold (l[0]! - l[1]!) else if op = 10 then hold (l[0]! * l[1]!)
 else if l[0]! = 1 then l[1]! else l[2]!
def val (f : List Int) (e : Expr) : Int := match e with
 | ⟨op, v, ks⟩ => vop op v f[v.toNat]! (ks.map fun x => val f x)
inductive Mk (e : Expr) : Int → Prop
 | num (h : e.Op = 1) (h1 : 0 ≤ e.Value) (h2 : e.Value ≤ 1000000) (hk : e.Kids = []) : Mk e 1
 | field (h : e.Op = 2) (h1 : 0 ≤ e.Value) (h2 : e.Value ≤ 13) (hk : e.Kids = []) : Mk e 1
 | deny (h : e.Op = 3) (hv : e.Value = 0) (x : Expr) (hk : e.Kids = [x]) (h1 : kd x = 2) : Mk e 2
 | logic (h : e.Op = 4 ∨ e.Op = 5) (hv : e.Value = 0) (x y : Expr) (hk : e.Kids = [x, y]) (h1 : kd x = 2) (h2 : kd y = 2) : Mk e 2
 | test (h : e.Op = 6 ∨ e.Op = 7) (hv : e.Value = 0) (x y : Expr) (hk : e.Kids = [x, y]) (h1 : kd x = 1) (h2 : kd y = 1) : Mk e 2
 | sum (h : e.Op = 8 ∨ e.Op = 9 ∨ e.Op = 10) (hv : e.Value = 0) (x y : Expr) (hk : e.Kids = [x, y]) (h1 : kd x = 1) (h2 : kd y = 1) : Mk e 1
 | cond (h : e.Op = 11) (hv : e.Value = 0) (c x y : Expr) (hk : e.Kids = [c, x, y]) (h0 : kd c = 2) (h1 : kd x = 1) (h2 : kd y = 1) : Mk e 1
section
variable {N : Nat} {f : List Int}
end
end Go.Proofs.YtaihlcdkcampbaaGreatDoor
namespace Go.Proofs.YtaihlcdkcampbaaGreatDoor
def PS (Lr : List rules_token) (i : Nat) (o : Int) : rules_parser := ⟨Lr.drop i, o⟩
def RB (Lf : List pileupref06_token) (i : Nat) (o e w : Int) : pileupref06_reader := ⟨Lf, (i : Int), o, e, w⟩
abbrev RS (Lf : List pileupref06_token) (i : Nat) (o : Int) : pileupref06_reader := RB Lf i o 0 0
def Se (Lf : List pileupref06_token) (i : Nat) (t : List UInt8) : Bool := match Lf[i]? with
 | some b => seeF b t
 | none => false
def atI (Lf : List pileupref06_token) (i : Nat) : Int := match Lf[i]? with
 | some b => b.At
 | none => 0
section
variable {N n : Nat} {Lr : List rules_token} {Lf : List pileupref06_token} (T : Toks n Lr Lf)
include T
theorem Toks.hd {i : Nat} (hi : i < n) : ∃ a b, Lr[i]? = some a ∧ Lf[i]? = some b ∧ idx (Lr.drop i) 0 = some a ∧ idx Lf (i : Int) = some b ∧ ((TokC a b ∧ i + 1 < n) ∨ (TokE a b ∧ i + 1 = n)) ∧ a.at_ = b.At := by
 have h1 : i < Lr.length := by have := T.lr; omega
 have h2 : i < Lf.length := by have := T.lf; omega
 refine ⟨Lr[i], Lf[i], List.getElem?_eq_getElem h1, List.getElem?_eq_getElem h2, ?_, idx_nat h2, ?_, ?_⟩
 ·show idx (Lr.drop i) ((0 : Nat) : Int) = _
  rw [idx_nat', List.getElem?_drop, Nat.add_zero, List.getElem?_eq_getElem h1]
 ·by_cases h : i + 1 < n
  ·exact .inl ⟨T.c i h1 h2 h, h⟩
  ·exact .inr ⟨T.e i h1 h2 (by omega), by omega⟩
 ·by_cases h : i + 1 < n
  ·exact (T.c i h1 h2 h).at_
  ·exact (T.e i h1 h2 (by omega)).at_
theorem Toks.see {i : Nat} {a : rules_token} (ha : Lr[i]? = some a) (hi : i < n) {t : List UInt8} (ht : t ≠ [10]) : seeR a t = Se Lf i t := by
 obtain ⟨a', b, h1, h2, _, _, h5, _⟩ := T.hd hi
 rw [h1] at ha; cases ha
 unfold Se
 rw [h2]
 rcases h5 with ⟨h, _⟩ | ⟨h, _⟩
 ·exact h.see ht
 ·rw [h.seeR]; exact (h.seeF t).symm
theorem Toks.lt {i : Nat} {t : List UInt8} (hi : i < n) (h : Se Lf i t = true) : i + 1 < n := by
 obtain ⟨a, b, _, h2, _, _, h5, _⟩ := T.hd hi
 rcases h5 with ⟨_, h5⟩ | ⟨h5, _⟩
 ·exact h5
 ·unfold Se at h; rw [h2] at h; simp only [h5.seeF] at h; cases h
theorem peek_raw {i : Nat} (hi : i < n) (o : Int) (t : List UInt8) {a : rules_token} (ha : Lr[i]? = some a) : rules_parser_peek N (PS Lr i o) t = some (seeR a t) := by
 obtain ⟨a', b, h1, _, h3, _, _, _⟩ := T.hd hi
 rw [h1] at ha; cases ha
 unfold rules_parser_peek PS seeR
 simp only [h3, Option.bind_some]
 cases h2 : (a.kind_ == 2) <;> cases h3 : (a.kind_ == 3) <;> simp
theorem m_peek {i : Nat} (hi : i < n) (o : Int) {t : List UInt8} (ht : t ≠ [10]) : rules_parser_peek N (PS Lr i o) t = some (Se Lf i t) := by
 obtain ⟨a, b, h1, _⟩ := T.hd hi
 rw [peek_raw T hi o t h1, T.see h1 hi ht]
theorem m_see {i : Nat} (hi : i < n) (o e w : Int) (t : List UInt8) : ref06_reader_see N (RB Lf i o e w) t = some (Se Lf i t) := by
 obtain ⟨a, b, _, h2, _, h4, _, _⟩ := T.hd hi
 unfold ref06_reader_see RB Se
 simp only [h4, Option.bind_some, h2]
 unfold seeF
 cases hk2 : (b.Kind == 2) <;> cases hk3 : (b.Kind == 3) <;> simp
theorem sub_drop {i : Nat} (hi : i < n) : sub (Lr.drop i) 1 ((Lr.drop i).length : Int) = some (Lr.drop (i + 1)) := by
 have := T.lr
 unfold sub
 rw [if_pos ⟨by omega, by rw [List.length_drop]; omega, by omega⟩, Int.toNat_natCast, List.take_length]
 show some (List.drop 1 (List.drop i Lr)) = _
 rw [List.drop_drop, Nat.add_comm]
theorem accept_raw {i : Nat} (hi : i < n) (o : Int) (t : List UInt8) {a : rules_token} (ha : Lr[i]? = some a) : rules_parser_accept N (PS Lr i o) t = some (bif seeR a t then (PS Lr (i + 1) o, true) else (PS Lr i o, false)) := by
 unfold rules_parser_accept
 rw [peek_raw T hi o t ha, Option.bind_some]
 cases seeR a t with
 | false => rfl
 | true =>
  simp only [Bool.not_true, cond_false, cond_true]
  rw [show (PS Lr i o).l_ = Lr.drop i from rfl, sub_drop T hi]; rfl
theorem m_accept {i : Nat} (hi : i < n) (o : Int) {t : List UInt8} (ht : t ≠ [10]) : rules_parser_accept N (PS Lr i o) t = some (bif Se Lf i t then (PS Lr (i + 1) o, true) else (PS Lr i o, false)) := by
 obtain ⟨a, b, h1, _⟩ := T.hd hi
 rw [accept_raw T hi o t h1, T.see h1 hi ht]
theorem m_wrong {i : Nat} (o e w : Int) : ref06_reader_wrong N (RS Lf i o) e w = some (RB Lf i o e w) := rfl
theorem W1 {i : Nat} (hi : i < n) : W64 ((i : Int) + 1) = ((i + 1 : Nat) : Int) := by
 have := T.small
 exact W64_succ (by omega)
theorem m_take {i : Nat} (hi : i < n) (o : Int) (t : List UInt8) : ref06_reader_take N (RS Lf i o) t = some (bif Se Lf i t then RS Lf (i + 1) o else RB Lf i o 60 (atI Lf i)) := by
 obtain ⟨a, b, _, h2, _, h4, _, _⟩ := T.hd hi
 unfold ref06_reader_take
 rw [show ((RS Lf i o).Bad != 0) = false from rfl, cond_false, m_see T hi, Option.bind_some]
 have e : (RS Lf i o).At = (i : Int) := rfl
 have e2 : (RS Lf i o).L = Lf := rfl
 cases hs : Se Lf i t with
 | true => simp only [Bool.not_true, cond_false, cond_true, e, W1 T hi]; rfl
 | false =>
  simp only [Bool.not_false, cond_true, cond_false, e, e2, h4, Option.bind_some]
  rw [m_wrong T]
  unfold atI
  rw [h2]; rfl
theorem m_take_bad {i : Nat} {o e w : Int} (he : e ≠ 0) (t : List UInt8) : ref06_reader_take N (RB Lf i o e w) t = some (RB Lf i o e w) := by
 unfold ref06_reader_take
 rw [show ((RB Lf i o e w).Bad != 0) = true by show (e != 0) = true; simpa using he]; rfl
theorem m_expect {i : Nat} (hi : i < n) (o : Int) {t : List UInt8} (ht : t ≠ [10]) : rules_parser_expect N (PS Lr i o) t = some (bif Se Lf i t then .inr (PS Lr (i + 1) o) else .inl ⟨60, atI Lf i⟩) := by
 obtain ⟨a, b, h1, h2, h3, h4, _, h6⟩ := T.hd hi
 unfold rules_parser_expect
 rw [m_accept T hi o ht, Option.bind_some]
 cases hs : Se Lf i t with
 | true => rfl
 | false =>
  simp only [cond_false, Bool.not_false, cond_true]
  rw [show (PS Lr i o).l_ = Lr.drop i from rfl, h3, Option.bind_some]
  unfold atI
  rw [h2, h6]; rfl
theorem m_enter {i : Nat} (hi : i < n) {o : Int} (h0 : 0 ≤ o) (h32 : o ≤ 32) : rules_parser_enter N (PS Lr i o) = some (bif Se Lf i [40] then (if o = 32 then .inl ⟨2, atI Lf i⟩ else .inr (PS Lr (i + 1) (o + 1))) else .inl ⟨60, atI Lf i⟩) := by
 obtain ⟨a, b, h1, h2, h3, h4, _, h6⟩ := T.hd hi
 unfold rules_parser_enter
 rw [show (PS Lr i o).l_ = Lr.drop i from rfl, h3, Option.bind_some, m_peek T hi o (by decide), Option.bind_some, m_expect T hi o (by decide)]
 have ea : a.at_ = atI Lf i := by unfold atI; rw [h2, h6]
 cases hs : Se Lf i [40] with
 | false => rfl
 | true =>
  simp only [cond_true, Option.bind_some]
  rw [show (PS Lr i o).open_ = o from rfl]
  by_cases h : o = 32
  ·rw [if_pos h, show (o == 32) = true by simpa using h, cond_true, ea]; rfl
  ·rw [if_neg h, show (o == 32) = false by simpa using h, cond_false]
   simp only [sk]
   rw [show (PS Lr (i + 1) o).open_ = o from rfl, W64_id (by omega) (by omega)]; rfl
theorem m_open {i : Nat} (hi : i < n) {o : Int} (h0 : 0 ≤ o) (h32 : o ≤ 32) : ref06_reader_open N (RS Lf i o) = some (bif Se Lf i [40] then (if o = 32 then RB Lf i 33 2 (atI Lf i) else RS Lf (i + 1) (o + 1)) else RB Lf i (o + 1) 60 (atI Lf i)) := by
 obtain ⟨a, b, h1, h2, h3, h4, _, h6⟩ := T.hd hi
 unfold ref06_reader_open
 have ea : b.At = atI Lf i := by unfold atI; rw [h2]
 have e : (RS Lf i o).At = (i : Int) := rfl
 have e2 : (RS Lf i o).L = Lf := rfl
 have e3 : (RS Lf i o).Open = o := rfl
 rw [show ((RS Lf i o).Bad == 0) = true from rfl, cond_true, m_see T hi, Option.bind_some, e3]
 have ew : W64 (o + 1) = o + 1 := W64_id (by omega) (by omega)
 cases hs : Se Lf i [40] with
 | false =>
  simp only [cond_false, Option.bind_some]
  show ((ref06_reader_take N (RS Lf i o) [40]).bind _) = _
  rw [m_take T hi, hs]
  simp only [cond_false, Option.bind_some]
  show some (RB Lf i (W64 (o + 1)) 60 (atI Lf i)) = _
  rw [ew]
 | true =>
  simp only [cond_true, Option.bind_some]
  by_cases h : o = 32
  ·rw [if_pos h, show (o == 32) = true by simpa using h, cond_true, e, e2, h4]
   simp only [Option.bind_some]
   rw [m_wrong T]
   simp only [Option.bind_some]
   show ((ref06_reader_take N (RB Lf i o 2 b.At) [40]).bind _) = _
   rw [m_take_bad T (by decide), Option.bind_some, ea]
   show some (RB Lf i (W64 (o + 1)) 2 (atI Lf i)) = _
   rw [ew, h]; rfl
  ·rw [if_neg h, show (o == 32) = false by simpa using h, cond_false]
   simp only [Option.bind_some]
   show ((ref06_reader_take N (RS Lf i o) [40]).bind _) = _
   rw [m_take T hi, hs]
   simp only [cond_true, Option.bind_some]
   show some (RB Lf (i + 1) (W64 (o + 1)) 0 0) = _
   rw [ew]
theorem m_leave {i : Nat} (hi : i < n) {o : Int} (h0 : 0 ≤ o) (h32 : o ≤ 33) : rules_parser_leave N (PS Lr i o) = some (bif Se Lf i [41] then .inr (PS Lr (i + 1) (o - 1)) else .inl ⟨60, atI Lf i⟩) := by
 unfold rules_parser_leave
 rw [m_expect T hi o (by decide), Option.bind_some]
 cases hs : Se Lf i [41] with
 | false => rfl
 | true =>
  simp only [cond_true, sk]
  rw [show (PS Lr (i + 1) o).open_ = o from rfl, W64_id (by omega) (by omega)]; rfl
theorem m_shut {i : Nat} (hi : i < n) {o : Int} (h0 : 0 ≤ o) (h32 : o ≤ 33) : ref06_reader_shut N (RS Lf i o) = some (bif Se Lf i [41] then RS Lf (i + 1) (o - 1) else RB Lf i (o - 1) 60 (atI Lf i)) := by
 unfold ref06_reader_shut
 rw [m_take T hi]
 have ew : W64 (o - 1) = o - 1 := W64_id (by omega) (by omega)
 cases hs : Se Lf i [41] with
 | false =>
  show some (RB Lf i (W64 (o - 1)) 60 (atI Lf i)) = _
  rw [ew]; rfl
 | true =>
  show some (RB Lf (i + 1) (W64 (o - 1)) 0 0) = _
  rw [ew]; rfl
theorem shut_bad {i : Nat} {o e w : Int} (he : e ≠ 0) : ∃ o', ref06_reader_shut N (RB Lf i o e w) = some (RB Lf i o' e w) := by
 unfold ref06_reader_shut
 rw [m_take_bad T he]
 exact ⟨_, rfl⟩
theorem open_bad {i : Nat} {o e w : Int} (he : e ≠ 0) : ∃ o', ref06_reader_open N (RB Lf i o e w) = some (RB Lf i o' e w) := by
 unfold ref06_reader_open
 rw [show ((RB Lf i o e w).Bad == 0) = false by show (e == 0) = false; simpa using he, cond_false]
 simp only [Option.bind_some, cond_false]
 show ∃ o', ((ref06_reader_take N (RB Lf i o e w) [40]).bind _) = some (RB Lf i o' e w)
 rw [m_take_bad T he]
 exact ⟨_, rfl⟩
end
section
variable {N : Nat} {Lf : List pileupref06_token} {i : Nat} {o e w : Int}
theorem dead_item (he : e ≠ 0) (k : Nat) : (rec89 N (k + 1)).q240 (RB Lf i o e w) = some (RB Lf i o e w, zE) := by
 show ref06_reader_item_S N (rec89 N k).q89 (RB Lf i o e w) = _
 unfold ref06_reader_item_S
 rw [show ((RB Lf i o e w).Bad != 0) = true by show (e != 0) = true; simpa using he]; rfl
theorem dead_loop {ρ : Type} {body : (Int × Int × List Expr × List pileupref06_token × Int × Int × Int × Int) → Option (Flow ρ (Int × Int × List Expr × List pileupref06_token × Int × Int × Int × Int))} {s : Int × Int × List Expr × List pileupref06_token × Int × Int × Int × Int}
  (hb : body s = some (.done s)) (hN : 0 < N) : iter body N s = some (.done s) := by
 obtain ⟨m, rfl⟩ : ∃ m, N = m + 1 := ⟨N - 1, by omega⟩
 rw [iter, hb]
theorem e0 (he : e ≠ 0) : (e == 0) = false := by simpa using he
theorem dead_term (hN : 0 < N) (he : e ≠ 0) (k : Nat) : (rec89 N (k + 2)).q234 (RB Lf i o e w) = some (RB Lf i o e w, zE) := by
 show ref06_reader_term_S N (rec89 N (k + 1)).q240 (RB Lf i o e w) = _
 unfold ref06_reader_term_S
 rw [dead_item he, Option.bind_some, dead_loop (by unfold ref06_reader_term_L0; simp only [RB, e0 he]; rfl) hN]; rfl
theorem dead_sum (hN : 0 < N) (he : e ≠ 0) (k : Nat) : (rec89 N (k + 3)).q227 (RB Lf i o e w) = some (RB Lf i o e w, zE) := by
 show ref06_reader_sum_S N (rec89 N (k + 2)).q234 (RB Lf i o e w) = _
 unfold ref06_reader_sum_S
 rw [dead_term hN he, Option.bind_some, dead_loop (by unfold ref06_reader_sum_L0; simp only [RB, e0 he]; rfl) hN]; rfl
theorem dead_test (hN : 0 < N) (he : e ≠ 0) (k : Nat) : (rec89 N (k + 4)).q213 (RB Lf i o e w) = some (RB Lf i o e w, zE) := by
 show ref06_reader_test_S N (rec89 N (k + 3)).q227 (RB Lf i o e w) = _
 unfold ref06_reader_test_S
 rw [dead_sum hN he, Option.bind_some]
 show (((bif (e == 0) then _ else some false).bind _)) = _
 rw [e0 he]; rfl
theorem dead_deny (hN : 0 < N) (he : e ≠ 0) (k : Nat) : (rec89 N (k + 5)).q186 (RB Lf i o e w) = some (RB Lf i o e w, zE) := by
 show ref06_reader_deny_S N (rec89 N (k + 4)).q186 (rec89 N (k + 4)).q213 (RB Lf i o e w) = _
 unfold ref06_reader_deny_S
 show (((bif (e == 0) then _ else some false).bind _)) = _
 rw [e0 he, cond_false, Option.bind_some, cond_false, dead_test hN he]; rfl
theorem dead_both (hN : 0 < N) (he : e ≠ 0) (k : Nat) : (rec89 N (k + 6)).q146 (RB Lf i o e w) = some (RB Lf i o e w, zE) := by
 show ref06_reader_both_S N (rec89 N (k + 5)).q186 (RB Lf i o e w) = _
 unfold ref06_reader_both_S
 rw [dead_deny hN he, Option.bind_some, dead_loop (by unfold ref06_reader_both_L0; simp only [RB, e0 he]; rfl) hN]; rfl
theorem dead_expr (hN : 0 < N) (he : e ≠ 0) (k : Nat) : (rec89 N (k + 7)).q89 (RB Lf i o e w) = some (RB Lf i o e w, zE) := by
 show ref06_reader_expr_S N (rec89 N (k + 6)).q146 (RB Lf i o e w) = _
 unfold ref06_reader_expr_S
 rw [dead_both hN he, Option.bind_some, dead_loop (by unfold ref06_reader_expr_L0; simp only [RB, e0 he]; rfl) hN]; rfl
end
end Go.Proofs.YtaihlcdkcampbaaGreatDoor
namespace Go.Proofs.YtaihlcdkcampbaaGreatDoor
inductive Out (n : Nat) (Lr : List rules_token) (Lf : List pileupref06_token) (i : Nat) (o : Int) : (rules_bad ⊕ (rules_parser × Expr)) → (pileupref06_reader × Expr) → Prop
 | ok (j : Nat) (x : Expr) (h1 : i < j) (h2 : j < n) (hx : Ht 10 (j - i) x) : Out n Lr Lf i o (.inr (PS Lr j o, x)) (RS Lf j o, x)
 | err (e w : Int) (j : Nat) (o' : Int) (x : Expr) (he : e ≠ 0) (hj : j < n) : Out n Lr Lf i o (.inl ⟨e, w⟩) (RB Lf j o' e w, x)
def Agr (n : Nat) (Lr : List rules_token) (Lf : List pileupref06_token) (c K : Nat) (f : rules_parser → Option (rules_bad ⊕ (rules_parser × Expr))) (g : pileupref06_reader → Option (pileupref06_reader × Expr)) : Prop :=
 ∀ (i : Nat) (o : Int), i < n → 0 ≤ o → o ≤ 32 → 8 * (n - i) + c ≤ K → ∃ p r, f (PS Lr i o) = some p ∧ g (RS Lf i o) = some r ∧ Out n Lr Lf i o p r
abbrev St : Type := Int × Int × List Expr × List pileupref06_token × Int × Int × Int × Int
structure Body (n : Nat) (Lf : List pileupref06_token) (opOf : Nat → Option Int) (g : pileupref06_reader → Option (pileupref06_reader × Expr)) (B : St → Option (Flow (pileupref06_reader × Expr) St)) : Prop where
 bad : ∀ (op v : Int) (ks : List Expr) (L : List pileupref06_token) (j o e w : Int), e ≠ 0 → B (op, v, ks, L, j, o, e, w) = some (.done (op, v, ks, L, j, o, e, w))
 no : ∀ (op v : Int) (ks : List Expr) (j : Nat) (o : Int), j < n → opOf j = none → B (op, v, ks, Lf, (j : Int), o, 0, 0) = some (.done (op, v, ks, Lf, (j : Int), o, 0, 0))
 yes : ∀ (op v : Int) (ks : List Expr) (j : Nat) (o c : Int), j < n → opOf j = some c → B (op, v, ks, Lf, (j : Int), o, 0, 0) = (g (RS Lf (j + 1) o)).bind fun r => some (.next (c, 0, [⟨op, v, ks⟩, r.2], r.1.L, r.1.At, r.1.Open, r.1.Bad, r.1.Where))
section
variable {N n : Nat} {Lr : List rules_token} {Lf : List pileupref06_token} (T : Toks n Lr Lf)
include T
theorem joined_sim (hN : n + 2 ≤ N) {c K : Nat} {f : rules_parser → Option (rules_bad ⊕ (rules_parser × Expr))} {g : pileupref06_reader → Option (pileupref06_reader × Expr)} (hfg : Agr n Lr Lf c K f g)
  {ops : List (List UInt8 × Int)} {opOf : Nat → Option Int} (hops : ∀ i a, i < n → Lr[i]? = some a → (mhas ops a.text_ && seeR a a.text_) = (opOf i).isSome ∧ ∀ z, opOf i = some z → mgetD ops a.text_ 0 = z) (hlt : ∀ i, i < n → (opOf i).isSome = true → i + 1 < n)
  {B : pileupref06_reader × Expr → St → Option (Flow (pileupref06_reader × Expr) St)} (hB : ∀ r, Body n Lf opOf g (B r)) {i : Nat} {o : Int} (hi : i < n) (h0 : 0 ≤ o) (h32 : o ≤ 32) (hK : 8 * (n - i) + c ≤ K) :
  ∃ p r, rules_parser_joinedBy N (PS Lr i o) f ops = some p ∧
   ((g (RS Lf i o)).bind fun r26 => ((iter (B r26) N (r26.2.Op, r26.2.Value, r26.2.Kids, r26.1.L, r26.1.At, r26.1.Open, r26.1.Bad, r26.1.Where)).bind fun q => q.k (fun r => some r) (fun s49 => some (({ L := s49.2.2.2.1, At := s49.2.2.2.2.1, Open := s49.2.2.2.2.2.1, Bad := s49.2.2.2.2.2.2.1, Where := s49.2.2.2.2.2.2.2 } : pileupref06_reader), ({ Op := s49.1, Value := s49.2.1, Kids := s49.2.2.1 } : Expr))))) = some r ∧ Out n Lr Lf i o p r := by
 obtain ⟨p0, r0, e1, e2, h⟩ := hfg i o hi h0 h32 hK
 unfold rules_parser_joinedBy
 rw [e1, e2]
 simp only [Option.bind_some]
 cases h with
 | err e w j o' x he hj =>
  refine ⟨.inl ⟨e, w⟩, (RB Lf j o' e w, x), rfl, ?_, .err e w j o' x he hj⟩
  have hd := dead_loop (N := N) ((hB (RB Lf j o' e w, x)).bad x.Op x.Value x.Kids Lf (j : Int) o' e w he) (by omega)
  rw [show iter (B (RB Lf j o' e w, x)) N (x.Op, x.Value, x.Kids, (RB Lf j o' e w).L, (RB Lf j o' e w).At, (RB Lf j o' e w).Open, (RB Lf j o' e w).Bad, (RB Lf j o' e w).Where) = _ from hd]
  cases x; rfl
 | ok j x h1 h2 hx =>
  simp only [sk]
  obtain ⟨o1, o2, r1, r2, hR⟩ := iter_sim (b1 := rules_parser_joinedBy_L0 N (PS Lr i o) f ops (PS Lr j o, x)) (b2 := B (RS Lf j o, x))
   (fun m s t => ∃ (q : Nat) (op v : Int) (ks : List Expr), m = n - q ∧ i < q ∧ q < n ∧ Ht 10 (q - i) ⟨op, v, ks⟩ ∧ s = (op, v, ks, Lr.drop q, o) ∧ t = (op, v, ks, Lf, (q : Int), o, 0, 0))
   (fun a b => ∃ p r, a = .ret p ∧ b = .done (r.2.Op, r.2.Value, r.2.Kids, r.1.L, r.1.At, r.1.Open, r.1.Bad, r.1.Where) ∧ Out n Lr Lf i o p r)
   (by
    rintro m s t ⟨q, op, v, ks, rfl, hq1, hq2, hh, rfl, rfl⟩
    obtain ⟨a, b, ha, hb, hc, _, _, _⟩ := T.hd hq2
    obtain ⟨ho1, ho2⟩ := hops q a hq2 ha
    have hacc := accept_raw T (N := N) hq2 o a.text_ ha
    cases hop : opOf q with
    | none =>
     right; left
     rw [hop] at ho1
     refine ⟨.ret (.inr (PS Lr q o, ⟨op, v, ks⟩)), _, ?_, (fun _ h => by cases h), (hB _).no op v ks q o hq2 hop, (fun _ h => by cases h), _, (RS Lf q o, ⟨op, v, ks⟩), rfl, rfl, .ok q _ hq1 hq2 hh⟩
     unfold rules_parser_joinedBy_L0
     simp only [hc, Option.bind_some]
     cases hm : mhas ops a.text_ with
     | false => simp only [Bool.not_false, cond_true, Option.bind_some]; rfl
     | true =>
      rw [hm] at ho1
      have hs : seeR a a.text_ = false := by simpa using ho1
      rw [hs] at hacc
      simp only [Bool.not_true, cond_false]
      rw [show (⟨Lr.drop q, o⟩ : rules_parser) = PS Lr q o from rfl, hacc]
      rfl
    | some z =>
     rw [hop] at ho1
     simp only [Option.isSome_some, Bool.and_eq_true] at ho1
     rw [ho1.2] at hacc
     have hz := ho2 z hop
     have hq3 := hlt q hq2 (by rw [hop]; rfl)
     obtain ⟨p2, r2, e3, e4, hout⟩ := hfg (q + 1) o hq3 h0 h32 (by omega)
     have hb1 : rules_parser_joinedBy_L0 N (PS Lr i o) f ops (PS Lr j o, x) (op, v, ks, Lr.drop q, o) = sk p2 (fun b => some (.ret (.inl b))) (fun r => some (.next (z, 0, [⟨op, v, ks⟩, r.2], r.1.l_, r.1.open_))) := by
      unfold rules_parser_joinedBy_L0
      simp only [hc, Option.bind_some, ho1.1, Bool.not_true, cond_false]
      rw [show (⟨Lr.drop q, o⟩ : rules_parser) = PS Lr q o from rfl, hacc]
      simp only [cond_true, Option.bind_some, Bool.not_true, cond_false]
      rw [show (⟨(PS Lr (q + 1) o).l_, (PS Lr (q + 1) o).open_⟩ : rules_parser) = PS Lr (q + 1) o from rfl, e3]
      cases p2 with
      | inl b => rfl
      | inr r => simp only [Option.bind_some, sk, hz]
     have hb2 := (hB (RS Lf j o, x)).yes op v ks q o z hq2 hop
     rw [e4, Option.bind_some] at hb2
     cases hout with
     | ok q2 y hy1 hy2 hy =>
      left
      refine ⟨n - q2, _, _, by omega, hb1, hb2, q2, z, 0, [⟨op, v, ks⟩, y], rfl, by omega, hy2, ?_, rfl, rfl⟩
      obtain ⟨d, hd⟩ : ∃ d, q2 - i = d + 1 := ⟨q2 - i - 1, by omega⟩
      rw [hd]
      refine ⟨by show 2 < 10; omega, by show 2 < 9223372036854775808; omega, fun u hu => ?_⟩
      have hu' : u ∈ [(⟨op, v, ks⟩ : Expr), y] := hu
      simp only [List.mem_cons, List.not_mem_nil, or_false] at hu'
      rcases hu' with rfl | rfl
      ·exact hh.le (by omega)
      ·exact hy.le (by omega)
     | err e w q2 o' y he hj =>
      right; right
      exact ⟨_, _, _, hb1, (fun _ h => by cases h), hb2, (hB _).bad z 0 [⟨op, v, ks⟩, y] Lf (q2 : Int) o' e w he, (fun _ h => by cases h), .inl ⟨e, w⟩, (RB Lf q2 o' e w, ⟨z, 0, [⟨op, v, ks⟩, y]⟩), rfl, rfl, .err e w q2 o' _ he hj⟩)
   (n - j) N N (x.Op, x.Value, x.Kids, Lr.drop j, o) (x.Op, x.Value, x.Kids, Lf, (j : Int), o, 0, 0) ⟨j, x.Op, x.Value, x.Kids, rfl, h1, h2, by cases x; exact hx, rfl, rfl⟩ (by omega) (by omega)
  obtain ⟨p, r, rfl, rfl, hO⟩ := hR
  refine ⟨p, r, ?_, ?_, hO⟩
  ·rw [show ((PS Lr j o, x) : rules_parser × Expr).1.l_ = Lr.drop j from rfl, show ((PS Lr j o, x) : rules_parser × Expr).1.open_ = o from rfl]
   rw [r1]; rfl
  ·rw [show iter (B (RS Lf j o, x)) N (x.Op, x.Value, x.Kids, (RS Lf j o).L, (RS Lf j o).At, (RS Lf j o).Open, (RS Lf j o).Bad, (RS Lf j o).Where) = _ from r2]
   obtain ⟨u1, u2⟩ := r
   cases u2; rfl
end
end Go.Proofs.YtaihlcdkcampbaaGreatDoor
namespace Go.Proofs.YtaihlcdkcampbaaGreatDoor
section
variable {N n : Nat} {Lr : List rules_token} {Lf : List pileupref06_token} (T : Toks n Lr Lf)
include T
theorem ops1 {k : List UInt8} (hk : k ≠ [10]) {z : Int} : ∀ i a, i < n → Lr[i]? = some a → (mhas [(k, z)] a.text_ && seeR a a.text_) = (if Se Lf i k then some z else none : Option Int).isSome ∧ ∀ y, (if Se Lf i k then some z else none : Option Int) = some y → mgetD [(k, z)] a.text_ 0 = y := by
 intro i a hi ha
 rw [← T.see ha hi hk]
 unfold mhas mgetD mget mget
 by_cases ht : a.text_ = k
 ·rw [if_pos ht, ht]
  cases hs : seeR a k <;> simp
 ·have hs : seeR a k = false := by unfold seeR; simp [ht]
  rw [hs]; simp [ht]
theorem ops2 {k1 k2 : List UInt8} (hk : k1 ≠ [10]) (hk2 : k2 ≠ [10]) (hne : k1 ≠ k2) {z1 z2 : Int} : ∀ i a, i < n → Lr[i]? = some a →
  (mhas [(k1, z1), (k2, z2)] a.text_ && seeR a a.text_) = (if Se Lf i k1 then some z1 else if Se Lf i k2 then some z2 else none : Option Int).isSome ∧ ∀ y, (if Se Lf i k1 then some z1 else if Se Lf i k2 then some z2 else none : Option Int) = some y → mgetD [(k1, z1), (k2, z2)] a.text_ 0 = y := by
 intro i a hi ha
 rw [← T.see ha hi hk, ← T.see ha hi hk2]
 unfold mhas mgetD mget mget mget
 by_cases ht : a.text_ = k1
 ·rw [if_pos ht, ht]
  have h2 : seeR a k2 = false := by unfold seeR; rw [ht]; simp [hne]
  rw [h2]
  cases hs : seeR a k1 <;> simp
 ·have hs : seeR a k1 = false := by unfold seeR; simp [ht]
  rw [hs]
  by_cases ht2 : a.text_ = k2
  ·rw [ht2]
   have hne' : ¬ k2 = k1 := fun h => hne h.symm
   cases hs2 : seeR a k2 <;> simp [hne']
  ·have hs2 : seeR a k2 = false := by unfold seeR; simp [ht2]
   rw [hs2]; simp [ht, ht2]
theorem lt1 {k : List UInt8} {z : Int} : ∀ i, i < n → (if Se Lf i k then some z else none : Option Int).isSome = true → i + 1 < n := by
 intro i hi h
 cases hs : Se Lf i k with
 | true => exact T.lt hi hs
 | false => rw [hs] at h; simp at h
theorem lt2 {k1 k2 : List UInt8} {z1 z2 : Int} : ∀ i, i < n → (if Se Lf i k1 then some z1 else if Se Lf i k2 then some z2 else none : Option Int).isSome = true → i + 1 < n := by
 intro i hi h
 cases hs : Se Lf i k1 with
 | true => exact T.lt hi hs
 | false =>
  cases hs2 : Se Lf i k2 with
  | true => exact T.lt hi hs2
  | false => rw [hs, hs2] at h; simp at h
theorem body_both (g x0 r) : Body n Lf (fun j => if Se Lf j [97, 110, 100] then some 4 else none) g (ref06_reader_both_L0 N g x0 r) := by
 refine ⟨fun op v ks L j o e w he => ?_, fun op v ks j o hj hop => ?_, fun op v ks j o c hj hop => ?_⟩
 ·unfold ref06_reader_both_L0; simp only [e0 he]; rfl
 ·unfold ref06_reader_both_L0
  simp only
  rw [show ((0 : Int) == 0) = true from rfl, cond_true, show (⟨Lf, (j : Int), o, 0, 0⟩ : pileupref06_reader) = RB Lf j o 0 0 from rfl, m_see T hj]
  cases hs : Se Lf j [97, 110, 100] with
  | true => simp only [hs, if_true] at hop; cases hop
  | false => rfl
 ·unfold ref06_reader_both_L0
  simp only
  rw [show ((0 : Int) == 0) = true from rfl, cond_true, show (⟨Lf, (j : Int), o, 0, 0⟩ : pileupref06_reader) = RB Lf j o 0 0 from rfl, m_see T hj]
  cases hs : Se Lf j [97, 110, 100] with
  | false => simp only [hs, Bool.false_eq_true, if_false] at hop; cases hop
  | true =>
   simp only [hs, if_true, Option.some.injEq] at hop
   subst hop
   simp only [Option.bind_some, cond_true, W1 T hj]
   rfl
theorem body_expr (g x0 r) : Body n Lf (fun j => if Se Lf j [111, 114] then some 5 else none) g (ref06_reader_expr_L0 N g x0 r) := by
 refine ⟨fun op v ks L j o e w he => ?_, fun op v ks j o hj hop => ?_, fun op v ks j o c hj hop => ?_⟩
 ·unfold ref06_reader_expr_L0; simp only [e0 he]; rfl
 ·unfold ref06_reader_expr_L0
  simp only
  rw [show ((0 : Int) == 0) = true from rfl, cond_true, show (⟨Lf, (j : Int), o, 0, 0⟩ : pileupref06_reader) = RB Lf j o 0 0 from rfl, m_see T hj]
  cases hs : Se Lf j [111, 114] with
  | true => simp only [hs, if_true] at hop; cases hop
  | false => rfl
 ·unfold ref06_reader_expr_L0
  simp only
  rw [show ((0 : Int) == 0) = true from rfl, cond_true, show (⟨Lf, (j : Int), o, 0, 0⟩ : pileupref06_reader) = RB Lf j o 0 0 from rfl, m_see T hj]
  cases hs : Se Lf j [111, 114] with
  | false => simp only [hs, Bool.false_eq_true, if_false] at hop; cases hop
  | true =>
   simp only [hs, if_true, Option.some.injEq] at hop
   subst hop
   simp only [Option.bind_some, cond_true, W1 T hj]
   rfl
theorem body_term (g x0 r) : Body n Lf (fun j => if Se Lf j [42] then some 10 else none) g (ref06_reader_term_L0 N g x0 r) := by
 refine ⟨fun op v ks L j o e w he => ?_, fun op v ks j o hj hop => ?_, fun op v ks j o c hj hop => ?_⟩
 ·unfold ref06_reader_term_L0; simp only [e0 he]; rfl
 ·unfold ref06_reader_term_L0
  simp only
  rw [show ((0 : Int) == 0) = true from rfl, cond_true, show (⟨Lf, (j : Int), o, 0, 0⟩ : pileupref06_reader) = RB Lf j o 0 0 from rfl, m_see T hj]
  cases hs : Se Lf j [42] with
  | true => simp only [hs, if_true] at hop; cases hop
  | false => rfl
 ·unfold ref06_reader_term_L0
  simp only
  rw [show ((0 : Int) == 0) = true from rfl, cond_true, show (⟨Lf, (j : Int), o, 0, 0⟩ : pileupref06_reader) = RB Lf j o 0 0 from rfl, m_see T hj]
  cases hs : Se Lf j [42] with
  | false => simp only [hs, Bool.false_eq_true, if_false] at hop; cases hop
  | true =>
   simp only [hs, if_true, Option.some.injEq] at hop
   subst hop
   simp only [Option.bind_some, cond_true, W1 T hj]
   rfl
theorem body_sum (g x0 r) : Body n Lf (fun j => if Se Lf j [43] then some 8 else if Se Lf j [45] then some 9 else none) g (ref06_reader_sum_L0 N g x0 r) := by
 refine ⟨fun op v ks L j o e w he => ?_, fun op v ks j o hj hop => ?_, fun op v ks j o c hj hop => ?_⟩
 ·unfold ref06_reader_sum_L0; simp only [e0 he]; rfl
 ·unfold ref06_reader_sum_L0
  simp only
  rw [show ((0 : Int) == 0) = true from rfl, cond_true, show (⟨Lf, (j : Int), o, 0, 0⟩ : pileupref06_reader) = RB Lf j o 0 0 from rfl, m_see T hj, m_see T hj]
  cases hs : Se Lf j [43] with
  | true => simp only [hs, if_true] at hop; cases hop
  | false =>
   cases hs2 : Se Lf j [45] with
   | true => simp only [hs, hs2, Bool.false_eq_true, if_false, if_true] at hop; cases hop
   | false => rfl
 ·unfold ref06_reader_sum_L0
  simp only
  rw [show ((0 : Int) == 0) = true from rfl, cond_true, show (⟨Lf, (j : Int), o, 0, 0⟩ : pileupref06_reader) = RB Lf j o 0 0 from rfl, m_see T hj, m_see T hj]
  cases hs : Se Lf j [43] with
  | true =>
   simp only [hs, if_true, Option.some.injEq] at hop
   subst hop
   simp only [Option.bind_some, cond_true, W1 T hj]
   rfl
  | false =>
   cases hs2 : Se Lf j [45] with
   | false => simp only [hs, hs2, Bool.false_eq_true, if_false] at hop; cases hop
   | true =>
    simp only [hs, hs2, Bool.false_eq_true, if_false, if_true, Option.some.injEq] at hop
    subst hop
    simp only [Option.bind_some, cond_true, cond_false, W1 T hj]
    rfl
end
end Go.Proofs.YtaihlcdkcampbaaGreatDoor
namespace Go.Proofs.YtaihlcdkcampbaaGreatDoor
section
variable {N n : Nat} {Lr : List rules_token} {Lf : List pileupref06_token} (T : Toks n Lr Lf)
include T
theorem RB_next {i : Nat} (hi : i < n) (o : Int) : (⟨(RS Lf i o).L, W64 ((RS Lf i o).At + 1), (RS Lf i o).Open, (RS Lf i o).Bad, (RS Lf i o).Where⟩ : pileupref06_reader) = RS Lf (i + 1) o := by
 show (⟨Lf, W64 ((i : Int) + 1), o, 0, 0⟩ : pileupref06_reader) = _
 rw [W1 T hi]; rfl
theorem deny_sim {K : Nat} {fd ft : rules_parser → Option (rules_bad ⊕ (rules_parser × Expr))} {gd gt : pileupref06_reader → Option (pileupref06_reader × Expr)} (hd : Agr n Lr Lf 5 K fd gd) (ht : Agr n Lr Lf 4 K ft gt) :
  Agr n Lr Lf 5 (K + 1) (rules_parser_deny_S N fd ft) (ref06_reader_deny_S N gd gt) := by
 intro i o hi h0 h32 hK
 unfold rules_parser_deny_S ref06_reader_deny_S
 rw [m_accept T hi o (by decide), show ((RS Lf i o).Bad == 0) = true from rfl, cond_true, m_see T hi]
 cases hs : Se Lf i [110, 111, 116] with
 | true =>
  have hlt := T.lt hi hs
  obtain ⟨p, r, e1, e2, h⟩ := hd (i + 1) o hlt h0 h32 (by omega)
  simp only [Option.bind_some, cond_true, RB_next T hi, e1, e2]
  cases h with
  | err e w j o' x he hj => exact ⟨_, _, rfl, rfl, .err e w j o' _ he hj⟩
  | ok j x h1 h2 hx =>
   refine ⟨_, _, rfl, rfl, .ok j _ (by omega) h2 ?_⟩
   obtain ⟨d, hd⟩ : ∃ d, j - i = d + 1 := ⟨j - i - 1, by omega⟩
   rw [hd]
   refine ⟨by show 1 < 10; omega, by show 1 < 9223372036854775808; omega, fun u hu => ?_⟩
   have hu' : u ∈ [x] := hu
   simp only [List.mem_cons, List.not_mem_nil, or_false] at hu'
   subst hu'
   exact hx.le (by omega)
 | false =>
  obtain ⟨p, r, e1, e2, h⟩ := ht i o hi h0 h32 (by omega)
  simp only [Option.bind_some, cond_false, e1, e2]
  cases h with
  | err e w j o' x he hj => exact ⟨_, _, rfl, rfl, .err e w j o' _ he hj⟩
  | ok j x h1 h2 hx => exact ⟨_, _, rfl, rfl, .ok j _ h1 h2 hx⟩
theorem ht_pair {i j q : Nat} {op : Int} {x y : Expr} (hx : Ht 10 (j - i) x) (hy : Ht 10 (q - (j + 1)) y) (h1 : i < j) (h2 : j + 1 < q) : Ht 10 (q - i) ⟨op, 0, [x, y]⟩ := by
 obtain ⟨d, hd⟩ : ∃ d, q - i = d + 1 := ⟨q - i - 1, by omega⟩
 rw [hd]
 refine ⟨by show 2 < 10; omega, by show 2 < 9223372036854775808; omega, fun u hu => ?_⟩
 have hu' : u ∈ [x, y] := hu
 simp only [List.mem_cons, List.not_mem_nil, or_false] at hu'
 rcases hu' with rfl | rfl
 ·exact hx.le (by omega)
 ·exact hy.le (by omega)
theorem test_sim {K : Nat} {fs : rules_parser → Option (rules_bad ⊕ (rules_parser × Expr))} {gs : pileupref06_reader → Option (pileupref06_reader × Expr)} (hs : Agr n Lr Lf 3 K fs gs) :
  Agr n Lr Lf 4 (K + 1) (rules_parser_test_S N fs) (ref06_reader_test_S N gs) := by
 intro i o hi h0 h32 hK
 obtain ⟨p, r, e1, e2, h⟩ := hs i o hi h0 h32 (by omega)
 unfold rules_parser_test_S ref06_reader_test_S
 rw [e1, e2]
 simp only [Option.bind_some]
 cases h with
 | err e w j o' x he hj =>
  refine ⟨.inl ⟨e, w⟩, (RB Lf j o' e w, x), rfl, ?_, .err e w j o' _ he hj⟩
  show (((bif (e == 0) then _ else some false).bind _)) = _
  rw [e0 he]; rfl
 | ok j x h1 h2 hx =>
  simp only [sk]
  rw [m_accept T h2 o (by decide), show ((RS Lf j o).Bad == 0) = true from rfl, cond_true, m_see T h2, m_see T h2]
  cases hq : Se Lf j [61] with
  | true =>
   have hlt := T.lt h2 hq
   obtain ⟨p2, r2, e3, e4, h'⟩ := hs (j + 1) o hlt h0 h32 (by omega)
   simp only [Option.bind_some, cond_true, RB_next T h2, e3, e4]
   cases h' with
   | err e w q o' y he hj => exact ⟨_, _, rfl, rfl, .err e w q o' _ he hj⟩
   | ok q y hy1 hy2 hy => exact ⟨_, _, rfl, rfl, .ok q _ (by omega) hy2 (ht_pair T hx hy h1 hy1)⟩
  | false =>
   simp only [Option.bind_some, cond_false]
   rw [m_accept T h2 o (by decide)]
   cases hl : Se Lf j [60] with
   | true =>
    have hlt := T.lt h2 hl
    obtain ⟨p2, r2, e3, e4, h'⟩ := hs (j + 1) o hlt h0 h32 (by omega)
    simp only [Option.bind_some, cond_true, cond_false, RB_next T h2, e3, e4]
    cases h' with
    | err e w q o' y he hj => exact ⟨_, _, rfl, rfl, .err e w q o' _ he hj⟩
    | ok q y hy1 hy2 hy => exact ⟨_, _, rfl, rfl, .ok q _ (by omega) hy2 (ht_pair T hx hy h1 hy1)⟩
   | false => exact ⟨_, _, rfl, rfl, .ok j _ h1 h2 hx⟩
end
section
variable {N n : Nat} {Lr : List rules_token} {Lf : List pileupref06_token} (T : Toks n Lr Lf) {g : pileupref06_reader → Option (pileupref06_reader × Expr)} {j : Nat} {e w : Int} (he : e ≠ 0) (hg : ∀ o, g (RB Lf j o e w) = some (RB Lf j o e w, zE))
include T he hg
end
end Go.Proofs.YtaihlcdkcampbaaGreatDoor
namespace Go.Proofs.YtaihlcdkcampbaaGreatDoor
section
variable (N : Nat) (g : pileupref06_reader → Option (pileupref06_reader × Expr)) (f : rules_parser → Option (rules_bad ⊕ (rules_parser × Expr)))
def F6 (c x : Expr) (r : pileupref06_reader × Expr) : Option (pileupref06_reader × Expr) := (ref06_reader_shut N r.1).bind fun r312 => some (r312, ({ Op := 11, Value := 0, Kids := [c, x, r.2] } : Expr))
def F5 (c x : Expr) (r : pileupref06_reader) : Option (pileupref06_reader × Expr) := (g r).bind (F6 N c x)
def F4 (c : Expr) (r : pileupref06_reader × Expr) : Option (pileupref06_reader × Expr) := (ref06_reader_take N r.1 [44]).bind (F5 N g c r.2)
def F3 (c : Expr) (r : pileupref06_reader) : Option (pileupref06_reader × Expr) := (g r).bind (F4 N g c)
def F2 (r : pileupref06_reader × Expr) : Option (pileupref06_reader × Expr) := (ref06_reader_take N r.1 [44]).bind (F3 N g r.2)
def F1 (r : pileupref06_reader) : Option (pileupref06_reader × Expr) := (g r).bind (F2 N g)
def F0 (r : pileupref06_reader) : Option (pileupref06_reader × Expr) := (ref06_reader_open N r).bind (F1 N g)
def inlQ : rules_bad → Option (rules_bad ⊕ (rules_parser × Expr)) := fun b => some (.inl b)
def H6 (c x : Expr) (r : rules_parser × Expr) : Option (rules_bad ⊕ (rules_parser × Expr)) := (rules_parser_leave N r.1).bind fun q => sk q inlQ fun r259 => some (.inr (r259, ({ Op := 11, Value := 0, Kids := [c, x, r.2] } : Expr)))
def H5 (c x : Expr) (r : rules_parser) : Option (rules_bad ⊕ (rules_parser × Expr)) := (f r).bind fun q => sk q inlQ (H6 N c x)
def H4 (c : Expr) (r : rules_parser × Expr) : Option (rules_bad ⊕ (rules_parser × Expr)) := (rules_parser_expect N r.1 [44]).bind fun q => sk q inlQ (H5 N f c r.2)
def H3 (c : Expr) (r : rules_parser) : Option (rules_bad ⊕ (rules_parser × Expr)) := (f r).bind fun q => sk q inlQ (H4 N f c)
def H2 (r : rules_parser × Expr) : Option (rules_bad ⊕ (rules_parser × Expr)) := (rules_parser_expect N r.1 [44]).bind fun q => sk q inlQ (H3 N f r.2)
def H1 (r : rules_parser) : Option (rules_bad ⊕ (rules_parser × Expr)) := (f r).bind fun q => sk q inlQ (H2 N f)
def H0 (r : rules_parser) : Option (rules_bad ⊕ (rules_parser × Expr)) := (rules_parser_enter N r).bind fun q => sk q inlQ (H1 N f)
def P2 (r : pileupref06_reader × Expr) : Option (pileupref06_reader × Expr) := (ref06_reader_shut N r.1).bind fun r224 => some (r224, r.2)
def P1 (r : pileupref06_reader) : Option (pileupref06_reader × Expr) := (g r).bind (P2 N)
def P0 (r : pileupref06_reader) : Option (pileupref06_reader × Expr) := (ref06_reader_open N r).bind (P1 N g)
def Q2 (r : rules_parser × Expr) : Option (rules_bad ⊕ (rules_parser × Expr)) := (rules_parser_leave N r.1).bind fun q => sk q inlQ fun r389 => some (.inr (r389, r.2))
def Q1 (r : rules_parser) : Option (rules_bad ⊕ (rules_parser × Expr)) := (f r).bind fun q => sk q inlQ (Q2 N)
def Q0 (r : rules_parser) : Option (rules_bad ⊕ (rules_parser × Expr)) := (rules_parser_enter N r).bind fun q => sk q inlQ (Q1 N f)
end
section
variable {N n : Nat} {Lr : List rules_token} {Lf : List pileupref06_token} (T : Toks n Lr Lf) {g : pileupref06_reader → Option (pileupref06_reader × Expr)} {f : rules_parser → Option (rules_bad ⊕ (rules_parser × Expr))}
def Dead (Lf : List pileupref06_token) (g : pileupref06_reader → Option (pileupref06_reader × Expr)) : Prop := ∀ (j : Nat) (o e w : Int), e ≠ 0 → g (RB Lf j o e w) = some (RB Lf j o e w, zE)
def Fails (Lf : List pileupref06_token) (j : Nat) (e w : Int) (q : Option (pileupref06_reader × Expr)) : Prop := ∃ o' X, q = some (RB Lf j o' e w, X)
include T
theorem d6 {j : Nat} {o e w : Int} (he : e ≠ 0) (c x y : Expr) : Fails Lf j e w (F6 N c x (RB Lf j o e w, y)) := by
 obtain ⟨o', h⟩ := shut_bad T (N := N) (i := j) (o := o) (w := w) he
 exact ⟨o', _, by unfold F6; rw [h]; rfl⟩
theorem d5 (hg : Dead Lf g) {j : Nat} {o e w : Int} (he : e ≠ 0) (c x : Expr) : Fails Lf j e w (F5 N g c x (RB Lf j o e w)) := by
 unfold F5; rw [hg j o e w he]; exact d6 T he c x zE
theorem d4 (hg : Dead Lf g) {j : Nat} {o e w : Int} (he : e ≠ 0) (c x : Expr) : Fails Lf j e w (F4 N g c (RB Lf j o e w, x)) := by
 unfold F4; rw [m_take_bad T he]; exact d5 T hg he c x
theorem d3 (hg : Dead Lf g) {j : Nat} {o e w : Int} (he : e ≠ 0) (c : Expr) : Fails Lf j e w (F3 N g c (RB Lf j o e w)) := by
 unfold F3; rw [hg j o e w he]; exact d4 T hg he c zE
theorem d2 (hg : Dead Lf g) {j : Nat} {o e w : Int} (he : e ≠ 0) (c : Expr) : Fails Lf j e w (F2 N g (RB Lf j o e w, c)) := by
 unfold F2; rw [m_take_bad T he]; exact d3 T hg he c
theorem d1 (hg : Dead Lf g) {j : Nat} {o e w : Int} (he : e ≠ 0) : Fails Lf j e w (F1 N g (RB Lf j o e w)) := by
 unfold F1; rw [hg j o e w he]; exact d2 T hg he zE
theorem d0 (hg : Dead Lf g) {j : Nat} {o e w : Int} (he : e ≠ 0) : Fails Lf j e w (F0 N g (RB Lf j o e w)) := by
 obtain ⟨o', h⟩ := open_bad T (N := N) (i := j) (o := o) (w := w) he
 unfold F0; rw [h]; exact d1 T hg he
theorem dp2 {j : Nat} {o e w : Int} (he : e ≠ 0) (x : Expr) : Fails Lf j e w (P2 N (RB Lf j o e w, x)) := by
 obtain ⟨o', h⟩ := shut_bad T (N := N) (i := j) (o := o) (w := w) he
 exact ⟨o', _, by unfold P2; rw [h]; rfl⟩
theorem dp1 (hg : Dead Lf g) {j : Nat} {o e w : Int} (he : e ≠ 0) : Fails Lf j e w (P1 N g (RB Lf j o e w)) := by
 unfold P1; rw [hg j o e w he]; exact dp2 T he zE
def Both (n : Nat) (Lr : List rules_token) (Lf : List pileupref06_token) (i : Nat) (o : Int) (P : Option (rules_bad ⊕ (rules_parser × Expr))) (R : Option (pileupref06_reader × Expr)) : Prop := ∃ p r, P = some p ∧ R = some r ∧ Out n Lr Lf i o p r
omit T in
theorem Both.fail {i j : Nat} {o e w : Int} {P : Option (rules_bad ⊕ (rules_parser × Expr))} {R : Option (pileupref06_reader × Expr)} (hP : P = some (.inl ⟨e, w⟩)) (hR : Fails Lf j e w R) (he : e ≠ 0) (hj : j < n) : Both n Lr Lf i o P R := by
 obtain ⟨o', X, rfl⟩ := hR
 exact ⟨_, _, hP, rfl, .err e w j o' X he hj⟩
theorem s6 {i j : Nat} {o : Int} (h0 : 0 ≤ o) (h32 : o < 32) (hij : i < j) (hj : j < n) {c x y : Expr} (hc : Ht 10 (j - i) c) (hx : Ht 10 (j - i) x) (hy : Ht 10 (j - i) y) : Both n Lr Lf i o (H6 N c x (PS Lr j (o + 1), y)) (F6 N c x (RS Lf j (o + 1), y)) := by
 unfold H6 F6
 rw [m_leave T hj (by omega) (by omega), m_shut T hj (by omega) (by omega)]
 cases hs : Se Lf j [41] with
 | false => exact Both.fail rfl ⟨_, _, rfl⟩ (by decide) hj
 | true =>
  have e : o + 1 - 1 = o := by omega
  simp only [cond_true, Option.bind_some, sk, e]
  refine ⟨_, _, rfl, rfl, .ok (j + 1) _ (by omega) (T.lt hj hs) ?_⟩
  obtain ⟨d, hd⟩ : ∃ d, j - i = d := ⟨_, rfl⟩
  rw [show j + 1 - i = d + 1 by omega]
  rw [hd] at hc hx hy
  refine ⟨by show 3 < 10; omega, by show 3 < 9223372036854775808; omega, fun u hu => ?_⟩
  have hu' : u ∈ [c, x, y] := hu
  simp only [List.mem_cons, List.not_mem_nil, or_false] at hu'
  rcases hu' with rfl | rfl | rfl <;> assumption
theorem s5 {K : Nat} (hfg : Agr n Lr Lf 7 K f g) {i j : Nat} {o : Int} (h0 : 0 ≤ o) (h32 : o < 32) (hij : i < j) (hj : j < n) (hK : 8 * (n - j) + 7 ≤ K) {c x : Expr} (hc : Ht 10 (j - i) c) (hx : Ht 10 (j - i) x) : Both n Lr Lf i o (H5 N f c x (PS Lr j (o + 1))) (F5 N g c x (RS Lf j (o + 1))) := by
 obtain ⟨p, r, e1, e2, h⟩ := hfg j (o + 1) hj (by omega) (by omega) hK
 unfold H5 F5
 rw [e1, e2]
 simp only [Option.bind_some]
 cases h with
 | err e w q o' y he hq => exact Both.fail rfl (d6 T he c x y) he hq
 | ok q y h1 h2 hy => exact s6 T h0 h32 (by omega) h2 (hc.le (by omega)) (hx.le (by omega)) (hy.le (by omega))
theorem s4 {K : Nat} (hfg : Agr n Lr Lf 7 K f g) (hg : Dead Lf g) {i j : Nat} {o : Int} (h0 : 0 ≤ o) (h32 : o < 32) (hij : i < j) (hj : j < n) (hK : 8 * (n - j) + 7 ≤ K) {c x : Expr} (hc : Ht 10 (j - i) c) (hx : Ht 10 (j - i) x) : Both n Lr Lf i o (H4 N f c (PS Lr j (o + 1), x)) (F4 N g c (RS Lf j (o + 1), x)) := by
 unfold H4 F4
 rw [m_expect T hj _ (by decide), m_take T hj]
 cases hs : Se Lf j [44] with
 | false => exact Both.fail rfl (d5 T hg (by decide) c x) (by decide) hj
 | true =>
  have hl := T.lt hj hs
  simp only [cond_true, Option.bind_some, sk]
  exact s5 T hfg h0 h32 (by omega) hl (by omega) (hc.le (by omega)) (hx.le (by omega))
theorem s3 {K : Nat} (hfg : Agr n Lr Lf 7 K f g) (hg : Dead Lf g) {i j : Nat} {o : Int} (h0 : 0 ≤ o) (h32 : o < 32) (hij : i < j) (hj : j < n) (hK : 8 * (n - j) + 7 ≤ K) {c : Expr} (hc : Ht 10 (j - i) c) : Both n Lr Lf i o (H3 N f c (PS Lr j (o + 1))) (F3 N g c (RS Lf j (o + 1))) := by
 obtain ⟨p, r, e1, e2, h⟩ := hfg j (o + 1) hj (by omega) (by omega) hK
 unfold H3 F3
 rw [e1, e2]
 simp only [Option.bind_some]
 cases h with
 | err e w q o' y he hq => exact Both.fail rfl (d4 T hg he c y) he hq
 | ok q y h1 h2 hy => exact s4 T hfg hg h0 h32 (by omega) h2 (by omega) (hc.le (by omega)) (hy.le (by omega))
theorem s2 {K : Nat} (hfg : Agr n Lr Lf 7 K f g) (hg : Dead Lf g) {i j : Nat} {o : Int} (h0 : 0 ≤ o) (h32 : o < 32) (hij : i < j) (hj : j < n) (hK : 8 * (n - j) + 7 ≤ K) {c : Expr} (hc : Ht 10 (j - i) c) : Both n Lr Lf i o (H2 N f (PS Lr j (o + 1), c)) (F2 N g (RS Lf j (o + 1), c)) := by
 unfold H2 F2
 rw [m_expect T hj _ (by decide), m_take T hj]
 cases hs : Se Lf j [44] with
 | false => exact Both.fail rfl (d3 T hg (by decide) c) (by decide) hj
 | true =>
  have hl := T.lt hj hs
  simp only [cond_true, Option.bind_some, sk]
  exact s3 T hfg hg h0 h32 (by omega) hl (by omega) (hc.le (by omega))
theorem s1 {K : Nat} (hfg : Agr n Lr Lf 7 K f g) (hg : Dead Lf g) {i j : Nat} {o : Int} (h0 : 0 ≤ o) (h32 : o < 32) (hij : i < j) (hj : j < n) (hK : 8 * (n - j) + 7 ≤ K) : Both n Lr Lf i o (H1 N f (PS Lr j (o + 1))) (F1 N g (RS Lf j (o + 1))) := by
 obtain ⟨p, r, e1, e2, h⟩ := hfg j (o + 1) hj (by omega) (by omega) hK
 unfold H1 F1
 rw [e1, e2]
 simp only [Option.bind_some]
 cases h with
 | err e w q o' y he hq => exact Both.fail rfl (d2 T hg he y) he hq
 | ok q y h1 h2 hy => exact s2 T hfg hg h0 h32 (by omega) h2 (by omega) (hy.le (by omega))
theorem s0 {K : Nat} (hfg : Agr n Lr Lf 7 K f g) (hg : Dead Lf g) {i j : Nat} {o : Int} (h0 : 0 ≤ o) (h32 : o ≤ 32) (hij : i < j) (hj : j < n) (hK : 8 * (n - j) ≤ K) : Both n Lr Lf i o (H0 N f (PS Lr j o)) (F0 N g (RS Lf j o)) := by
 unfold H0 F0
 rw [m_enter T hj h0 h32, m_open T hj h0 h32]
 cases hs : Se Lf j [40] with
 | false => exact Both.fail rfl (d1 T hg (by decide)) (by decide) hj
 | true =>
  have hl := T.lt hj hs
  simp only [cond_true, Option.bind_some]
  by_cases ho : o = 32
  ·rw [if_pos ho, if_pos ho]; exact Both.fail rfl (d1 T hg (by decide)) (by decide) hj
  ·rw [if_neg ho, if_neg ho]
   exact s1 T hfg hg h0 (by omega) (by omega) hl (by omega)
theorem p2 {i j : Nat} {o : Int} (h0 : 0 ≤ o) (h32 : o < 32) (hij : i < j) (hj : j < n) {x : Expr} (hx : Ht 10 (j - i) x) : Both n Lr Lf i o (Q2 N (PS Lr j (o + 1), x)) (P2 N (RS Lf j (o + 1), x)) := by
 unfold Q2 P2
 rw [m_leave T hj (by omega) (by omega), m_shut T hj (by omega) (by omega)]
 cases hs : Se Lf j [41] with
 | false => exact Both.fail rfl ⟨_, _, rfl⟩ (by decide) hj
 | true =>
  have e : o + 1 - 1 = o := by omega
  simp only [cond_true, Option.bind_some, sk, e]
  exact ⟨_, _, rfl, rfl, .ok (j + 1) _ (by omega) (T.lt hj hs) (hx.le (by omega))⟩
theorem par0 {K : Nat} (hfg : Agr n Lr Lf 7 K f g) (hg : Dead Lf g) {i : Nat} {o : Int} (h0 : 0 ≤ o) (h32 : o ≤ 32) (hi : i < n) (hK : 8 * (n - i) ≤ K) (hs : Se Lf i [40] = true) : Both n Lr Lf i o (Q0 N f (PS Lr i o)) (P0 N g (RS Lf i o)) := by
 unfold Q0 P0
 rw [m_enter T hi h0 h32, m_open T hi h0 h32, hs]
 have hl := T.lt hi hs
 simp only [cond_true, Option.bind_some]
 by_cases ho : o = 32
 ·rw [if_pos ho, if_pos ho]; exact Both.fail rfl (dp1 T hg (by decide)) (by decide) hi
 ·rw [if_neg ho, if_neg ho]
  simp only [sk]
  obtain ⟨p, r, e1, e2, h⟩ := hfg (i + 1) (o + 1) hl (by omega) (by omega) (by omega)
  unfold Q1 P1
  rw [e1, e2]
  simp only [Option.bind_some]
  cases h with
  | err e w q o' y he hq => exact Both.fail rfl (dp2 T he y) he hq
  | ok q y h1 h2 hy => exact p2 T h0 (by omega) (by omega) h2 (hy.le (by omega))
end
end Go.Proofs.YtaihlcdkcampbaaGreatDoor
namespace Go.Proofs.YtaihlcdkcampbaaGreatDoor
open Go.Proofs
def slices_IndexFunc_api_Clause_api_Clause_L0 (N : Nat) (x0 : (List Clause)) (x1 : (Clause → Option Bool)) : Int → Option (Flow Int Int) := fun s24 =>
 (bif (decide (s24 < (x0.length : Int))) then ((idx x0 s24).bind fun x47 => ((x1 x47).bind fun r61 => (bif r61 then some (.ret s24) else some (.next (W64 (s24 + 1)))))) else some (.done s24))
def slices_IndexFunc_api_Clause_api_Clause (N : Nat) (x0 : (List Clause)) (x1 : (Clause → Option Bool)) : Option Int :=
 ((iter (slices_IndexFunc_api_Clause_api_Clause_L0 N x0 x1) N 0).bind fun o => o.k (fun r => some r) (fun s33 => some (-1)))
theorem co_slices_IndexFunc_api_Clause_api_Clause : CallOk Tryz.prog 162 := fun _ _ => by kernel_rfl
theorem c_slices_IndexFunc_api_Clause_api_Clause (N : Nat) (w0 : World) (F0 : Mem) (hF : ∀ b o, F0 b = some o → w0.heap[b]? = some o) (x0 : (List Clause)) (a0_0 : Option Addr) (n0_0 : Nat) (hb0_0 : LC x0.length n0_0) (hs0_0 : SlA tClause F0 a0_0 x0) (gx1 : FuncId) (fx1 kx1 : List Value) (x1 : Clause → Option Bool) (hox1 : CallOk Tryz.prog gx1) (hpx1 : Fn148 F0 gx1 fx1 kx1 x1) (r : Int) (h : slices_IndexFunc_api_Clause_api_Clause N x0 x1 = some r) :
  Calls Tryz.prog 162 ([(.slice a0_0 x0.length n0_0), (.func (.func gx1) fx1.toArray kx1.toArray)] : List Value).toArray w0 (FRet w0 F0 fun F' v => v = (vi r)) := by
 have hs0 := HS.start hF
 refine Go 19 Tryz.func162 ?_
 refine Sq (Rg [0] ?_)
 refine Vs 1 ?_
 refine Nss ?_
 refine Sq (Rg [0, 1, 2] ?_)
 refine Vs 3 ?_
 refine Nt ?_
 obtain ⟨o21, ho22, h23⟩ := bind_some h
 refine CWP.cut (fun f w => ∃ (s33 : Int) (F2 : Mem), o21 = .done s33 ∧ HS w0 F0 w F2 [] ∧ Mem.le F0 F2 ∧ FI f [] []) ?_ ?_
 ·refine Bk ?_
  refine CWP.loop (by kernel_rfl) (fun m f w => ∃ (s24 : Int) (F1 : Mem), iter (slices_IndexFunc_api_Clause_api_Clause_L0 N x0 x1) m s24 = some o21 ∧ HS w0 F0 w F1 [] ∧ Mem.le F0 F1 ∧ FI f [] [(0, (.slice a0_0 x0.length n0_0)), (1, (.func (.func gx1) fx1.toArray kx1.toArray)), (7, (vi (x0.length : Int))), (8, (vi s24))]) N ⟨0, F0, ho22, hs0, (Mem.le.refl _), fI⟩ ?_
  rintro m38 f w25 ⟨s24, F1, hit39, hs26, le27, ⟨_, rfl⟩⟩
  obtain ⟨m40, fl41, rfl, hb42, hnx43⟩ := iter_step hit39
  refine Sq (Rg [0] ?_)
  refine Vs 1 ?_
  refine Nss ?_
  refine Cd hb42 (fun hb44 h45 => ?_) (fun hb44 h46 => ?_)
  ·refine Sc ?_
   refine thenQ_nrm ?_
   refine Sq ?_
   refine Bk ?_
   refine Sq (Rg [0, 1] ?_)
   refine Vs 2 ?_
   refine Nss (Rg [0, 1, 2, 3, 4, 5] ?_)
   refine Vs 3 ?_
   obtain ⟨x47, hx48, h50⟩ := bind_some h45
   obtain ⟨hi49, hx48'⟩ := idx_spec hx48
   obtain ⟨b51, o52, C53, E54, fz55, rfl, hF57, hE58⟩ := SlA.open (SlA.mono hs0_0 le27) hx48'
   obtain ⟨ae59_2, ne59_2, ae59_5, ne59_5, hc60, hbe59_2, hse59_2, hbe59_5, hse59_5⟩ := hE58 _ _ hx48'
   refine Ix hi49 ?_
   refine Lx 0 (hs26.pers _ _ hF57) hc60 ?_
   obtain ⟨r61, hr62, h63⟩ := bind_some h50
   refine Cq hox1 hs26 (hpx1 w25 F1 (x47) ae59_2 ne59_2 hbe59_2 hse59_2 ae59_5 ne59_5 hbe59_5 hse59_5 _ le27 hs26.pers hr62) ?_
   rintro _ F3 w65 hs66 le67 rfl
   refine Nt ?_
   refine Cd h63 (fun hb69 h70 => ?_) (fun hb69 h71 => ?_)
   ·refine Sq (Rg [0, 1] ?_)
    refine Vs 2 ?_
    refine Nt ?_
    refine Rt ?_
    refine blockQ_ret ?_
    refine thenQ_ret ?_
    refine thenQ_ret ?_
    refine blockQ_ret ?_
    have hret := iter_ret h70 hnx43
    subst hret
    refine .inr ?_
    refine thenQ_ret ?_
    obtain rfl := some_inj h23
    exact Re [(vi s24)] hs66 rfl
   ·refine Sc ?_
    refine blockQ_nrm ?_
    refine thenQ_nrm ?_
    refine Rg [0, 1] ?_
    refine Vs 2 ?_
    refine RWP.nil ?_
    have hn72 := iter_next h71 hnx43
    exact ⟨m40, Nat.lt_succ_self _, (W64 (s24 + 1)), F3, hn72, hs66, (le27.trans le67), fI⟩
  ·refine Ex ?_
   refine thenQ_ex ?_
   refine thenQ_ex ?_
   refine blockQ_hit rfl ?_
   have ho73 := iter_done h46 hnx43
   exact .inl ⟨rfl, s24, F1, ho73, hs26, le27, fI⟩
 ·rintro f w34 ⟨s33, F2, rfl, hs35, le36, ⟨_, rfl⟩⟩
  have h74 := k_done h23
  refine thenQ_nrm ?_
  refine Sq (Rg [0] ?_)
  refine Vs 1 ?_
  refine Nt ?_
  refine Rt ?_
  obtain rfl := some_inj h74
  exact Re [(vi (-1))] hs35 rfl
end Go.Proofs.YtaihlcdkcampbaaGreatDoor
namespace Go.Proofs.YtaihlcdkcampbaaGreatDoor
open Go.Proofs
end Go.Proofs.YtaihlcdkcampbaaGreatDoor
namespace Go.Proofs.YtaihlcdkcampbaaGreatDoor
open Go.Proofs
end Go.Proofs.YtaihlcdkcampbaaGreatDoor
namespace Go.Proofs.YtaihlcdkcampbaaGreatDoor
open Go.Proofs
end Go.Proofs.YtaihlcdkcampbaaGreatDoor
namespace Go.Proofs.YtaihlcdkcampbaaGreatDoor
open Go.Proofs
def rules_first_1 (N : Nat) (x0 : Clause) (z0 : (List Int)) : Option Bool :=
 ((rules_value N x0.When z0).bind fun r24 => some (r24 == 1))
theorem co_rules_first_1 : CallOk Tryz.prog 163 := fun _ _ => by kernel_rfl
theorem c_rules_first_1 (N : Nat) (w0 : World) (F0 : Mem) (hF : ∀ b o, F0 b = some o → w0.heap[b]? = some o) (x0 : Clause) (a0_2 : Option Addr) (n0_2 : Nat) (hb0_2 : LC x0.When.Kids.length n0_2) (hs0_2 : SlA tExpr F0 a0_2 x0.When.Kids) (a0_5 : Option Addr) (n0_5 : Nat) (hb0_5 : LC x0.Then.Kids.length n0_5) (hs0_5 : SlA tExpr F0 a0_5 x0.Then.Kids) (bz0 : Nat) (z0 : (List Int)) (az0_0 : Option Addr) (nz0_0 : Nat) (hbz0_0 : LC z0.length nz0_0) (hsz0_0 : SlA tInt F0 az0_0 z0) (hz0 : F0 bz0 = some (oc #[(.slice az0_0 z0.length nz0_0)] 47)) (r : Bool) (h : rules_first_1 N x0 z0 = some r) :
  Calls Tryz.prog 163 ([(.agg (kClause x0 a0_2 n0_2 a0_5 n0_5)), (pt bz0 0)] : List Value).toArray w0 (FRet w0 F0 fun F' v => v = (.bool r)) := by
 have hs0 := HS.start hF
 refine Go 9 Tryz.func163 ?_
 refine Sq (Rg [0, 1] ?_)
 refine Bx' 56 (kClause x0 a0_2 n0_2 a0_5 n0_5) hs0 (fun b21 w22 hs23 => ?_)
 refine Vs 1 ?_
 refine Nss (Rg [0, 1, 2, 3, 4, 5] ?_)
 refine Vs 1 ?_
 refine Ld hs23.at0 ?_
 refine Ld (hs23.pers _ _ hz0) ?_
 obtain ⟨r24, hr25, h26⟩ := bind_some h
 refine Cl' co_rules_value hs23 (c_rules_value N w22 F0 hs23.pers (x0.When) a0_2 n0_2 hb0_2 hs0_2 (z0) az0_0 nz0_0 hbz0_0 hsz0_0 _ hr25) ?_
 rintro _ F1 w28 hs29 le30 rfl
 refine Vs 2 ?_
 refine Nt ?_
 refine Rt ?_
 obtain rfl := some_inj h26
 exact Re [(.bool (r24 == 1))] hs29 rfl
end Go.Proofs.YtaihlcdkcampbaaGreatDoor
namespace Go.Proofs.YtaihlcdkcampbaaGreatDoor
open Go.Proofs
def rules_first (N : Nat) (x0 : (List Clause)) (x1 : (List Int)) : Option Int :=
 ((slices_IndexFunc_api_Clause_api_Clause N x0 (fun y0 => rules_first_1 N y0 x1)).bind fun r27 => some r27)
theorem co_rules_first : CallOk Tryz.prog 103 := fun _ _ => by kernel_rfl
theorem c_rules_first (N : Nat) (w0 : World) (F0 : Mem) (hF : ∀ b o, F0 b = some o → w0.heap[b]? = some o) (x0 : (List Clause)) (a0_0 : Option Addr) (n0_0 : Nat) (hb0_0 : LC x0.length n0_0) (hs0_0 : SlA tClause F0 a0_0 x0) (x1 : (List Int)) (a1_0 : Option Addr) (n1_0 : Nat) (hb1_0 : LC x1.length n1_0) (hs1_0 : SlA tInt F0 a1_0 x1) (r : Int) (h : rules_first N x0 x1 = some r) :
  Calls Tryz.prog 103 ([(.slice a0_0 x0.length n0_0), (.slice a1_0 x1.length n1_0)] : List Value).toArray w0 (FRet w0 F0 fun F' v => v = (vi r)) := by
 have hs0 := HS.start hF
 refine Go 8 Tryz.func103 ?_
 refine Sq (Rg [0, 1] ?_)
 refine Bx' 47 #[(.slice a1_0 x1.length n1_0)] hs0 (fun b21 w22 hs23 => ?_)
 refine Vs 1 ?_
 refine Nss (Rg [0, 1, 2, 3] ?_)
 refine Vs 2 ?_
 obtain ⟨F1, hs24, le25, hF26⟩ := hs23.fc0
 obtain ⟨r27, hr28, h29⟩ := bind_some h
 refine Cl' co_slices_IndexFunc_api_Clause_api_Clause hs24 (c_slices_IndexFunc_api_Clause_api_Clause N w22 F1 hs24.pers (x0) a0_0 n0_0 hb0_0 (SlA.mono hs0_0 le25) 163 [] [(pt b21 0)] (fun y0 => rules_first_1 N y0 x1) co_rules_first_1 (fun w1 F1 y0 ay0_2 ny0_2 hby0_2 hsy0_2 ay0_5 ny0_5 hby0_5 hsy0_5 r le1 pe1 hr1 => c_rules_first_1 N w1 F1 pe1  y0 ay0_2 ny0_2 hby0_2 hsy0_2 ay0_5 ny0_5 hby0_5 hsy0_5 b21 x1 a1_0 n1_0 hb1_0 (SlA.mono (SlA.mono hs1_0 le25) le1) (le1 _ _ hF26) r hr1) _ hr28) ?_
 rintro _ F2 w31 hs32 le33 rfl
 refine Vs 1 ?_
 refine Nt ?_
 refine Rt ?_
 obtain rfl := some_inj h29
 exact Re [(vi r27)] hs32 rfl
end Go.Proofs.YtaihlcdkcampbaaGreatDoor
namespace Go.Proofs.YtaihlcdkcampbaaGreatDoor
open Go.Proofs
end Go.Proofs.YtaihlcdkcampbaaGreatDoor
namespace Go.Proofs.YtaihlcdkcampbaaGreatDoor
open Go.Proofs
end Go.Proofs.YtaihlcdkcampbaaGreatDoor
namespace Go.Proofs.YtaihlcdkcampbaaGreatDoor
open Go.Proofs
end Go.Proofs.YtaihlcdkcampbaaGreatDoor
namespace Go.Proofs.YtaihlcdkcampbaaGreatDoor
open Go.Proofs
end Go.Proofs.YtaihlcdkcampbaaGreatDoor
namespace Go.Proofs.YtaihlcdkcampbaaGreatDoor
open Go.Proofs
end Go.Proofs.YtaihlcdkcampbaaGreatDoor
namespace Go.Proofs.YtaihlcdkcampbaaGreatDoor
open Go.Proofs
end Go.Proofs.YtaihlcdkcampbaaGreatDoor
namespace Go.Proofs.YtaihlcdkcampbaaGreatDoor
open Go.Proofs
end Go.Proofs.YtaihlcdkcampbaaGreatDoor
namespace Go.Proofs.YtaihlcdkcampbaaGreatDoor
open Go.Proofs
end Go.Proofs.YtaihlcdkcampbaaGreatDoor
namespace Go.Proofs.YtaihlcdkcampbaaGreatDoor
open Go.Proofs
end Go.Proofs.YtaihlcdkcampbaaGreatDoor
namespace Go.Proofs.YtaihlcdkcampbaaGreatDoor
open Go.Proofs
def slices_Grow_api_Clause_api_Clause (N : Nat) (x1 : Int) : Option (List Clause) :=
 (bif (decide (x1 < 0)) then none else (bif (decide ((W64 (x1 - (W64 (0 - (([] : List Clause).length : Int))))) > 0)) then ((mk0 ({ When := ({ Op := 0, Value := 0, Kids := ([] : List Expr) } : Expr), Then := ({ Op := 0, Value := 0, Kids := ([] : List Expr) } : Expr) } : Clause) (W64 (x1 - (W64 (0 - (([] : List Clause).length : Int)))))).bind fun r7 => ((sub r7 0 (([] : List Clause).length : Int)).bind fun r17 => some r17)) else some ([] : List Clause)))
theorem co_slices_Grow_api_Clause_api_Clause : CallOk Tryz.prog 173 := fun _ _ => by kernel_rfl
theorem c_slices_Grow_api_Clause_api_Clause (N : Nat) (w0 : World) (F0 : Mem) (hF : ∀ b o, F0 b = some o → w0.heap[b]? = some o) (x1 : Int) (r : (List Clause)) (h : slices_Grow_api_Clause_api_Clause N x1 = some r) :
  Calls Tryz.prog 173 ([.slice none 0 0, (vi x1)] : List Value).toArray w0 (FRetO w0 F0 fun F' v L' => ∃ (a : Option Addr) (n : Nat) (e : Option Nat × Obj), v = .slice a r.length n ∧ L' = [e] ∧ RowR tClause 56 F' a n r e) := by
 have hs0 := HS.start hF
 refine calls_of (n := 27) (c := bodyOf Tryz.f173) Tryz.func173 (by kernel_rfl) (by kernel_rfl) (by kernel_rfl) ?_
 refine Sq (Rg [0] ?_)
 refine Vs 1 ?_
 refine Nss ?_
 refine Sq (Rg [0, 1] ?_)
 refine Vs 1 ?_
 refine Vs 1 ?_
 refine Nt ?_
 refine Cd h (fun hb1 h2 => ?_) (fun hb1 h3 => ?_)
 ·refine Rg [0, 1] ?_
  refine V 7 20 (run_mkIface' (t := 9) (x := (.const (.string ⟨([99, 97, 110, 110, 111, 116, 32, 98, 101, 32, 110, 101, 103, 97, 116, 105, 118, 101] : List UInt8).toArray⟩))) (v := (.string ⟨(([99, 97, 110, 110, 111, 116, 32, 98, 101, 32, 110, 101, 103, 97, 116, 105, 118, 101] : List UInt8)).toArray⟩)) rfl (by kernel_rfl)) ?_
  cases h2
 ·refine Sc ?_
  refine thenQ_nrm ?_
  refine Sq ?_
  refine Sq (Rg [0, 1, 2, 3, 4, 5, 6, 7] ?_)
  refine Vs 1 ?_
  refine Vs 1 ?_
  refine V 10 3 (run_cap_slice (x := (.tmp 9)) (ats := #[23]) (a := none) (n := 0) (c := 0) (E := 56) (s := 6) (by_ := 80) rfl rfl (by kernel_rfl)) ?_
  refine Vs 1 ?_
  refine Vs 1 ?_
  refine Vs 1 ?_
  refine Vs 1 ?_
  refine Vs 1 ?_
  refine Nss (Rg [0, 1] ?_)
  refine Vs 1 ?_
  refine Vs 1 ?_
  refine Nt ?_
  refine Cd h3 (fun hb4 h5 => ?_) (fun hb4 h6 => ?_)
  ·refine Rg [0, 1, 2, 3, 4, 5, 6, 7, 8, 9] ?_
   refine Vs 1 ?_
   refine Vs 1 ?_
   refine V 19 3 (run_cap_slice (x := (.tmp 18)) (ats := #[23]) (a := none) (n := 0) (c := 0) (E := 56) (s := 6) (by_ := 80) rfl rfl (by kernel_rfl)) ?_
   refine V 20 23 (run_slice_nil (t := 23) (x := (.tmp 17)) (y := (.tmp 19)) (E := 56) (s := 6) (by_ := 80) rfl (by kernel_rfl) (by kernel_rfl) rfl) ?_
   refine Vs 1 ?_
   obtain ⟨r7, hm8, h9⟩ := bind_some h5
   refine RWP.appendNil (dst := (some 22)) (ty := 23) (g := none) (by kernel_rfl) rfl (x := (.tmp 20)) (y := (.tmp 21)) (t := 23) (t2 := 3) (by_ := 80) (z := (.agg #[(vi 0), (vi 0), (.slice none ([] : List Expr).length 0), (vi 0), (vi 0), (.slice none ([] : List Expr).length 0)])) (T := tClause) (E := 56) rfl rfl (by kernel_rfl) (by decide) (by kernel_rfl) (by kernel_rfl) (z0 := ({ When := ({ Op := 0, Value := 0, Kids := ([] : List Expr) } : Expr), Then := ({ Op := 0, Value := 0, Kids := ([] : List Expr) } : Expr) } : Clause)) (fun _ => ⟨none, 0, none, 0, rfl, LC.nil, (.inl rfl), LC.nil, (.inl rfl)⟩) (by decide) hs0 hm8 (fun a10 n11 e12 w13 (hs14 : HS w0 F0 w13 F0 [e12]) hr15 => ?_)
   refine Vs 1 ?_
   refine Vs 1 ?_
   obtain ⟨r17, hr18, h19⟩ := bind_some h9
   refine RWP.sliceRow (T := tClause) (x := (.tmp 22)) (y := (.tmp 24)) (t := 23) (E := 56) (by_ := 80) (c := n11) (a := a10) (l := r7) (r := r17) (ih := (([] : List Clause).length : Int)) (dst := (some 25)) (ty := 23) (g := none) (by kernel_rfl) rfl rfl (by kernel_rfl) (by kernel_rfl) hr15 rfl hr18 (fun hr20 => ?_)
   refine Vs 1 ?_
   refine Nss (Rg [0, 1] ?_)
   refine Vs 1 ?_
   refine Vs 1 ?_
   refine Nt ?_
   refine Rt ?_
   have hfin := some_inj h19
   subst hfin
   exact ⟨rfl, (.slice a10 r17.length n11), res_of (l := [.tmp 4]) (by kernel_rfl) (vs := [(.slice a10 r17.length n11)]) ⟨rfl, trivial⟩, (.slice a10 r17.length n11), F0, _, rfl, hs14, _, _, _, rfl, rfl, hr20⟩
  ·refine Sc ?_
   refine thenQ_nrm ?_
   refine Sq (Rg [0, 1] ?_)
   refine Vs 1 ?_
   refine Vs 1 ?_
   refine Nt ?_
   refine Rt ?_
   have hs21 := hs0.dummy (oc #[] 0)
   have hfin := some_inj h6
   subst hfin
   exact ⟨rfl, (.slice none ([] : List Clause).length 0), res_of (l := [.tmp 4]) (by kernel_rfl) (vs := [(.slice none ([] : List Clause).length 0)]) ⟨rfl, trivial⟩, (.slice none ([] : List Clause).length 0), F0, _, rfl, hs21, _, _, _, rfl, rfl, (RowR.nil tClause 56 F0 _)⟩
end Go.Proofs.YtaihlcdkcampbaaGreatDoor
namespace Go.Proofs.YtaihlcdkcampbaaGreatDoor
open Go.Proofs
def slices_Concat_api_Clause_api_Clause_L0 (N : Nat) (x0 : (List (List Clause))) : (Int × Int) → Option (Flow (List Clause) (Int × Int)) := fun s24 =>
 (bif (decide (s24.2 < (x0.length : Int))) then ((idx x0 s24.2).bind fun x50 => (bif (decide ((W64 (s24.1 + (x50.length : Int))) < 0)) then none else some (.next ((W64 (s24.1 + (x50.length : Int))), (W64 (s24.2 + 1)))))) else some (.done (s24.1, s24.2)))
def slices_Concat_api_Clause_api_Clause_L1 (N : Nat) (x0 : (List (List Clause))) (s34 : (Int × Int)) (r70 : (List Clause)) : (List Clause × Int) → Option (Flow (List Clause) (List Clause × Int)) := fun s87 =>
 (bif (decide (s87.2 < (x0.length : Int))) then ((idx x0 s87.2).bind fun x111 => ((apnd s87.1 x111).bind fun r125 => some (.next (r125, (W64 (s87.2 + 1)))))) else some (.done (s87.1, s87.2)))
def slices_Concat_api_Clause_api_Clause (N : Nat) (x0 : (List (List Clause))) : Option (List Clause) :=
 ((iter (slices_Concat_api_Clause_api_Clause_L0 N x0) N (0, 0)).bind fun o => o.k (fun r => some r) (fun s34 => ((slices_Grow_api_Clause_api_Clause N s34.1).bind fun r70 => ((iter (slices_Concat_api_Clause_api_Clause_L1 N x0 s34 r70) N (r70, 0)).bind fun o => o.k (fun r => some r) (fun s96 => some s96.1)))))
theorem co_slices_Concat_api_Clause_api_Clause : CallOk Tryz.prog 122 := fun _ _ => by kernel_rfl
theorem c_slices_Concat_api_Clause_api_Clause (N : Nat) (w0 : World) (F0 : Mem) (hF : ∀ b o, F0 b = some o → w0.heap[b]? = some o) (x0 : (List (List Clause))) (a0_0 : Option Addr) (n0_0 : Nat) (hb0_0 : LC x0.length n0_0) (hs0_0 : SlA (tSl tClause) F0 a0_0 x0) (r : (List Clause)) (h : slices_Concat_api_Clause_api_Clause N x0 = some r) :
  Calls Tryz.prog 122 ([(.slice a0_0 x0.length n0_0)] : List Value).toArray w0 (FRet w0 F0 fun F' v => ∃ (aq0_0 : Option Addr) (nq0_0 : Nat), v = (.slice aq0_0 r.length nq0_0) ∧ LC r.length nq0_0 ∧ SlA tClause F' aq0_0 r) := by
 have hs0 := HS.start hF
 refine Go 36 Tryz.func122 ?_
 refine Sq (Rg [0] ?_)
 refine Vs 1 ?_
 refine Nss (Rg [0] ?_)
 refine Vs 1 ?_
 refine Nss ?_
 refine Sq (Rg [0, 1, 2] ?_)
 refine Vs 3 ?_
 refine Nt ?_
 obtain ⟨o21, ho22, h23⟩ := bind_some h
 refine CWP.cut (fun f w => ∃ (s34 : (Int × Int)) (F2 : Mem), o21 = .done s34 ∧ HS w0 F0 w F2 [] ∧ Mem.le F0 F2 ∧ FI f [] [(0, (.slice a0_0 x0.length n0_0)), (3, (vi s34.1))]) ?_ ?_
 ·refine Bk ?_
  refine CWP.loop (by kernel_rfl) (fun m f w => ∃ (s24 : (Int × Int)) (F1 : Mem), iter (slices_Concat_api_Clause_api_Clause_L0 N x0) m s24 = some o21 ∧ HS w0 F0 w F1 [] ∧ Mem.le F0 F1 ∧ FI f [] [(0, (.slice a0_0 x0.length n0_0)), (3, (vi s24.1)), (9, (.slice a0_0 x0.length n0_0)), (10, (vi (x0.length : Int))), (11, (vi s24.2))]) N ⟨(0, 0), F0, ho22, hs0, (Mem.le.refl _), fI⟩ ?_
  rintro m41 f w25 ⟨s24, F1, hit42, hs26, le27, ⟨_, rfl⟩⟩
  obtain ⟨m43, fl44, rfl, hb45, hnx46⟩ := iter_step hit42
  refine Sq (Rg [0] ?_)
  refine Vs 1 ?_
  refine Nss ?_
  refine Cd hb45 (fun hb47 h48 => ?_) (fun hb47 h49 => ?_)
  ·refine Sc ?_
   refine thenQ_nrm ?_
   refine Sq ?_
   refine Bk ?_
   refine Sq (Rg [0, 1, 2] ?_)
   obtain ⟨x50, hx51, h53⟩ := bind_some h48
   obtain ⟨hi52, hx51'⟩ := idx_spec hx51
   obtain ⟨b54, o55, C56, E57, fz58, rfl, hF60, hE61⟩ := SlA.open (SlA.mono hs0_0 le27) hx51'
   obtain ⟨ae62_0, ne62_0, hc63, hbe62_0, hse62_0⟩ := hE61 _ _ hx51'
   refine Ix hi52 ?_
   refine Lx 0 (hs26.pers _ _ hF60) hc63 ?_
   refine Vs 1 ?_
   refine Nss (Rg [0, 1, 2, 3, 4] ?_)
   refine Vs 5 ?_
   refine Nss (Rg [0, 1] ?_)
   refine Vs 2 ?_
   refine Nt ?_
   refine Cd h53 (fun hb64 h65 => ?_) (fun hb64 h66 => ?_)
   ·refine Rg [0, 1] ?_
    refine V 21 20 (run_mkIface' (t := 9) (x := (.const (.string ⟨([108, 101, 110, 32, 111, 117, 116, 32, 111, 102, 32, 114, 97, 110, 103, 101] : List UInt8).toArray⟩))) (v := (.string ⟨(([108, 101, 110, 32, 111, 117, 116, 32, 111, 102, 32, 114, 97, 110, 103, 101] : List UInt8)).toArray⟩)) rfl (by kernel_rfl)) ?_
    cases h65
   ·refine Sc ?_
    refine blockQ_nrm ?_
    refine thenQ_nrm ?_
    refine Rg [0, 1] ?_
    refine Vs 2 ?_
    refine RWP.nil ?_
    have hn67 := iter_next h66 hnx46
    exact ⟨m43, Nat.lt_succ_self _, ((W64 (s24.1 + (x50.length : Int))), (W64 (s24.2 + 1))), F1, hn67, hs26, le27, fI⟩
  ·refine Ex ?_
   refine thenQ_ex ?_
   refine thenQ_ex ?_
   refine blockQ_hit rfl ?_
   have ho68 := iter_done h49 hnx46
   exact .inl ⟨rfl, (s24.1, s24.2), F1, ho68, hs26, le27, fI⟩
 ·rintro f w35 ⟨s34, F2, rfl, hs36, le37, ⟨_, rfl⟩⟩
  have h69 := k_done h23
  refine thenQ_nrm ?_
  refine Sq (Rg [0, 1, 2] ?_)
  refine Vs 1 ?_
  obtain ⟨r70, hr71, h72⟩ := bind_some h69
  refine RWP.callO (dst := (some 24)) (ty := 23) (g := none) (by kernel_rfl) rfl (f0 := (.func 173)) (aos := #[(.const (.slice none 0 0)), (.tmp 23)]) (ats := #[23, 3]) (fid := 173) (first := #[]) (cap := #[]) (args := [(.slice none ([] : List Clause).length 0), (vi s34.1)]) rfl co_slices_Grow_api_Clause_api_Clause (rfl) hs36 (c_slices_Grow_api_Clause_api_Clause N w35 F2 hs36.pers (s34.1) _ hr71) ?_
  rintro _ F3 w74 _ hs75 le76 ⟨a78, n79, e80, rfl, rfl, hr81⟩
  have hs83 : HS w0 F0 w74 F3 [e80] := hs75
  refine Vs 1 ?_
  refine Nss ?_
  refine Sq (Rg [0, 1, 2] ?_)
  refine Vs 3 ?_
  refine Nt ?_
  obtain ⟨o84, ho85, h86⟩ := bind_some h72
  refine CWP.cut (fun f w => ∃ (s96 : (List Clause × Int)) (F5 : Mem) (as96_0 : Option Addr) (ns96_0 : Nat) (es96_0 : Option Nat × Obj), o84 = .done s96 ∧ HS w0 F0 w F5 [es96_0] ∧ Mem.le F3 F5 ∧ FI f [] [(6, (.slice as96_0 s96.1.length ns96_0))] ∧ RowR tClause 56 F5 as96_0 ns96_0 s96.1 es96_0) ?_ ?_
  ·refine Bk ?_
   refine CWP.loop (by kernel_rfl) (fun m f w => ∃ (s87 : (List Clause × Int)) (F4 : Mem) (as87_0 : Option Addr) (ns87_0 : Nat) (es87_0 : Option Nat × Obj), iter (slices_Concat_api_Clause_api_Clause_L1 N x0 s34 r70) m s87 = some o84 ∧ HS w0 F0 w F4 [es87_0] ∧ Mem.le F3 F4 ∧ FI f [] [(6, (.slice as87_0 s87.1.length ns87_0)), (25, (.slice a0_0 x0.length n0_0)), (26, (vi (x0.length : Int))), (27, (vi s87.2))] ∧ RowR tClause 56 F4 as87_0 ns87_0 s87.1 es87_0) N ⟨(r70, 0), F3, a78, n79, e80, ho85, hs83, (Mem.le.refl _), fI, hr81⟩ ?_
   rintro m102 f w88 ⟨s87, F4, as87_0, ns87_0, es87_0, hit103, hs89, le90, ⟨_, rfl⟩, hrs87_0⟩
   obtain ⟨m104, fl105, rfl, hb106, hnx107⟩ := iter_step hit103
   refine Sq (Rg [0] ?_)
   refine Vs 1 ?_
   refine Nss ?_
   refine Cd hb106 (fun hb108 h109 => ?_) (fun hb108 h110 => ?_)
   ·refine Sc ?_
    refine thenQ_nrm ?_
    refine Sq ?_
    refine Bk ?_
    refine Sq (Rg [0, 1, 2] ?_)
    obtain ⟨x111, hx112, h114⟩ := bind_some h109
    obtain ⟨hi113, hx112'⟩ := idx_spec hx112
    obtain ⟨b115, o116, C117, E118, fz119, rfl, hF121, hE122⟩ := SlA.open (SlA.mono hs0_0 ((le37.trans le76).trans le90)) hx112'
    obtain ⟨ae123_0, ne123_0, hc124, hbe123_0, hse123_0⟩ := hE122 _ _ hx112'
    refine Ix hi113 ?_
    refine Lx 0 (hs89.pers _ _ hF121) hc124 ?_
    refine Vs 1 ?_
    refine Nt ?_
    refine Rg [0, 1, 2, 3] ?_
    refine Vs 2 ?_
    obtain ⟨r125, hap126, h127⟩ := bind_some h114
    refine Ap0 oClause hs89 hrs87_0 (SlA.rd hs89 hse123_0) hap126 (fun a128 n129 e130 w131 hs132 hr133 => ?_)
    refine Vs 1 ?_
    refine RWP.nil ?_
    refine blockQ_nrm ?_
    refine thenQ_nrm ?_
    refine Rg [0, 1] ?_
    refine Vs 2 ?_
    refine RWP.nil ?_
    have hn134 := iter_next h127 hnx107
    exact ⟨m104, Nat.lt_succ_self _, (r125, (W64 (s87.2 + 1))), F4, a128, n129, e130, hn134, hs132, le90, fI, hr133⟩
   ·refine Ex ?_
    refine thenQ_ex ?_
    refine thenQ_ex ?_
    refine blockQ_hit rfl ?_
    have ho135 := iter_done h110 hnx107
    exact .inl ⟨rfl, (s87.1, s87.2), F4, as87_0, ns87_0, es87_0, ho135, hs89, le90, fI, hrs87_0⟩
  ·rintro f w97 ⟨s96, F5, as96_0, ns96_0, es96_0, rfl, hs98, le99, ⟨_, rfl⟩, hrs96_0⟩
   have h136 := k_done h86
   refine thenQ_nrm ?_
   refine Sq (Rg [0, 1] ?_)
   refine Vs 2 ?_
   refine Nt ?_
   refine Rt ?_
   have hb140 := RowR.bound hrs96_0
   obtain ⟨F6, hs137, le138, hs139⟩ := hs98.fr0 hrs96_0
   obtain rfl := some_inj h136
   exact Re [(.slice as96_0 s96.1.length ns96_0)] hs137 ⟨as96_0, ns96_0, rfl, hb140, hs139⟩
end Go.Proofs.YtaihlcdkcampbaaGreatDoor
namespace Go.Proofs.YtaihlcdkcampbaaGreatDoor
open Go.Proofs
def rules_Check_L0 (N : Nat) (x0 : Book) (r36 : (List Clause)) : (Int × Int) → Option (Flow (Int × Int) (Int × Int)) := fun s47 =>
 (bif (decide (s47.2 < (r36.length : Int))) then ((idx r36 s47.2).bind fun x73 => ((rules_soundClause N x73).bind fun r92 => (bif (!r92) then some (.ret (62, (W64 (s47.1 + 1)))) else some (.next ((W64 (s47.1 + 1)), (W64 (s47.2 + 1))))))) else some (.done (s47.1, s47.2)))
def rules_Check_L1 (N : Nat) (x0 : Book) (r36 : (List Clause)) (s57 : (Int × Int)) : (Int × Int) → Option (Flow (Int × Int) (Int × Int)) := fun s109 =>
 (bif (decide (s109.2 < (x0.Repeats.length : Int))) then ((idx x0.Repeats s109.2).bind fun x132 => ((rules_is N x132 1).bind fun r151 => (bif (!r151) then some (.ret (62, (W64 (s109.1 + 1)))) else some (.next ((W64 (s109.1 + 1)), (W64 (s109.2 + 1))))))) else some (.done (s109.1, s109.2)))
def rules_Check (N : Nat) (x0 : Book) : Option (Int × Int) :=
 (bif (decide ((max (max (max (x0.Points.length : Int) (x0.Multipliers.length : Int)) (x0.Penalties.length : Int)) (x0.Repeats.length : Int)) > 64)) then some (2, 0) else ((slices_Concat_api_Clause_api_Clause N ([x0.Points, x0.Multipliers, x0.Penalties])).bind fun r36 => ((iter (rules_Check_L0 N x0 r36) N (0, 0)).bind fun o => o.k (fun r => some r) (fun s57 => ((iter (rules_Check_L1 N x0 r36 s57) N (s57.1, 0)).bind fun o => o.k (fun r => some r) (fun s118 => some (0, 0)))))))
theorem co_rules_Check : CallOk Tryz.prog 70 := fun _ _ => by kernel_rfl
theorem c_rules_Check (N : Nat) (w0 : World) (F0 : Mem) (hF : ∀ b o, F0 b = some o → w0.heap[b]? = some o) (x0 : Book) (a0_0 : Option Addr) (n0_0 : Nat) (hb0_0 : LC x0.Points.length n0_0) (hs0_0 : SlA tClause F0 a0_0 x0.Points) (a0_1 : Option Addr) (n0_1 : Nat) (hb0_1 : LC x0.Multipliers.length n0_1) (hs0_1 : SlA tClause F0 a0_1 x0.Multipliers) (a0_2 : Option Addr) (n0_2 : Nat) (hb0_2 : LC x0.Penalties.length n0_2) (hs0_2 : SlA tClause F0 a0_2 x0.Penalties) (a0_3 : Option Addr) (n0_3 : Nat) (hb0_3 : LC x0.Repeats.length n0_3) (hs0_3 : SlA tExpr F0 a0_3 x0.Repeats) (r : (Int × Int)) (h : rules_Check N x0 = some r) :
  Calls Tryz.prog 70 ([(.agg (kBook x0 a0_0 n0_0 a0_1 n0_1 a0_2 n0_2 a0_3 n0_3))] : List Value).toArray w0 (FRet w0 F0 fun F' v => v = (.tuple #[(vi r.1), (vi r.2)])) := by
 have hs0 := HS.start hF
 refine Go 57 Tryz.func70 ?_
 refine Sq (Rg [0, 1, 2] ?_)
 refine Bx' 26 (kBook x0 a0_0 n0_0 a0_1 n0_1 a0_2 n0_2 a0_3 n0_3) hs0 (fun b21 w22 hs23 => ?_)
 refine Vs 2 ?_
 refine Nss ?_
 refine Sq (Rg [0, 1, 2, 3, 4, 5, 6, 7, 8, 9, 10, 11, 12, 13] ?_)
 refine Vs 1 ?_
 refine Ld hs23.at0 ?_
 refine Vs 2 ?_
 refine Ld hs23.at0 ?_
 refine Vs 2 ?_
 refine Ld hs23.at0 ?_
 refine Vs 2 ?_
 refine Ld hs23.at0 ?_
 refine Vs 1 ?_
 refine V 21 3 (run_max4 (x := (.tmp 11)) (y := (.tmp 14)) (z := (.tmp 17)) (u := (.tmp 20)) (ats := #[3, 3, 3, 3]) (a := (x0.Points.length : Int)) (b := (x0.Multipliers.length : Int)) (c := (x0.Penalties.length : Int)) (d := (x0.Repeats.length : Int)) rfl rfl rfl rfl) ?_
 refine Vs 1 ?_
 refine Nt ?_
 refine Cd h (fun hb24 h25 => ?_) (fun hb24 h26 => ?_)
 ·refine Sq (Rg [0, 1] ?_)
  refine Vs 2 ?_
  refine Nt ?_
  refine Rt ?_
  refine thenQ_ret ?_
  obtain rfl := some_inj h25
  exact Re [(vi 2), (vi 0)] hs23 rfl
 ·refine Sc ?_
  refine thenQ_nrm ?_
  refine Sq (Rg [0] ?_)
  refine Vs 1 ?_
  refine Nss ?_
  refine Sq (Rg [0, 1, 2, 3, 4, 5, 6, 7, 8, 9] ?_)
  refine Vs 1 ?_
  refine Ld hs23.at0 ?_
  refine Vs 1 ?_
  refine Ld hs23.at0 ?_
  refine Vs 1 ?_
  refine Ld hs23.at0 ?_
  refine Bs 23 [(.slice a0_0 x0.Points.length n0_0), (.slice a0_1 x0.Multipliers.length n0_1), (.slice a0_2 x0.Penalties.length n0_2)] hs23 (fun b27 w28 hs29 => ?_)
  have hr31 : RowR (tSl tClause) 23 F0 (some ⟨b27, 0, none⟩) 3 [x0.Points, x0.Multipliers, x0.Penalties] (some b27, .cells ([(.slice a0_0 x0.Points.length n0_0), (.slice a0_1 x0.Multipliers.length n0_1), (.slice a0_2 x0.Penalties.length n0_2)] : List Value).toArray 23 (0, 0)) := RowR.lit ⟨⟨a0_0, n0_0, rfl, hb0_0, hs0_0⟩, ⟨⟨a0_1, n0_1, rfl, hb0_1, hs0_1⟩, ⟨⟨a0_2, n0_2, rfl, hb0_2, hs0_2⟩, rfl⟩⟩⟩ (by simp)
  have hb35 := RowR.bound hr31
  obtain ⟨F1, hs32, le33, hs34⟩ := hs29.fr0 hr31
  obtain ⟨r36, hr37, h38⟩ := bind_some h26
  refine Cl' co_slices_Concat_api_Clause_api_Clause hs32 (c_slices_Concat_api_Clause_api_Clause N w28 F1 hs32.pers ([x0.Points, x0.Multipliers, x0.Penalties]) (some ⟨b27, 0, none⟩) 3 hb35 hs34 _ hr37) ?_
  rintro _ F2 w40 hs41 le42 ⟨ar36_0_0, nr36_0_0, rfl, hbr36_0_0, hsr36_0_0⟩
  refine Vs 2 ?_
  refine Nt ?_
  obtain ⟨o44, ho45, h46⟩ := bind_some h38
  refine CWP.cut (fun f w => ∃ (s57 : (Int × Int)) (F4 : Mem), o44 = .done s57 ∧ HS w0 F0 w F4 [(sb b21 (kBook x0 a0_0 n0_0 a0_1 n0_1 a0_2 n0_2 a0_3 n0_3) 26)] ∧ Mem.le F2 F4 ∧ FI f [] [(1, (pt b21 0)), (4, (vi s57.1))]) ?_ ?_
  ·refine Bk ?_
   refine CWP.loop (by kernel_rfl) (fun m f w => ∃ (s47 : (Int × Int)) (F3 : Mem), iter (rules_Check_L0 N x0 r36) m s47 = some o44 ∧ HS w0 F0 w F3 [(sb b21 (kBook x0 a0_0 n0_0 a0_1 n0_1 a0_2 n0_2 a0_3 n0_3) 26)] ∧ Mem.le F2 F3 ∧ FI f [] [(1, (pt b21 0)), (4, (vi s47.1)), (30, (.slice ar36_0_0 r36.length nr36_0_0)), (31, (vi (r36.length : Int))), (32, (vi s47.2))]) N ⟨(0, 0), F2, ho45, hs41, (Mem.le.refl _), fI⟩ ?_
   rintro m64 f w48 ⟨s47, F3, hit65, hs49, le50, ⟨_, rfl⟩⟩
   obtain ⟨m66, fl67, rfl, hb68, hnx69⟩ := iter_step hit65
   refine Sq (Rg [0] ?_)
   refine Vs 1 ?_
   refine Nss ?_
   refine Cd hb68 (fun hb70 h71 => ?_) (fun hb70 h72 => ?_)
   ·refine Sc ?_
    refine thenQ_nrm ?_
    refine Sq ?_
    refine Bk ?_
    refine Sq (Rg [0, 1, 2, 3] ?_)
    obtain ⟨x73, hx74, h76⟩ := bind_some h71
    obtain ⟨hi75, hx74'⟩ := idx_spec hx74
    obtain ⟨b77, o78, C79, E80, fz81, rfl, hF83, hE84⟩ := SlA.open (SlA.mono hsr36_0_0 le50) hx74'
    obtain ⟨ae85_2, ne85_2, ae85_5, ne85_5, hc86, hbe85_2, hse85_2, hbe85_5, hse85_5⟩ := hE84 _ _ hx74'
    refine Ix hi75 ?_
    refine Lx 0 (hs49.pers _ _ hF83) hc86 ?_
    refine Al' 56 #[(vi 0), (vi 0), (.slice none ([] : List Expr).length 0), (vi 0), (vi 0), (.slice none ([] : List Expr).length 0)] hs49 (fun b87 w88 hs89 => ?_)
    refine St0 (kClause x73 ae85_2 ne85_2 ae85_5 ne85_5) hs89 (fun w90 hs91 => ?_)
    refine Nss (Rg [0, 1, 2] ?_)
    refine Vs 3 ?_
    refine Nss (Rg [0, 1, 2] ?_)
    refine Ld hs91.at0 ?_
    obtain ⟨r92, hr93, h94⟩ := bind_some h76
    refine Cl' co_rules_soundClause hs91 (c_rules_soundClause N w90 F3 hs91.pers (x73) ae85_2 ne85_2 hbe85_2 hse85_2 ae85_5 ne85_5 hbe85_5 hse85_5 _ hr93) ?_
    rintro _ F5 w96 hs97 le98 rfl
    refine Vs 1 ?_
    refine Nt ?_
    refine Cd h94 (fun hb100 h101 => ?_) (fun hb100 h102 => ?_)
    ·refine Sq (Rg [0, 1, 2] ?_)
     refine Vs 3 ?_
     refine Nt ?_
     refine Rt ?_
     refine blockQ_ret ?_
     refine thenQ_ret ?_
     refine thenQ_ret ?_
     refine blockQ_ret ?_
     have hret := iter_ret h101 hnx69
     subst hret
     refine .inr ?_
     refine thenQ_ret ?_
     obtain rfl := some_inj h46
     exact Re [(vi 62), (vi (W64 (s47.1 + 1)))] hs97 rfl
    ·refine Sc ?_
     refine blockQ_nrm ?_
     refine thenQ_nrm ?_
     refine Rg [0, 1] ?_
     refine Vs 2 ?_
     refine RWP.nil ?_
     have hn103 := iter_next h102 hnx69
     exact ⟨m66, Nat.lt_succ_self _, ((W64 (s47.1 + 1)), (W64 (s47.2 + 1))), F5, hn103, hs97.dr0, (le50.trans le98), fI⟩
   ·refine Ex ?_
    refine thenQ_ex ?_
    refine thenQ_ex ?_
    refine blockQ_hit rfl ?_
    have ho104 := iter_done h72 hnx69
    exact .inl ⟨rfl, (s47.1, s47.2), F3, ho104, hs49, le50, fI⟩
  ·rintro f w58 ⟨s57, F4, rfl, hs59, le60, ⟨_, rfl⟩⟩
   have h105 := k_done h46
   refine thenQ_nrm ?_
   refine Sq ?_
   refine Sq (Rg [0, 1, 2, 3] ?_)
   refine Vs 1 ?_
   refine Ld hs59.at0 ?_
   refine Vs 2 ?_
   refine Nt ?_
   obtain ⟨o106, ho107, h108⟩ := bind_some h105
   refine CWP.cut (fun f w => ∃ (s118 : (Int × Int)) (F7 : Mem), o106 = .done s118 ∧ HS w0 F0 w F7 [] ∧ Mem.le F4 F7 ∧ FI f [] []) ?_ ?_
   ·refine Bk ?_
    refine CWP.loop (by kernel_rfl) (fun m f w => ∃ (s109 : (Int × Int)) (F6 : Mem), iter (rules_Check_L1 N x0 r36 s57) m s109 = some o106 ∧ HS w0 F0 w F6 [] ∧ Mem.le F4 F6 ∧ FI f [] [(4, (vi s109.1)), (44, (.slice a0_3 x0.Repeats.length n0_3)), (45, (vi (x0.Repeats.length : Int))), (46, (vi s109.2))]) N ⟨(s57.1, 0), F4, ho107, hs59.dr0, (Mem.le.refl _), fI⟩ ?_
    rintro m123 f w110 ⟨s109, F6, hit124, hs111, le112, ⟨_, rfl⟩⟩
    obtain ⟨m125, fl126, rfl, hb127, hnx128⟩ := iter_step hit124
    refine Sq (Rg [0] ?_)
    refine Vs 1 ?_
    refine Nss ?_
    refine Cd hb127 (fun hb129 h130 => ?_) (fun hb129 h131 => ?_)
    ·refine Sc ?_
     refine thenQ_nrm ?_
     refine Sq ?_
     refine Bk ?_
     refine Sq (Rg [0, 1, 2, 3] ?_)
     obtain ⟨x132, hx133, h135⟩ := bind_some h130
     obtain ⟨hi134, hx133'⟩ := idx_spec hx133
     obtain ⟨b136, o137, C138, E139, fz140, rfl, hF142, hE143⟩ := SlA.open (SlA.mono hs0_3 (((le33.trans le42).trans le60).trans le112)) hx133'
     obtain ⟨ae144_2, ne144_2, hc145, hbe144_2, hse144_2⟩ := (tExpr_open (hE143 _ _ hx133'))
     refine Ix hi134 ?_
     refine Lx 0 (hs111.pers _ _ hF142) hc145 ?_
     refine Al' 33 #[(vi 0), (vi 0), (.slice none ([] : List Expr).length 0)] hs111 (fun b146 w147 hs148 => ?_)
     refine St0 (kExpr x132 ae144_2 ne144_2) hs148 (fun w149 hs150 => ?_)
     refine Nss (Rg [0, 1, 2] ?_)
     refine Vs 3 ?_
     refine Nss (Rg [0, 1, 2] ?_)
     refine Ld hs150.at0 ?_
     obtain ⟨r151, hr152, h153⟩ := bind_some h135
     refine Cl' co_rules_is hs150 (c_rules_is N w149 F6 hs150.pers (x132) ae144_2 ne144_2 hbe144_2 hse144_2 (1) _ hr152) ?_
     rintro _ F8 w155 hs156 le157 rfl
     refine Vs 1 ?_
     refine Nt ?_
     refine Cd h153 (fun hb159 h160 => ?_) (fun hb159 h161 => ?_)
     ·refine Sq (Rg [0, 1, 2] ?_)
      refine Vs 3 ?_
      refine Nt ?_
      refine Rt ?_
      refine blockQ_ret ?_
      refine thenQ_ret ?_
      refine thenQ_ret ?_
      refine blockQ_ret ?_
      have hret := iter_ret h160 hnx128
      subst hret
      refine .inr ?_
      refine thenQ_ret ?_
      obtain rfl := some_inj h108
      exact Re [(vi 62), (vi (W64 (s109.1 + 1)))] hs156 rfl
     ·refine Sc ?_
      refine blockQ_nrm ?_
      refine thenQ_nrm ?_
      refine Rg [0, 1] ?_
      refine Vs 2 ?_
      refine RWP.nil ?_
      have hn162 := iter_next h161 hnx128
      exact ⟨m125, Nat.lt_succ_self _, ((W64 (s109.1 + 1)), (W64 (s109.2 + 1))), F8, hn162, hs156.dr0, (le112.trans le157), fI⟩
    ·refine Ex ?_
     refine thenQ_ex ?_
     refine thenQ_ex ?_
     refine blockQ_hit rfl ?_
     have ho163 := iter_done h131 hnx128
     exact .inl ⟨rfl, (s109.1, s109.2), F6, ho163, hs111, le112, fI⟩
   ·rintro f w119 ⟨s118, F7, rfl, hs120, le121, ⟨_, rfl⟩⟩
    have h164 := k_done h108
    refine thenQ_nrm ?_
    refine Sq (Rg [0, 1] ?_)
    refine Vs 2 ?_
    refine Nt ?_
    refine Rt ?_
    obtain rfl := some_inj h164
    exact Re [(vi 0), (vi 0)] hs120 rfl
end Go.Proofs.YtaihlcdkcampbaaGreatDoor
namespace Go.Proofs.YtaihlcdkcampbaaGreatDoor
open Go.Proofs
def rules_Valid (N : Nat) (x0 : Book) : Option Bool :=
 ((rules_Check N x0).bind fun r24 => some (r24.1 == 0))
theorem co_rules_Valid : CallOk Tryz.prog 54 := fun _ _ => by kernel_rfl
theorem c_rules_Valid (N : Nat) (w0 : World) (F0 : Mem) (hF : ∀ b o, F0 b = some o → w0.heap[b]? = some o) (x0 : Book) (a0_0 : Option Addr) (n0_0 : Nat) (hb0_0 : LC x0.Points.length n0_0) (hs0_0 : SlA tClause F0 a0_0 x0.Points) (a0_1 : Option Addr) (n0_1 : Nat) (hb0_1 : LC x0.Multipliers.length n0_1) (hs0_1 : SlA tClause F0 a0_1 x0.Multipliers) (a0_2 : Option Addr) (n0_2 : Nat) (hb0_2 : LC x0.Penalties.length n0_2) (hs0_2 : SlA tClause F0 a0_2 x0.Penalties) (a0_3 : Option Addr) (n0_3 : Nat) (hb0_3 : LC x0.Repeats.length n0_3) (hs0_3 : SlA tExpr F0 a0_3 x0.Repeats) (r : Bool) (h : rules_Valid N x0 = some r) :
  Calls Tryz.prog 54 ([(.agg (kBook x0 a0_0 n0_0 a0_1 n0_1 a0_2 n0_2 a0_3 n0_3))] : List Value).toArray w0 (FRet w0 F0 fun F' v => v = (.bool r)) := by
 have hs0 := HS.start hF
 refine Go 12 Tryz.func54 ?_
 refine Sq (Rg [0, 1] ?_)
 refine Bx' 26 (kBook x0 a0_0 n0_0 a0_1 n0_1 a0_2 n0_2 a0_3 n0_3) hs0 (fun b21 w22 hs23 => ?_)
 refine Vs 1 ?_
 refine Nss (Rg [0, 1, 2, 3, 4, 5, 6] ?_)
 refine Ld hs23.at0 ?_
 obtain ⟨r24, hr25, h26⟩ := bind_some h
 refine Cl' co_rules_Check hs23 (c_rules_Check N w22 F0 hs23.pers (x0) a0_0 n0_0 hb0_0 hs0_0 a0_1 n0_1 hb0_1 hs0_1 a0_2 n0_2 hb0_2 hs0_2 a0_3 n0_3 hb0_3 hs0_3 _ hr25) ?_
 rintro _ F1 w28 hs29 le30 rfl
 refine Vs 5 ?_
 refine Nss (Rg [0, 1, 2] ?_)
 refine Vs 3 ?_
 refine Nt ?_
 refine Rt ?_
 obtain rfl := some_inj h26
 exact Re [(.bool (r24.1 == 0))] hs29 rfl
end Go.Proofs.YtaihlcdkcampbaaGreatDoor
namespace Go.Proofs.YtaihlcdkcampbaaGreatDoor
open Go.Proofs
def rules_wrong (N : Nat) (x0 : Book) (x1 : (List Int)) : Option Int :=
 ((rules_Valid N x0).bind fun r24 => (bif (!r24) then some 62 else ((rules_validFacts N x1).bind fun r35 => (bif (!r35) then some 63 else some 0))))
theorem co_rules_wrong : CallOk Tryz.prog 106 := fun _ _ => by kernel_rfl
theorem c_rules_wrong (N : Nat) (w0 : World) (F0 : Mem) (hF : ∀ b o, F0 b = some o → w0.heap[b]? = some o) (x0 : Book) (a0_0 : Option Addr) (n0_0 : Nat) (hb0_0 : LC x0.Points.length n0_0) (hs0_0 : SlA tClause F0 a0_0 x0.Points) (a0_1 : Option Addr) (n0_1 : Nat) (hb0_1 : LC x0.Multipliers.length n0_1) (hs0_1 : SlA tClause F0 a0_1 x0.Multipliers) (a0_2 : Option Addr) (n0_2 : Nat) (hb0_2 : LC x0.Penalties.length n0_2) (hs0_2 : SlA tClause F0 a0_2 x0.Penalties) (a0_3 : Option Addr) (n0_3 : Nat) (hb0_3 : LC x0.Repeats.length n0_3) (hs0_3 : SlA tExpr F0 a0_3 x0.Repeats) (x1 : (List Int)) (a1_0 : Option Addr) (n1_0 : Nat) (hb1_0 : LC x1.length n1_0) (hs1_0 : SlA tInt F0 a1_0 x1) (r : Int) (h : rules_wrong N x0 x1 = some r) :
  Calls Tryz.prog 106 ([(.agg (kBook x0 a0_0 n0_0 a0_1 n0_1 a0_2 n0_2 a0_3 n0_3)), (.slice a1_0 x1.length n1_0)] : List Value).toArray w0 (FRet w0 F0 fun F' v => v = (vi r)) := by
 have hs0 := HS.start hF
 refine Go 13 Tryz.func106 ?_
 refine Sq (Rg [0, 1] ?_)
 refine Bx' 26 (kBook x0 a0_0 n0_0 a0_1 n0_1 a0_2 n0_2 a0_3 n0_3) hs0 (fun b21 w22 hs23 => ?_)
 refine Vs 1 ?_
 refine Nss ?_
 refine Bk ?_
 refine Sq (Rg [0, 1, 2, 3] ?_)
 refine Ld hs23.at0 ?_
 obtain ⟨r24, hr25, h26⟩ := bind_some h
 refine Cl' co_rules_Valid hs23 (c_rules_Valid N w22 F0 hs23.pers (x0) a0_0 n0_0 hb0_0 hs0_0 a0_1 n0_1 hb0_1 hs0_1 a0_2 n0_2 hb0_2 hs0_2 a0_3 n0_3 hb0_3 hs0_3 _ hr25) ?_
 rintro _ F1 w28 hs29 le30 rfl
 refine Vs 2 ?_
 refine Nt ?_
 refine Cd h26 (fun hb32 h33 => ?_) (fun hb32 h34 => ?_)
 ·refine Sq (Rg [0] ?_)
  refine Vs 1 ?_
  refine Nt ?_
  refine Rt ?_
  refine blockQ_ret ?_
  refine thenQ_ret ?_
  obtain rfl := some_inj h33
  exact Re [(vi 62)] hs29 rfl
 ·refine Sq (Rg [0, 1, 2, 3] ?_)
  refine Vs 1 ?_
  obtain ⟨r35, hr36, h37⟩ := bind_some h34
  refine Cl' co_rules_validFacts hs29 (c_rules_validFacts N w28 F1 hs29.pers (x1) a1_0 n1_0 hb1_0 (SlA.mono hs1_0 le30) _ hr36) ?_
  rintro _ F2 w39 hs40 le41 rfl
  refine Vs 2 ?_
  refine Nt ?_
  refine Cd h37 (fun hb43 h44 => ?_) (fun hb43 h45 => ?_)
  ·refine Sq (Rg [0] ?_)
   refine Vs 1 ?_
   refine Nt ?_
   refine Rt ?_
   refine blockQ_ret ?_
   refine thenQ_ret ?_
   obtain rfl := some_inj h44
   exact Re [(vi 63)] hs40 rfl
  ·refine Sc ?_
   refine blockQ_nrm ?_
   refine thenQ_nrm ?_
   refine Sq (Rg [0] ?_)
   refine Vs 1 ?_
   refine Nt ?_
   refine Rt ?_
   obtain rfl := some_inj h45
   exact Re [(vi 0)] hs40 rfl
end Go.Proofs.YtaihlcdkcampbaaGreatDoor
namespace Go.Proofs.YtaihlcdkcampbaaGreatDoor
open Go.Proofs
end Go.Proofs.YtaihlcdkcampbaaGreatDoor
namespace Go.Proofs.YtaihlcdkcampbaaGreatDoor
open Go.Proofs
end Go.Proofs.YtaihlcdkcampbaaGreatDoor
namespace Go.Proofs.YtaihlcdkcampbaaGreatDoor
open Go.Proofs
end Go.Proofs.YtaihlcdkcampbaaGreatDoor
namespace Go.Proofs.YtaihlcdkcampbaaGreatDoor
structure FitL (N : Nat) (l : List Clause) : Prop where
 n : l.length < N
 w : l.length < 9223372036854775808
 c : ∀ c, c ∈ l → FitC N c
structure FitX (N : Nat) (l : List Expr) : Prop where
 n : l.length < N
 w : l.length < 9223372036854775808
 c : ∀ c, c ∈ l → Fit N c
structure FitB (N : Nat) (b : Book) : Prop where
 p : FitL N b.Points
 m : FitL N b.Multipliers
 e : FitL N b.Penalties
 r : FitX N b.Repeats
def fi {α : Type} (p : α → Bool) (l : List α) : Int := if l.any p then (l.findIdx p : Int) else -1
theorem fi_neg {α : Type} {p : α → Bool} {l : List α} : fi p l < 0 ↔ l.any p = false := by
 unfold fi; cases l.any p <;> simp
section
variable {N : Nat} {f : List Int}
end
section
variable {N : Nat} {f : List Int}
end
end Go.Proofs.YtaihlcdkcampbaaGreatDoor
namespace Go.Proofs.YtaihlcdkcampbaaGreatDoor
def NM : List (List UInt8) := [[98, 97, 110, 100], [109, 111, 100, 101], [104, 111, 117, 114], [109, 121, 99, 111, 117, 110, 116, 114, 121], [109, 121, 122, 111, 110, 101], [109, 121, 99, 111, 110, 116, 105, 110, 101, 110, 116], [99, 111, 117, 110, 116, 114, 121], [122, 111, 110, 101], [99, 111, 110, 116, 105, 110, 101, 110, 116], [99, 97, 108, 108], [103, 111, 116, 122, 111, 110, 101], [99, 97, 116, 101, 103, 111, 114, 121], [112, 111, 119, 101, 114], [115, 116, 97, 116, 117, 115]]
section
variable {N n : Nat} {Lr : List rules_token} {Lf : List pileupref06_token} (T : Toks n Lr Lf) {g : pileupref06_reader → Option (pileupref06_reader × Expr)} {f : rules_parser → Option (rules_bad ⊕ (rules_parser × Expr))}
theorem m_names : rules_names N = some NM := rfl
theorem m_fields : ref06_fields N = some NM := rfl
theorem m_Index (hN : 100 < N) (t : List UInt8) : slices_Index_string_string N NM t = some (fi (fun x => t == x) NM) := by
 unfold slices_Index_string_string fi
 rw [iter_first NM (fun x => t == x) (fun i => (i : Int)) (fun i hi => by
  unfold slices_Index_string_string_L0
  rw [lt_t hi, cond_true, idx_nat hi]; rfl) (by unfold slices_Index_string_string_L0; rw [lt_f, cond_false]) (show 14 < N by omega) (by decide)]
 cases NM.any fun x => t == x <;> rfl
include T
theorem rest_sim (hN : 100 < N) {K : Nat} (hfg : Agr n Lr Lf 7 K f g) (hg : Dead Lf g) {i : Nat} {o : Int} (hi : i < n) (h0 : 0 ≤ o) (h32 : o ≤ 32) (hK : 8 * (n - i) ≤ K) :
  Both n Lr Lf i o ((rules_parser_accept N (PS Lr i o) [105, 102]).bind fun r157 => bif r157.2 then H0 N f r157.1 else ((rules_parser_peek N r157.1 [40]).bind fun r348 => bif r348 then Q0 N f r157.1 else some (.inl ⟨60, atI Lf i⟩)))
   ((ref06_reader_see N (RS Lf i o) [40]).bind fun r193 => bif r193 then P0 N g (RS Lf i o) else ((ref06_reader_take N (RS Lf i o) [105, 102]).bind (F0 N g))) := by
 rw [m_accept T hi o (by decide), m_see T hi, m_take T hi]
 cases hs : Se Lf i [105, 102] with
 | true =>
  have hp : Se Lf i [40] = false := by
   cases hp : Se Lf i [40] with
   | false => rfl
   | true =>
    exfalso
    unfold Se at hs hp
    cases hb : Lf[i]? with
    | none => rw [hb] at hs; cases hs
    | some b =>
     rw [hb] at hs hp
     simp only at hs hp
     unfold seeF at hs hp
     simp only [Bool.and_eq_true, beq_iff_eq] at hs hp
     rw [hs.2] at hp
     exact absurd hp.2 (by decide)
  rw [hp]
  simp only [Option.bind_some, cond_true, cond_false]
  exact s0 T hfg hg h0 h32 (by omega) (T.lt hi hs) (by omega)
 | false =>
  simp only [Option.bind_some, cond_false]
  rw [m_peek T hi o (by decide)]
  cases hp : Se Lf i [40] with
  | true =>
   simp only [Option.bind_some, cond_true]
   exact par0 T hfg hg h0 h32 hi hK hp
  | false =>
   simp only [Option.bind_some, cond_false]
   exact Both.fail rfl (d0 T hg (by decide)) (by decide) hi
theorem item_sim (hN : 100 < N) {K : Nat} (hfg : Agr n Lr Lf 7 K f g) (hg : 8 ≤ K → Dead Lf g) : Agr n Lr Lf 1 (K + 1) (rules_parser_item_S N f) (ref06_reader_item_S N g) := by
 intro i o hi h0 h32 hK
 have hg := hg (by omega)
 have hK' : 8 * (n - i) ≤ K := by omega
 obtain ⟨a, b, ha, hb, hc, hd, he, hat⟩ := T.hd hi
 have hat' : a.at_ = atI Lf i := by unfold atI; rw [hb, hat]
 have rest := rest_sim T hN hfg hg hi h0 h32 hK'
 show Both n Lr Lf i o (rules_parser_item_S N f (PS Lr i o)) (ref06_reader_item_S N g (RS Lf i o))
 have hR : ∀ v : Int, fi (fun x => a.text_ == x) NM = v → rules_parser_item_S N f (PS Lr i o) =
   bif (a.kind_ == 1) then ((strconv_Atoi N a.text_).bind fun r74 => (bif (r74.2 || ((decide ((a.text_.length : Int) > 7)) || (decide (r74.1 > 1000000)))) then some (.inl ⟨60, a.at_⟩) else some (.inr (PS Lr (i + 1) o, ⟨1, r74.1, []⟩))))
   else bif ((a.kind_ == 2) && decide (v ≥ 0)) then some (.inr (PS Lr (i + 1) o, ⟨2, v, []⟩))
   else ((rules_parser_accept N (PS Lr i o) [105, 102]).bind fun r157 => bif r157.2 then H0 N f r157.1 else ((rules_parser_peek N r157.1 [40]).bind fun r348 => bif r348 then Q0 N f r157.1 else some (.inl ⟨60, a.at_⟩))) := by
  intro v hv
  unfold rules_parser_item_S
  rw [show (PS Lr i o).l_ = Lr.drop i from rfl, hc, Option.bind_some, m_names, Option.bind_some, m_Index hN, Option.bind_some, Option.bind_some, hv, sub_drop T hi]
  rfl
 have hF : ref06_reader_item_S N g (RS Lf i o) =
   ((bif (b.Kind == 1) then ((ref06_figure N b.Text).bind fun r75 => some (decide (r75 ≥ 0))) else some false).bind fun j65 => (bif j65 then ((ref06_figure N b.Text).bind fun r88 => some (RS Lf (i + 1) o, (⟨1, r88, []⟩ : Expr))) else
    ((iter (ref06_reader_item_L0 N g (RS Lf i o) (b.Kind, b.At, b.Text) j65 NM) N 0).bind fun q => q.k (fun r => some r) (fun _ => ((ref06_reader_see N (RS Lf i o) [40]).bind fun r193 => bif r193 then P0 N g (RS Lf i o) else ((ref06_reader_take N (RS Lf i o) [105, 102]).bind (F0 N g))))))) := by
  unfold ref06_reader_item_S
  rw [show ((RS Lf i o).Bad != 0) = false from rfl, cond_false, show (RS Lf i o).L = Lf from rfl, show (RS Lf i o).At = (i : Int) from rfl, hd]
  simp only [Option.bind_some, m_fields, W1 T hi]
  rfl
 have hit : ∀ j65, iter (ref06_reader_item_L0 N g (RS Lf i o) (b.Kind, b.At, b.Text) j65 NM) N 0 = some (bif NM.any (fun x => (b.Kind == 2) && (b.Text == x)) then .ret (RS Lf (i + 1) o, ⟨2, (NM.findIdx (fun x => (b.Kind == 2) && (b.Text == x)) : Int), []⟩) else .done (NM.length : Int)) := fun j65 =>
  iter_first NM (fun x => (b.Kind == 2) && (b.Text == x)) (fun k => ((RS Lf (i + 1) o, (⟨2, (k : Int), []⟩ : Expr)) : pileupref06_reader × Expr)) (body := ref06_reader_item_L0 N g (RS Lf i o) (b.Kind, b.At, b.Text) j65 NM) (fun k hk => by
   unfold ref06_reader_item_L0
   rw [lt_t hk, cond_true]
   simp only [idx_nat hk]
   rw [show (⟨(RS Lf i o).L, W64 ((RS Lf i o).At + 1), (RS Lf i o).Open, (RS Lf i o).Bad, (RS Lf i o).Where⟩ : pileupref06_reader) = RS Lf (i + 1) o from RB_next T hi o]
   cases b.Kind == 2 <;> rfl) (by unfold ref06_reader_item_L0; rw [lt_f, cond_false]) (show 14 < N by omega) (by decide)
 rw [hR _ rfl, hF, hat']
 have notwo : ¬ b.Kind = 2 → NM.any (fun x => (b.Kind == 2) && (b.Text == x)) = false := fun h => by
  rw [List.any_eq_false]; intro x _; simp [h]
 have other : ¬ a.kind_ = 1 → ¬ b.Kind = 1 → ¬ a.kind_ = 2 → ¬ b.Kind = 2 → Both n Lr Lf i o
   (bif (a.kind_ == 1) then ((strconv_Atoi N a.text_).bind fun r74 => (bif (r74.2 || ((decide ((a.text_.length : Int) > 7)) || (decide (r74.1 > 1000000)))) then some (.inl ⟨60, atI Lf i⟩) else some (.inr (PS Lr (i + 1) o, ⟨1, r74.1, []⟩))))
   else bif ((a.kind_ == 2) && decide (fi (fun x => a.text_ == x) NM ≥ 0)) then some (.inr (PS Lr (i + 1) o, ⟨2, fi (fun x => a.text_ == x) NM, []⟩))
   else ((rules_parser_accept N (PS Lr i o) [105, 102]).bind fun r157 => bif r157.2 then H0 N f r157.1 else ((rules_parser_peek N r157.1 [40]).bind fun r348 => bif r348 then Q0 N f r157.1 else some (.inl ⟨60, atI Lf i⟩))))
   ((bif (b.Kind == 1) then ((ref06_figure N b.Text).bind fun r75 => some (decide (r75 ≥ 0))) else some false).bind fun j65 => (bif j65 then ((ref06_figure N b.Text).bind fun r88 => some (RS Lf (i + 1) o, (⟨1, r88, []⟩ : Expr))) else
    ((iter (ref06_reader_item_L0 N g (RS Lf i o) (b.Kind, b.At, b.Text) j65 NM) N 0).bind fun q => q.k (fun r => some r) (fun _ => ((ref06_reader_see N (RS Lf i o) [40]).bind fun r193 => bif r193 then P0 N g (RS Lf i o) else ((ref06_reader_take N (RS Lf i o) [105, 102]).bind (F0 N g))))))) := by
  intro k1 k1' k2 k2'
  rw [show (a.kind_ == 1) = false by simpa using k1, show (a.kind_ == 2) = false by simpa using k2, show (b.Kind == 1) = false by simpa using k1']
  simp only [cond_false, Bool.false_and, Option.bind_some]
  rw [hit, notwo k2']
  simp only [cond_false, Option.bind_some, Flow.k]
  exact rest
 have ht1 : ∀ (op v : Int), Ht 10 (i + 1 - i) ⟨op, v, []⟩ := fun op v => by
  rw [show i + 1 - i = 0 + 1 by omega]
  exact ⟨by show 0 < 10; omega, by show 0 < 9223372036854775808; omega, fun u hu => by cases hu⟩
 rcases he with ⟨hcc, hlt⟩ | ⟨hee, _⟩
 ·rcases hcc.k with ⟨k1, k2, k3, k4, k5, k6⟩ | ⟨k1, k2, k3⟩ | ⟨k1, k2, _⟩ | ⟨k1, k2, _⟩ | ⟨k1, k2⟩
  ·-- a number
   obtain ⟨r, hr, hbad, hgood⟩ := m_atoi (N := N) k6 k4 k5
   rw [k1, k2, k3, hr, m_figure k6 hN]
   rw [show ((1 : Int) == 1) = true from rfl]
   simp only [cond_true, Option.bind_some, hbad]
   by_cases hf : fig b.Text < 0
   ·rw [decide_eq_true hf, decide_eq_false (by omega)]
    simp only [cond_true, cond_false]
    have hno : Se Lf i [40] = false := by unfold Se; rw [hb]; show seeF b [40] = false; unfold seeF; rw [k2]; rfl
    have hno2 : Se Lf i [105, 102] = false := by unfold Se; rw [hb]; show seeF b [105, 102] = false; unfold seeF; rw [k2]; rfl
    have hit' := hit false
    rw [k2] at hit'
    rw [hit', show (NM.any fun x => ((1 : Int) == 2) && (b.Text == x)) = false by rw [List.any_eq_false]; intro x _; simp]
    simp only [cond_false, Option.bind_some, Flow.k]
    rw [m_see T hi, hno]
    simp only [Option.bind_some, cond_false]
    rw [m_take T hi, hno2]
    simp only [Option.bind_some, cond_false]
    exact Both.fail rfl (d0 T hg (by decide)) (by decide) hi
   ·rw [decide_eq_false hf, decide_eq_true (by omega)]
    simp only [cond_true, cond_false]
    refine ⟨_, _, rfl, rfl, ?_⟩
    rw [hgood (by omega)]
    exact .ok (i + 1) _ (by omega) hlt (ht1 _ _)
  ·-- a word
   rw [k1, k2, k3]
   rw [show ((2 : Int) == 1) = false from rfl, show ((2 : Int) == 2) = true from rfl]
   simp only [cond_false, Bool.true_and, Option.bind_some]
   have hit' := hit false
   rw [k2, show ((2 : Int) == 2) = true from rfl] at hit'
   simp only [Bool.true_and] at hit'
   rw [hit']
   by_cases hf : NM.any (fun x => b.Text == x) = true
   ·have hv : fi (fun x => b.Text == x) NM = (NM.findIdx (fun x => b.Text == x) : Int) := by unfold fi; rw [if_pos hf]
    rw [hf, hv, decide_eq_true (by omega)]
    simp only [cond_true, Option.bind_some, Flow.k]
    exact ⟨_, _, rfl, rfl, .ok (i + 1) _ (by omega) hlt (ht1 _ _)⟩
   ·rw [Bool.not_eq_true] at hf
    have hv : fi (fun x => b.Text == x) NM < 0 := fi_neg.2 hf
    rw [hf, decide_eq_false (by omega)]
    simp only [cond_false, Option.bind_some, Flow.k]
    exact rest
  ·exact other (by omega) (by omega) (by omega) (by omega)
  ·exact other (by omega) (by omega) (by omega) (by omega)
  ·exact other (by omega) (by omega) (by omega) (by omega)
 ·have := hee.a0
  have := hee.b5
  exact other (by omega) (by omega) (by omega) (by omega)
theorem all_sim (hN : n + 200 ≤ N) : ∀ k, Agr n Lr Lf 7 k (rec145 N k).q145 (rec89 N k).q89 ∧ Agr n Lr Lf 6 k (rec145 N k).q185 (rec89 N k).q146 ∧ Agr n Lr Lf 5 k (rec145 N k).q212 (rec89 N k).q186 ∧
  Agr n Lr Lf 4 k (rec145 N k).q226 (rec89 N k).q213 ∧ Agr n Lr Lf 3 k (rec145 N k).q233 (rec89 N k).q227 ∧ Agr n Lr Lf 2 k (rec145 N k).q239 (rec89 N k).q234 ∧ Agr n Lr Lf 1 k (rec145 N k).q243 (rec89 N k).q240
 | 0 => by
  have no : ∀ {c : Nat} {f g}, 0 < c → Agr n Lr Lf c 0 f g := fun hc i o hi _ _ h => absurd h (by omega)
  exact ⟨no (by omega), no (by omega), no (by omega), no (by omega), no (by omega), no (by omega), no (by omega)⟩
 | k + 1 => by
  obtain ⟨a7, a6, a5, a4, a3, a2, a1⟩ := all_sim hN k
  have wrap : ∀ {P : Option (rules_bad ⊕ (rules_parser × Expr))} {p}, P = some p → (P.bind fun r39 => sk r39 (fun b52 => some (.inl b52)) (fun r42 => some (.inr (r42.1, r42.2)))) = some p := by
   rintro _ p rfl
   cases p <;> rfl
  refine ⟨?_, ?_, deny_sim T a5 a4, test_sim T a3, ?_, ?_, item_sim T (by omega) a7 ?_⟩
  ·intro i o hi h0 h32 hK
   obtain ⟨p, r, e1, e2, h⟩ := joined_sim T (N := N) (by omega) a6 (ops1 T (k := [111, 114]) (by decide) (z := 5)) (lt1 T) (fun r => body_expr T _ (RS Lf i o) r) hi h0 h32 (by omega)
   exact ⟨p, r, wrap e1, e2, h⟩
  ·intro i o hi h0 h32 hK
   obtain ⟨p, r, e1, e2, h⟩ := joined_sim T (N := N) (by omega) a5 (ops1 T (k := [97, 110, 100]) (by decide) (z := 4)) (lt1 T) (fun r => body_both T _ (RS Lf i o) r) hi h0 h32 (by omega)
   exact ⟨p, r, wrap e1, e2, h⟩
  ·intro i o hi h0 h32 hK
   obtain ⟨p, r, e1, e2, h⟩ := joined_sim T (N := N) (by omega) a2 (ops2 T (k1 := [43]) (k2 := [45]) (by decide) (by decide) (by decide) (z1 := 8) (z2 := 9)) (lt2 T) (fun r => body_sum T _ (RS Lf i o) r) hi h0 h32 (by omega)
   exact ⟨p, r, wrap e1, e2, h⟩
  ·intro i o hi h0 h32 hK
   obtain ⟨p, r, e1, e2, h⟩ := joined_sim T (N := N) (by omega) a1 (ops1 T (k := [42]) (by decide) (z := 10)) (lt1 T) (fun r => body_term T _ (RS Lf i o) r) hi h0 h32 (by omega)
   exact ⟨p, r, wrap e1, e2, h⟩
  ·intro h8 j o e w he
   obtain ⟨q, rfl⟩ : ∃ q, k = q + 7 := ⟨k - 7, by omega⟩
   exact dead_expr (by omega) he q
end
end Go.Proofs.YtaihlcdkcampbaaGreatDoor
namespace Go.Proofs.YtaihlcdkcampbaaGreatDoor
open Go.Proofs
def ref06_reader_typed (N : Nat) (x0 : pileupref06_reader) (x1 : Expr) (x2 : Int) (x3 : Int) : Option pileupref06_reader :=
 (bif (x0.Bad != 0) then some x0 else ((ref06_Depth N x1).bind fun r27 => (bif (decide (r27 > 32)) then ((ref06_reader_wrong N x0 2 x2).bind fun r38 => some r38) else ((ref06_kind N x1).bind fun r45 => ((bif ((r45 == 0) || ((x3 != 0) && (r45 != x3))) then ((ref06_reader_wrong N x0 61 x2).bind fun r72 => some (r72.L, r72.At, r72.Open, r72.Bad, r72.Where)) else some (x0.L, x0.At, x0.Open, x0.Bad, x0.Where)).bind fun j65 => some ({ L := j65.1, At := j65.2.1, Open := j65.2.2.1, Bad := j65.2.2.2.1, Where := j65.2.2.2.2 } : pileupref06_reader))))))
theorem co_ref06_reader_typed : CallOk Tryz.prog 91 := fun _ _ => by kernel_rfl
theorem c_ref06_reader_typed (N : Nat) {wb w0 : World} {Fb F0 : Mem} {Lf : Own} (bp0 : Nat) (x0 : pileupref06_reader) (a0_0 : Option Addr) (n0_0 : Nat) (hb0_0 : LC x0.L.length n0_0) (hs0_0 : SlA tpileupref06_token F0 a0_0 x0.L) (x1 : Expr) (a1_2 : Option Addr) (n1_2 : Nat) (hb1_2 : LC x1.Kids.length n1_2) (hs1_2 : SlA tExpr F0 a1_2 x1.Kids) (x2 : Int) (x3 : Int) (hs0 : HS wb Fb w0 F0 ((sb bp0 (kpileupref06_reader x0 a0_0 n0_0) 108) :: Lf)) (r : pileupref06_reader) (h : ref06_reader_typed N x0 x1 x2 x3 = some r) :
  Calls Tryz.prog 91 ([(pt bp0 0), (.agg (kExpr x1 a1_2 n1_2)), (vi x2), (vi x3)] : List Value).toArray w0 (BRet wb Fb F0 fun F' v L' => ∃ (aq0_0 : Option Addr) (nq0_0 : Nat), v = (.tuple #[]) ∧ L' = (sb bp0 (kpileupref06_reader r aq0_0 nq0_0) 108) :: Lf ∧ LC r.L.length nq0_0 ∧ SlA tpileupref06_token F' aq0_0 r.L) := by
 refine Go 36 Tryz.func91 ?_
 refine Sq (Rg [0] ?_)
 refine Bx' 33 (kExpr x1 a1_2 n1_2) hs0 (fun b21 w22 hs23 => ?_)
 refine Nss ?_
 refine Sq (Rg [0, 1, 2, 3, 4] ?_)
 refine Vs 3 ?_
 refine Ld hs23.at1 ?_
 refine Vs 1 ?_
 refine Nt ?_
 refine Cd h (fun hb24 h25 => ?_) (fun hb24 h26 => ?_)
 ·refine Rt ?_
  refine thenQ_ret ?_
  obtain rfl := some_inj h25
  exact ReB [] hs23.dr0 (Mem.le.refl _) ⟨a0_0, n0_0, rfl, rfl, hb0_0, hs0_0⟩
 ·refine Sc ?_
  refine thenQ_nrm ?_
  refine Sq ?_
  refine Sq (Rg [0, 1, 2] ?_)
  refine Ld hs23.at0 ?_
  obtain ⟨r27, hr28, h29⟩ := bind_some h26
  refine Cl' co_ref06_Depth hs23 (c_ref06_Depth N w22 F0 hs23.pers (x1) a1_2 n1_2 hb1_2 hs1_2 _ hr28) ?_
  rintro _ F1 w31 hs32 le33 rfl
  refine Vs 1 ?_
  refine Nt ?_
  refine Cd h29 (fun hb35 h36 => ?_) (fun hb35 h37 => ?_)
  ·refine Sq (Rg [0, 1, 2] ?_)
   refine Vs 2 ?_
   obtain ⟨r38, hr39, h40⟩ := bind_some h36
   refine CB co_ref06_reader_wrong (c_ref06_reader_wrong N bp0 (x0) a0_0 n0_0 hb0_0 (SlA.mono hs0_0 le33) (2) (x2) hs32.pk1 _ hr39) ?_
   rintro _ F2 w41 _ hs42 le43 ⟨ar38_0_0, nr38_0_0, rfl, rfl, hbr38_0_0, hsr38_0_0⟩
   refine Nt ?_
   refine Rt ?_
   refine thenQ_ret ?_
   obtain rfl := some_inj h40
   exact ReB [] hs42.dr1 (le33.trans le43) ⟨ar38_0_0, nr38_0_0, rfl, rfl, hbr38_0_0, hsr38_0_0⟩
  ·refine Sc ?_
   refine thenQ_nrm ?_
   refine Sq (Rg [0, 1, 2] ?_)
   refine Ld hs32.at0 ?_
   obtain ⟨r45, hr46, h47⟩ := bind_some h37
   refine Cl' co_ref06_kind hs32 (c_ref06_kind N w31 F1 hs32.pers (x1) a1_2 n1_2 hb1_2 (SlA.mono hs1_2 le33) _ hr46) ?_
   rintro _ F3 w49 hs50 le51 rfl
   refine Vs 1 ?_
   refine Nss (Rg [0, 1, 2, 3, 4, 5, 6, 7, 8, 9, 10] ?_)
   refine RWP.cut (fun f w => ∃ (F4 : Mem), HS wb Fb w F4 ((sb bp0 (kpileupref06_reader x0 a0_0 n0_0) 108) :: Lf) ∧ Mem.le F3 F4 ∧ FI f [] [(0, (pt bp0 0)), (2, (vi x2)), (32, (.bool ((r45 == 0) || ((x3 != 0) && (r45 != x3)))))]) ?_ ?_
   ·refine Vs 3 ?_
    refine RWP.split (r45 == 0) (fun hb60 => ?_) (fun hb60 => ?_)
    ·refine Ss hb60 3 ?_
     refine Su' 3 ?_
     refine Ss hb60 1 ?_
     refine Pk1 hb60 ?_
     exact RWP.nil ⟨rfl, F3, hs50.dr0, (Mem.le.refl _), (fJ ⟨rfl, rfl, (congrArg Value.bool (or_t hb60 (rfl))), trivial⟩)⟩
    ·refine Vgs hb60 3 ?_
     refine RWP.split (x3 != 0) (fun hb61 => ?_) (fun hb61 => ?_)
     ·refine Vgs hb61 3 ?_
      refine Pg1 hb60 hb61 ?_
      refine Pk0 hb60 ?_
      exact RWP.nil ⟨rfl, F3, hs50.dr0, (Mem.le.refl _), (fJ ⟨rfl, rfl, (congrArg Value.bool (or_f hb60 (and_t hb61 (rfl)))), trivial⟩)⟩
     ·refine Ss hb61 3 ?_
      refine Pg0 hb60 hb61 ?_
      refine Pk0 hb60 ?_
      exact RWP.nil ⟨rfl, F3, hs50.dr0, (Mem.le.refl _), (fJ ⟨rfl, rfl, (congrArg Value.bool (or_f hb60 (and_f hb61 (rfl)))), trivial⟩)⟩
   ·rintro f w53 ⟨F4, hs54, le55, ⟨_, rfl⟩⟩
    refine thenQ_nrm ?_
    obtain ⟨j65, hj67, h68⟩ := bind_some h47
    refine CWP.cut (fun f w => ∃ (F5 : Mem) (aj65_0 : Option Addr) (nj65_0 : Nat), HS wb Fb w F5 ((sb bp0 #[(.slice aj65_0 j65.1.length nj65_0), (vi j65.2.1), (vi j65.2.2.1), (vi j65.2.2.2.1), (vi j65.2.2.2.2)] 108) :: Lf) ∧ Mem.le F4 F5 ∧ FI f [] [] ∧ LC j65.1.length nj65_0 ∧ SlA tpileupref06_token F5 aj65_0 j65.1) ?_ ?_
    ·refine Cd hj67 (fun hb69 h70 => ?_) (fun hb69 h71 => ?_)
     ·refine Rg [0, 1, 2] ?_
      refine Vs 2 ?_
      obtain ⟨r72, hr73, h74⟩ := bind_some h70
      refine CB co_ref06_reader_wrong (c_ref06_reader_wrong N bp0 (x0) a0_0 n0_0 hb0_0 (SlA.mono hs0_0 ((le33.trans le51).trans le55)) (61) (x2) hs54 _ hr73) ?_
      rintro _ F6 w75 _ hs76 le77 ⟨ar72_0_0, nr72_0_0, rfl, rfl, hbr72_0_0, hsr72_0_0⟩
      refine RWP.nil ?_
      obtain rfl := some_inj h74
      exact .inl ⟨rfl, F6, ar72_0_0, nr72_0_0, hs76, le77, fI, hbr72_0_0, hsr72_0_0⟩
     ·refine Sc ?_
      obtain rfl := some_inj h71
      exact .inl ⟨rfl, F4, a0_0, n0_0, hs54, (Mem.le.refl _), fI, hb0_0, (SlA.mono hs0_0 ((le33.trans le51).trans le55))⟩
    ·rintro f w62 ⟨F5, aj65_0, nj65_0, hs63, le64, ⟨_, rfl⟩, hbj65_0, hsj65_0⟩
     obtain rfl := some_inj h68
     exact ReB [] hs63 (((le33.trans le51).trans le55).trans le64) ⟨aj65_0, nj65_0, rfl, rfl, hbj65_0, hsj65_0⟩
end Go.Proofs.YtaihlcdkcampbaaGreatDoor
namespace Go.Proofs.YtaihlcdkcampbaaGreatDoor
open Go.Proofs
def ref06_ParseExpr (N : Nat) (x0 : (List UInt8)) : Option (Expr × Int × Int) :=
 (bif (decide ((x0.length : Int) > 65536)) then some (({ Op := 0, Value := 0, Kids := ([] : List Expr) } : Expr), 2, 0) else ((ref06_tokens N x0).bind fun r29 => ((ref06_reader_expr N ({ L := r29, At := 0, Open := 0, Bad := 0, Where := 0 } : pileupref06_reader)).bind fun r40 => (((idx r40.1.L r40.1.At).bind fun x65 => some (x65.Kind != 5)).bind fun j57 => ((bif j57 then (((idx r40.1.L r40.1.At).bind fun x104 => ((ref06_reader_wrong N r40.1 60 x104.At).bind fun r118 => some (r118.L, r118.At, r118.Open, r118.Bad, r118.Where))).bind fun j97 => some (j97.1, j97.2.1, j97.2.2.1, j97.2.2.2.1, j97.2.2.2.2)) else some (r40.1.L, r40.1.At, r40.1.Open, r40.1.Bad, r40.1.Where)).bind fun j82 => (((idx j82.1 0).bind fun x158 => ((ref06_reader_typed N ({ L := j82.1, At := j82.2.1, Open := j82.2.2.1, Bad := j82.2.2.2.1, Where := j82.2.2.2.2 } : pileupref06_reader) r40.2 x158.At 0).bind fun r172 => some (r172.L, r172.At, r172.Open, r172.Bad, r172.Where))).bind fun j151 => (bif (j151.2.2.2.1 != 0) then some (({ Op := 0, Value := 0, Kids := ([] : List Expr) } : Expr), j151.2.2.2.1, j151.2.2.2.2) else some (r40.2, 0, 0))))))))
theorem co_ref06_ParseExpr : CallOk Tryz.prog 26 := fun _ _ => by kernel_rfl
theorem c_ref06_ParseExpr (N : Nat) (w0 : World) (F0 : Mem) (hF : ∀ b o, F0 b = some o → w0.heap[b]? = some o) (x0 : (List UInt8)) (r : (Expr × Int × Int)) (h : ref06_ParseExpr N x0 = some r) :
  Calls Tryz.prog 26 ([(.string ⟨(x0).toArray⟩)] : List Value).toArray w0 (FRet w0 F0 fun F' v => ∃ (aq0_2 : Option Addr) (nq0_2 : Nat), v = (.tuple #[(.agg (kExpr r.1 aq0_2 nq0_2)), (vi r.2.1), (vi r.2.2)]) ∧ LC r.1.Kids.length nq0_2 ∧ SlA tExpr F' aq0_2 r.1.Kids) := by
 have hs0 := HS.start hF
 refine Go 67 Tryz.func26 ?_
 refine Sq (Rg [0, 1, 2] ?_)
 refine Al' 33 #[(vi 0), (vi 0), (.slice none ([] : List Expr).length 0)] hs0 (fun b21 w22 hs23 => ?_)
 refine Vs 2 ?_
 refine Nss ?_
 refine Sq (Rg [0, 1, 2] ?_)
 refine Vs 3 ?_
 refine Nt ?_
 refine Cd h (fun hb24 h25 => ?_) (fun hb24 h26 => ?_)
 ·refine Sq (Rg [0, 1, 2, 3] ?_)
  refine Vs 1 ?_
  refine St0 #[(vi 0), (vi 0), (.slice none ([] : List Expr).length 0)] hs23 (fun w27 hs28 => ?_)
  refine Vs 2 ?_
  refine Nt ?_
  refine Rt ?_
  refine thenQ_ret ?_
  obtain rfl := some_inj h25
  exact ⟨rfl, (.tuple #[(.agg #[(vi 0), (vi 0), (.slice none ([] : List Expr).length 0)]), (vi 2), (vi 0)]), res_of (l := [.cell 2 33, .tmp 3, .tmp 4]) (by kernel_rfl) (vs := [(.agg #[(vi 0), (vi 0), (.slice none ([] : List Expr).length 0)]), (vi 2), (vi 0)]) ⟨b21, 0, rfl, run_loadVar' (t := 33) (g := true) (s := 3) (by kernel_rfl) hs28.at0 rfl (by decide), ⟨rfl, ⟨rfl, trivial⟩⟩⟩, (.tuple #[(.agg #[(vi 0), (vi 0), (.slice none ([] : List Expr).length 0)]), (vi 2), (vi 0)]), F0, rfl, hs28.clear, ⟨none, 0, rfl, LC.nil, (.inl rfl)⟩⟩
 ·refine Sc ?_
  refine thenQ_nrm ?_
  refine Sq (Rg [0, 1, 2, 3, 4] ?_)
  refine Vs 1 ?_
  obtain ⟨r29, hr30, h31⟩ := bind_some h26
  refine Cl' co_ref06_tokens hs23 (c_ref06_tokens N w22 F0 hs23.pers (x0) _ hr30) ?_
  rintro _ F1 w33 hs34 le35 ⟨ar29_0_0, nr29_0_0, rfl, hbr29_0_0, hsr29_0_0⟩
  refine Vs 1 ?_
  refine Bx' 108 #[(.slice ar29_0_0 r29.length nr29_0_0), (vi 0), (vi 0), (vi 0), (vi 0)] hs34 (fun b37 w38 hs39 => ?_)
  refine Vs 1 ?_
  refine Nss (Rg [0, 1, 2, 3] ?_)
  refine Vs 1 ?_
  obtain ⟨r40, hr41, h42⟩ := bind_some h31
  refine CB co_ref06_reader_expr (c_ref06_reader_expr N b37 (({ L := r29, At := 0, Open := 0, Bad := 0, Where := 0 } : pileupref06_reader)) ar29_0_0 nr29_0_0 hbr29_0_0 hsr29_0_0 hs39 _ hr41) ?_
  rintro _ F2 w43 _ hs44 le45 ⟨ar40_0_0, nr40_0_0, ar40_1_2, nr40_1_2, rfl, rfl, hbr40_0_0, hsr40_0_0, hbr40_1_2, hsr40_1_2⟩
  refine Al' 33 #[(vi 0), (vi 0), (.slice none ([] : List Expr).length 0)] hs44 (fun b47 w48 hs49 => ?_)
  refine St0 (kExpr r40.2 ar40_1_2 nr40_1_2) hs49 (fun w50 hs51 => ?_)
  refine Nss ?_
  refine Sq ?_
  obtain ⟨j57, hj63, h64⟩ := bind_some h42
  refine RD 12 12 [(sb b47 (kExpr r40.2 ar40_1_2 nr40_1_2) 33), (sb b37 (kpileupref06_reader r40.1 ar40_0_0 nr40_0_0) 108), (sb b21 #[(vi 0), (vi 0), (.slice none ([] : List Expr).length 0)] 33)] [] hs51 (fun f w => ∃ (F3 : Mem), HS w0 F0 w F3 [(sb b47 (kExpr r40.2 ar40_1_2 nr40_1_2) 33), (sb b37 (kpileupref06_reader r40.1 ar40_0_0 nr40_0_0) 108), (sb b21 #[(vi 0), (vi 0), (.slice none ([] : List Expr).length 0)] 33)] ∧ Mem.le F2 F3 ∧ FI f [] [(2, (pt b21 0)), (5, (pt b37 0)), (6, (pt b47 0)), (28, (.bool j57))]) (fun wd52 hw53 => ?_) ?_
  ·refine Dv [0, 1, 2] ?_
   refine Dl 3 (fun _ hq => (hq.1.2 1 _ _ rfl)) ?_
   refine Dv [4, 5, 6] ?_
   refine Dl 7 (fun _ hq => (hq.1.2 1 _ _ rfl)) ?_
   obtain ⟨x65, hx66, h68⟩ := bind_some hj63
   obtain ⟨hi67, hx66'⟩ := idx_spec hx66
   obtain ⟨b69, o70, C71, E72, fz73, rfl, hF75, hE76⟩ := SlA.open hsr40_0_0 hx66'
   have hc78 := hE76 _ _ hx66'
   refine Di 8 hi67 ?_
   refine Dv [9] ?_
   refine Dx 10 0 (fun _ hq => hq.1.1 _ _ hF75) hc78 ?_
   refine Dv [11] ?_
   obtain rfl := some_inj h68
   exact DWP.done (by kernel_rfl) ⟨F2, hw53, (Mem.le.refl _), fI⟩
  ·rintro f w54 ⟨F3, hs55, le56, ⟨_, rfl⟩⟩
   refine thenQ_nrm ?_
   obtain ⟨j82, hj87, h88⟩ := bind_some h64
   refine CWP.cut (fun f w => ∃ (F4 : Mem) (aj82_0 : Option Addr) (nj82_0 : Nat), HS w0 F0 w F4 [(sb b47 (kExpr r40.2 ar40_1_2 nr40_1_2) 33), (sb b37 #[(.slice aj82_0 j82.1.length nj82_0), (vi j82.2.1), (vi j82.2.2.1), (vi j82.2.2.2.1), (vi j82.2.2.2.2)] 108), (sb b21 #[(vi 0), (vi 0), (.slice none ([] : List Expr).length 0)] 33)] ∧ Mem.le F3 F4 ∧ FI f [] [(2, (pt b21 0)), (5, (pt b37 0)), (6, (pt b47 0))] ∧ LC j82.1.length nj82_0 ∧ SlA tpileupref06_token F4 aj82_0 j82.1) ?_ ?_
   ·refine Cd hj87 (fun hb89 h90 => ?_) (fun hb89 h91 => ?_)
    ·obtain ⟨j97, hj102, h103⟩ := bind_some h90
     refine RD 13 13 [(sb b47 (kExpr r40.2 ar40_1_2 nr40_1_2) 33), (sb b21 #[(vi 0), (vi 0), (.slice none ([] : List Expr).length 0)] 33)] [] hs55 (fun f w => ∃ (F5 : Mem) (aj97_0 : Option Addr) (nj97_0 : Nat), HS w0 F0 w F5 [(sb b47 (kExpr r40.2 ar40_1_2 nr40_1_2) 33), (sb b37 #[(.slice aj97_0 j97.1.length nj97_0), (vi j97.2.1), (vi j97.2.2.1), (vi j97.2.2.2.1), (vi j97.2.2.2.2)] 108), (sb b21 #[(vi 0), (vi 0), (.slice none ([] : List Expr).length 0)] 33)] ∧ Mem.le F3 F5 ∧ FI f [] [(2, (pt b21 0)), (5, (pt b37 0)), (6, (pt b47 0))] ∧ LC j97.1.length nj97_0 ∧ SlA tpileupref06_token F5 aj97_0 j97.1) (fun wd92 hw93 => ?_) ?_
     ·refine Dv [0, 1, 2, 3, 5, 6, 7] ?_
      refine DWP.two (i := 4) (j := 8) (by kernel_rfl) ?_ ?_
      ·refine DStep.val (l' := [true, true, true, true, true, true, true, true, false, false, false, false, false]) (zd := true) (by kernel_rfl) (by kernel_rfl) (dst := (some 33)) (ty := 105) (g := none) (by kernel_rfl) rfl (run_load' (t := 105) (x := (.tmp 32)) (b := b37) (o := 0) (g := false) (s := 1) (C := (kpileupref06_reader r40.1 ar40_0_0 nr40_0_0)) (v := (.slice ar40_0_0 r40.1.L.length nr40_0_0)) rfl (by kernel_rfl) hw93.at1 rfl rfl rfl) (dz_of hw93 (Mem.le.refl _) (by simp) (fun e => by cases e)) ?_
       refine D1 8 ?_
       refine DStep.val (l' := [true, true, true, true, true, true, true, true, true, false, false, false, false]) (zd := true) (by kernel_rfl) (by kernel_rfl) (dst := (some 37)) (ty := 3) (g := none) (by kernel_rfl) rfl (run_load' (t := 3) (x := (.tmp 36)) (b := b37) (o := 1) (g := false) (s := 1) (C := (kpileupref06_reader r40.1 ar40_0_0 nr40_0_0)) (v := (vi r40.1.At)) rfl (by kernel_rfl) hw93.at1 rfl rfl rfl) (dz_of hw93 (Mem.le.refl _) (by simp) (fun e => by cases e)) ?_
       obtain ⟨x104, hx105, h107⟩ := bind_some hj102
       obtain ⟨hi106, hx105'⟩ := idx_spec hx105
       obtain ⟨b108, o109, C110, E111, fz112, rfl, hF114, hE115⟩ := SlA.open (SlA.mono hsr40_0_0 le56) hx105'
       have hc117 := hE115 _ _ hx105'
       refine Di 9 hi106 ?_
       refine Dv [10] ?_
       refine Dx 11 1 (fun _ hq => hq.1.1 _ _ hF114) hc117 ?_
       refine D1 12 ?_
       obtain ⟨r118, hr119, h120⟩ := bind_some h107
       refine DCB co_ref06_reader_wrong (c_ref06_reader_wrong N b37 (r40.1) (some ⟨b108, o109, none⟩) nr40_0_0 hbr40_0_0 (SlA.mono hsr40_0_0 le56) (60) (x104.At) hw93.pk2.pk1.pk2 _ hr119) ?_
       rintro _ F6 w121 _ hs122 le123 ⟨ar118_0_0, nr118_0_0, rfl, rfl, hbr118_0_0, hsr118_0_0⟩
       refine ⟨dz_of hs122 le123 (by simp) (zdT (by kernel_rfl)), ?_⟩
       obtain rfl := some_inj h120
       exact DWP.done (by kernel_rfl) ⟨F6, ar118_0_0, nr118_0_0, hs122.pk2.pk1.pk2, le123, fI, hbr118_0_0, hsr118_0_0⟩
      ·refine DStep.val (l' := [true, true, true, true, false, true, true, true, true, false, false, false, false]) (zd := true) (by kernel_rfl) (by kernel_rfl) (dst := (some 37)) (ty := 3) (g := none) (by kernel_rfl) rfl (run_load' (t := 3) (x := (.tmp 36)) (b := b37) (o := 1) (g := false) (s := 1) (C := (kpileupref06_reader r40.1 ar40_0_0 nr40_0_0)) (v := (vi r40.1.At)) rfl (by kernel_rfl) hw93.at1 rfl rfl rfl) (dz_of hw93 (Mem.le.refl _) (by simp) (fun e => by cases e)) ?_
       refine D1 4 ?_
       refine DStep.val (l' := [true, true, true, true, true, true, true, true, true, false, false, false, false]) (zd := true) (by kernel_rfl) (by kernel_rfl) (dst := (some 33)) (ty := 105) (g := none) (by kernel_rfl) rfl (run_load' (t := 105) (x := (.tmp 32)) (b := b37) (o := 0) (g := false) (s := 1) (C := (kpileupref06_reader r40.1 ar40_0_0 nr40_0_0)) (v := (.slice ar40_0_0 r40.1.L.length nr40_0_0)) rfl (by kernel_rfl) hw93.at1 rfl rfl rfl) (dz_of hw93 (Mem.le.refl _) (by simp) (fun e => by cases e)) ?_
       obtain ⟨x125, hx126, h128⟩ := bind_some hj102
       obtain ⟨hi127, hx126'⟩ := idx_spec hx126
       obtain ⟨b129, o130, C131, E132, fz133, rfl, hF135, hE136⟩ := SlA.open (SlA.mono hsr40_0_0 le56) hx126'
       have hc138 := hE136 _ _ hx126'
       refine Di 9 hi127 ?_
       refine Dv [10] ?_
       refine Dx 11 1 (fun _ hq => hq.1.1 _ _ hF135) hc138 ?_
       refine D1 12 ?_
       obtain ⟨r139, hr140, h141⟩ := bind_some h128
       refine DCB co_ref06_reader_wrong (c_ref06_reader_wrong N b37 (r40.1) (some ⟨b129, o130, none⟩) nr40_0_0 hbr40_0_0 (SlA.mono hsr40_0_0 le56) (60) (x125.At) hw93.pk2.pk1.pk2 _ hr140) ?_
       rintro _ F7 w142 _ hs143 le144 ⟨ar139_0_0, nr139_0_0, rfl, rfl, hbr139_0_0, hsr139_0_0⟩
       refine ⟨dz_of hs143 le144 (by simp) (zdT (by kernel_rfl)), ?_⟩
       obtain rfl := some_inj h141
       exact DWP.done (by kernel_rfl) ⟨F7, ar139_0_0, nr139_0_0, hs143.pk2.pk1.pk2, le144, fI, hbr139_0_0, hsr139_0_0⟩
     ·rintro f w94 ⟨F5, aj97_0, nj97_0, hs95, le96, ⟨_, rfl⟩, hbj97_0, hsj97_0⟩
      obtain rfl := some_inj h103
      exact .inl ⟨rfl, F5, aj97_0, nj97_0, hs95, le96, fI, hbj97_0, hsj97_0⟩
    ·refine Sc ?_
     obtain rfl := some_inj h91
     exact .inl ⟨rfl, F3, ar40_0_0, nr40_0_0, hs55, (Mem.le.refl _), fI, hbr40_0_0, (SlA.mono hsr40_0_0 le56)⟩
   ·rintro f w79 ⟨F4, aj82_0, nj82_0, hs80, le81, ⟨_, rfl⟩, hbj82_0, hsj82_0⟩
    refine thenQ_nrm ?_
    refine Sq ?_
    obtain ⟨j151, hj156, h157⟩ := bind_some h88
    refine RD 10 10 [(sb b47 (kExpr r40.2 ar40_1_2 nr40_1_2) 33), (sb b21 #[(vi 0), (vi 0), (.slice none ([] : List Expr).length 0)] 33)] [] hs80 (fun f w => ∃ (F8 : Mem) (aj151_0 : Option Addr) (nj151_0 : Nat), HS w0 F0 w F8 [(sb b47 (kExpr r40.2 ar40_1_2 nr40_1_2) 33), (sb b37 #[(.slice aj151_0 j151.1.length nj151_0), (vi j151.2.1), (vi j151.2.2.1), (vi j151.2.2.2.1), (vi j151.2.2.2.2)] 108), (sb b21 #[(vi 0), (vi 0), (.slice none ([] : List Expr).length 0)] 33)] ∧ Mem.le F4 F8 ∧ FI f [] [(2, (pt b21 0)), (5, (pt b37 0)), (6, (pt b47 0))] ∧ LC j151.1.length nj151_0 ∧ SlA tpileupref06_token F8 aj151_0 j151.1) (fun wd146 hw147 => ?_) ?_
    ·refine Dv [0] ?_
     refine Dl 1 (fun _ hq => (hq.1.2 0 _ _ rfl)) ?_
     refine Dv [2, 3, 4] ?_
     refine D1 5 ?_
     refine DStep.val (l' := [true, true, true, true, true, true, false, false, false, false]) (zd := true) (by kernel_rfl) (by kernel_rfl) (dst := (some 47)) (ty := 105) (g := none) (by kernel_rfl) rfl (run_load' (t := 105) (x := (.tmp 46)) (b := b37) (o := 0) (g := false) (s := 1) (C := #[(.slice aj82_0 j82.1.length nj82_0), (vi j82.2.1), (vi j82.2.2.1), (vi j82.2.2.2.1), (vi j82.2.2.2.2)]) (v := (.slice aj82_0 j82.1.length nj82_0)) rfl (by kernel_rfl) hw147.at1 rfl rfl rfl) (dz_of hw147 (Mem.le.refl _) (by simp) (fun e => by cases e)) ?_
     obtain ⟨x158, hx159, h161⟩ := bind_some hj156
     obtain ⟨hi160, hx159'⟩ := idx_spec hx159
     obtain ⟨b162, o163, C164, E165, fz166, rfl, hF168, hE169⟩ := SlA.open hsj82_0 hx159'
     have hc171 := hE169 _ _ hx159'
     refine Di 6 hi160 ?_
     refine Dv [7] ?_
     refine Dx 8 1 (fun _ hq => hq.1.1 _ _ hF168) hc171 ?_
     refine D1 9 ?_
     obtain ⟨r172, hr173, h174⟩ := bind_some h161
     refine DCB co_ref06_reader_typed (c_ref06_reader_typed N b37 (({ L := j82.1, At := j82.2.1, Open := j82.2.2.1, Bad := j82.2.2.2.1, Where := j82.2.2.2.2 } : pileupref06_reader)) (some ⟨b162, o163, none⟩) nj82_0 hbj82_0 hsj82_0 (r40.2) ar40_1_2 nr40_1_2 hbr40_1_2 (SlA.mono hsr40_1_2 (le56.trans le81)) (x158.At) (0) hw147.pk2.pk1.pk2 _ hr173) ?_
     rintro _ F9 w175 _ hs176 le177 ⟨ar172_0_0, nr172_0_0, rfl, rfl, hbr172_0_0, hsr172_0_0⟩
     refine ⟨dz_of hs176 le177 (by simp) (zdT (by kernel_rfl)), ?_⟩
     obtain rfl := some_inj h174
     exact DWP.done (by kernel_rfl) ⟨F9, ar172_0_0, nr172_0_0, hs176.pk2.pk1.pk2, le177, fI, hbr172_0_0, hsr172_0_0⟩
    ·rintro f w148 ⟨F8, aj151_0, nj151_0, hs149, le150, ⟨_, rfl⟩, hbj151_0, hsj151_0⟩
     refine thenQ_nrm ?_
     refine Sq ?_
     refine Sq (Rg [0, 1, 2, 3, 4] ?_)
     refine Vs 3 ?_
     refine Ld hs149.at1 ?_
     refine Vs 1 ?_
     refine Nt ?_
     refine Cd h157 (fun hb179 h180 => ?_) (fun hb179 h181 => ?_)
     ·refine Sq ?_
      refine RD 12 12 [(sb b47 (kExpr r40.2 ar40_1_2 nr40_1_2) 33), (sb b37 #[(.slice aj151_0 j151.1.length nj151_0), (vi j151.2.1), (vi j151.2.2.1), (vi j151.2.2.2.1), (vi j151.2.2.2.2)] 108)] [] hs149 (fun f w => ∃ (F10 : Mem), HS w0 F0 w F10 [(sb b21 #[(vi 0), (vi 0), (.slice none ([] : List Expr).length 0)] 33)] ∧ Mem.le F8 F10 ∧ FI f [] [(2, (pt b21 0)), (3, (vi j151.2.2.2.1)), (4, (vi j151.2.2.2.2))]) (fun wd182 hw183 => ?_) ?_
      ·refine Dv [0, 1, 2, 3] ?_
       refine Dl 4 (fun _ hq => (hq.1.2 1 _ _ rfl)) ?_
       refine Dv [5, 6, 7] ?_
       refine Dl 8 (fun _ hq => (hq.1.2 1 _ _ rfl)) ?_
       refine D1 9 ?_
       refine DSt2 #[(vi 0), (vi 0), (.slice none ([] : List Expr).length 0)] hw183 (Mem.le.refl _) (fun w191 hs192 => ?_)
       refine Dv [10, 11] ?_
       exact DWP.done (by kernel_rfl) ⟨F8, hs192.dr0.dr0, (Mem.le.refl _), fI⟩
      ·rintro f w184 ⟨F10, hs185, le186, ⟨_, rfl⟩⟩
       refine thenQ_nrm ?_
       refine Rt ?_
       refine thenQ_ret ?_
       obtain rfl := some_inj h180
       exact ⟨rfl, (.tuple #[(.agg #[(vi 0), (vi 0), (.slice none ([] : List Expr).length 0)]), (vi j151.2.2.2.1), (vi j151.2.2.2.2)]), res_of (l := [.cell 2 33, .tmp 3, .tmp 4]) (by kernel_rfl) (vs := [(.agg #[(vi 0), (vi 0), (.slice none ([] : List Expr).length 0)]), (vi j151.2.2.2.1), (vi j151.2.2.2.2)]) ⟨b21, 0, rfl, run_loadVar' (t := 33) (g := true) (s := 3) (by kernel_rfl) hs185.at0 rfl (by decide), ⟨rfl, ⟨rfl, trivial⟩⟩⟩, (.tuple #[(.agg #[(vi 0), (vi 0), (.slice none ([] : List Expr).length 0)]), (vi j151.2.2.2.1), (vi j151.2.2.2.2)]), F10, rfl, hs185.clear, ⟨none, 0, rfl, LC.nil, (.inl rfl)⟩⟩
     ·refine Sc ?_
      refine thenQ_nrm ?_
      refine Sq (Rg [0, 1, 2, 3] ?_)
      refine Ld hs149.at0 ?_
      refine St2 (kExpr r40.2 ar40_1_2 nr40_1_2) hs149 (fun w193 hs194 => ?_)
      refine Vs 2 ?_
      refine Nt ?_
      refine Rt ?_
      obtain rfl := some_inj h181
      exact ⟨rfl, (.tuple #[(.agg (kExpr r40.2 ar40_1_2 nr40_1_2)), (vi 0), (vi 0)]), res_of (l := [.cell 2 33, .tmp 3, .tmp 4]) (by kernel_rfl) (vs := [(.agg (kExpr r40.2 ar40_1_2 nr40_1_2)), (vi 0), (vi 0)]) ⟨b21, 0, rfl, run_loadVar' (t := 33) (g := true) (s := 3) (by kernel_rfl) hs194.at2 rfl (by decide), ⟨rfl, ⟨rfl, trivial⟩⟩⟩, (.tuple #[(.agg (kExpr r40.2 ar40_1_2 nr40_1_2)), (vi 0), (vi 0)]), F8, rfl, hs194.clear, ⟨ar40_1_2, nr40_1_2, rfl, hbr40_1_2, (SlA.mono hsr40_1_2 ((le56.trans le81).trans le150))⟩⟩
end Go.Proofs.YtaihlcdkcampbaaGreatDoor
namespace Go.Proofs.YtaihlcdkcampbaaGreatDoor
open Go.Proofs
def rules_constant (N : Nat) (x0 : Int) : Option Expr :=
 some ({ Op := 1, Value := x0, Kids := ([] : List Expr) } : Expr)
theorem co_rules_constant : CallOk Tryz.prog 191 := fun _ _ => by kernel_rfl
theorem c_rules_constant (N : Nat) (w0 : World) (F0 : Mem) (hF : ∀ b o, F0 b = some o → w0.heap[b]? = some o) (x0 : Int) (r : Expr) (h : rules_constant N x0 = some r) :
  Calls Tryz.prog 191 ([(vi x0)] : List Value).toArray w0 (FRet w0 F0 fun F' v => ∃ (aq0_2 : Option Addr) (nq0_2 : Nat), v = (.agg (kExpr r aq0_2 nq0_2)) ∧ LC r.Kids.length nq0_2 ∧ SlA tExpr F' aq0_2 r.Kids) := by
 have hs0 := HS.start hF
 refine Go 5 Tryz.func191 ?_
 refine Sq (Rg [0] ?_)
 refine Al' 33 #[(vi 0), (vi 0), (.slice none ([] : List Expr).length 0)] hs0 (fun b21 w22 hs23 => ?_)
 refine Nss (Rg [0, 1, 2] ?_)
 refine Vs 2 ?_
 refine St0 #[(vi 1), (vi x0), (.slice none ([] : List Expr).length 0)] hs23 (fun w24 hs25 => ?_)
 refine Nt ?_
 refine Rt ?_
 obtain rfl := some_inj h
 exact ⟨rfl, (.agg #[(vi 1), (vi x0), (.slice none ([] : List Expr).length 0)]), res_of (l := [.cell 2 33]) (by kernel_rfl) (vs := [(.agg #[(vi 1), (vi x0), (.slice none ([] : List Expr).length 0)])]) ⟨b21, 0, rfl, run_loadVar' (t := 33) (g := true) (s := 3) (by kernel_rfl) hs25.at0 rfl (by decide), trivial⟩, (.agg #[(vi 1), (vi x0), (.slice none ([] : List Expr).length 0)]), F0, rfl, hs25.clear, ⟨none, 0, rfl, LC.nil, (.inl rfl)⟩⟩
end Go.Proofs.YtaihlcdkcampbaaGreatDoor
namespace Go.Proofs.YtaihlcdkcampbaaGreatDoor
open Go.Proofs
def rules_truthOf (N : Nat) (x0 : Bool) : Option Expr :=
 ((rules_constant N 0).bind fun r31 => ((rules_constant N 0).bind fun r39 => some ({ Op := (bif x0 then 6 else 7), Value := 0, Kids := [r31, r39] } : Expr)))
theorem co_rules_truthOf : CallOk Tryz.prog 188 := fun _ _ => by kernel_rfl
theorem c_rules_truthOf (N : Nat) (w0 : World) (F0 : Mem) (hF : ∀ b o, F0 b = some o → w0.heap[b]? = some o) (x0 : Bool) (r : Expr) (h : rules_truthOf N x0 = some r) :
  Calls Tryz.prog 188 ([(.bool x0)] : List Value).toArray w0 (FRet w0 F0 fun F' v => ∃ (aq0_2 : Option Addr) (nq0_2 : Nat), v = (.agg (kExpr r aq0_2 nq0_2)) ∧ LC r.Kids.length nq0_2 ∧ SlA tExpr F' aq0_2 r.Kids) := by
 have hs0 := HS.start hF
 refine Go 10 Tryz.func188 ?_
 refine Sq (Rg [0] ?_)
 refine Al' 33 #[(vi 0), (vi 0), (.slice none ([] : List Expr).length 0)] hs0 (fun b21 w22 hs23 => ?_)
 refine Nss (Rg [0] ?_)
 refine Vs 1 ?_
 refine Nss ?_
 refine Sq (Rg [0] ?_)
 refine Vs 1 ?_
 refine Nt ?_
 refine CWP.cut (fun f w => ∃ (F1 : Mem), HS w0 F0 w F1 [(sb b21 #[(vi 0), (vi 0), (.slice none ([] : List Expr).length 0)] 33)] ∧ Mem.le F0 F1 ∧ FI f [] [(2, (pt b21 0)), (3, (vi (bif x0 then 6 else 7)))]) ?_ ?_
 ·refine Cp x0 (fun hb30 => ?_) (fun hb30 => ?_)
  ·refine Rg [0] ?_
   refine Vs 1 ?_
   refine RWP.nil ?_
   exact .inl ⟨rfl, F0, hs23, (Mem.le.refl _), (fJ ⟨rfl, (congrArg (Value.int .i64) (bif_t hb30 (rfl))), trivial⟩)⟩
  ·refine Sc ?_
   exact .inl ⟨rfl, F0, hs23, (Mem.le.refl _), (fJ ⟨rfl, (congrArg (Value.int .i64) (bif_f hb30 (rfl))), trivial⟩)⟩
 ·rintro f w24 ⟨F1, hs25, le26, ⟨_, rfl⟩⟩
  refine thenQ_nrm ?_
  refine Sq (Rg [0, 1, 2, 3, 4, 5] ?_)
  refine Vs 1 ?_
  obtain ⟨r31, hr32, h33⟩ := bind_some h
  refine Cl' co_rules_constant hs25 (c_rules_constant N w24 F1 hs25.pers (0) _ hr32) ?_
  rintro _ F2 w35 hs36 le37 ⟨ar31_0_2, nr31_0_2, rfl, hbr31_0_2, hsr31_0_2⟩
  obtain ⟨r39, hr40, h41⟩ := bind_some h33
  refine Cl' co_rules_constant hs36 (c_rules_constant N w35 F2 hs36.pers (0) _ hr40) ?_
  rintro _ F3 w43 hs44 le45 ⟨ar39_0_2, nr39_0_2, rfl, hbr39_0_2, hsr39_0_2⟩
  refine Bs 33 [(vi r31.Op), (vi r31.Value), (.slice ar31_0_2 r31.Kids.length nr31_0_2), (vi r39.Op), (vi r39.Value), (.slice ar39_0_2 r39.Kids.length nr39_0_2)] hs44 (fun b47 w48 hs49 => ?_)
  have hr51 : RowR tExpr 33 F3 (some ⟨b47, 0, none⟩) 2 [r31, r39] (some b47, .cells ([(vi r31.Op), (vi r31.Value), (.slice ar31_0_2 r31.Kids.length nr31_0_2), (vi r39.Op), (vi r39.Value), (.slice ar39_0_2 r39.Kids.length nr39_0_2)] : List Value).toArray 33 (0, 0)) := RowR.lit ⟨(tExpr_mk ⟨ar31_0_2, nr31_0_2, rfl, hbr31_0_2, (SlA.mono hsr31_0_2 le45)⟩), ⟨(tExpr_mk ⟨ar39_0_2, nr39_0_2, rfl, hbr39_0_2, hsr39_0_2⟩), rfl⟩⟩ (by simp)
  refine Vs 1 ?_
  refine St1 #[(vi (bif x0 then 6 else 7)), (vi 0), (.slice (some ⟨b47, 0, none⟩) [r31, r39].length 2)] hs49 (fun w52 hs53 => ?_)
  refine Nt ?_
  refine Rt ?_
  have hb57 := RowR.bound hr51
  obtain ⟨F4, hs54, le55, hs56⟩ := hs53.fr0 hr51
  obtain rfl := some_inj h41
  exact ⟨rfl, (.agg #[(vi (bif x0 then 6 else 7)), (vi 0), (.slice (some ⟨b47, 0, none⟩) [r31, r39].length 2)]), res_of (l := [.cell 2 33]) (by kernel_rfl) (vs := [(.agg #[(vi (bif x0 then 6 else 7)), (vi 0), (.slice (some ⟨b47, 0, none⟩) [r31, r39].length 2)])]) ⟨b21, 0, rfl, run_loadVar' (t := 33) (g := true) (s := 3) (by kernel_rfl) hs54.at0 rfl (by decide), trivial⟩, (.agg #[(vi (bif x0 then 6 else 7)), (vi 0), (.slice (some ⟨b47, 0, none⟩) [r31, r39].length 2)]), F4, rfl, hs54.clear, ⟨(some ⟨b47, 0, none⟩), 2, rfl, hb57, hs56⟩⟩
end Go.Proofs.YtaihlcdkcampbaaGreatDoor
namespace Go.Proofs.YtaihlcdkcampbaaGreatDoor
open Go.Proofs
def rules_isTruth (N : Nat) (x0 : Expr) (x1 : Bool) : Option Bool :=
 (((rules_truthOf N x1).bind fun r34 => ((rules_same N x0 r34).bind fun r42 => some r42)).bind fun j29 => some j29)
theorem co_rules_isTruth : CallOk Tryz.prog 187 := fun _ _ => by kernel_rfl
theorem c_rules_isTruth (N : Nat) (w0 : World) (F0 : Mem) (hF : ∀ b o, F0 b = some o → w0.heap[b]? = some o) (x0 : Expr) (a0_2 : Option Addr) (n0_2 : Nat) (hb0_2 : LC x0.Kids.length n0_2) (hs0_2 : SlA tExpr F0 a0_2 x0.Kids) (x1 : Bool) (r : Bool) (h : rules_isTruth N x0 x1 = some r) :
  Calls Tryz.prog 187 ([(.agg (kExpr x0 a0_2 n0_2)), (.bool x1)] : List Value).toArray w0 (FRet w0 F0 fun F' v => v = (.bool r)) := by
 have hs0 := HS.start hF
 refine Go 9 Tryz.func187 ?_
 refine Sq (Rg [0, 1] ?_)
 refine Bx' 33 (kExpr x0 a0_2 n0_2) hs0 (fun b21 w22 hs23 => ?_)
 refine Vs 1 ?_
 refine Nss ?_
 obtain ⟨j29, hj32, h33⟩ := bind_some h
 refine RD 5 5 [(sb b21 (kExpr x0 a0_2 n0_2) 33)] [] hs23 (fun f w => ∃ (F1 : Mem), HS w0 F0 w F1 [] ∧ Mem.le F0 F1 ∧ FI f [] [(4, (.bool j29))]) (fun wd24 hw25 => ?_) ?_
 ·refine Dl 0 (fun _ hq => (hq.1.2 0 _ _ rfl)) ?_
  refine Dv [1] ?_
  refine D1 2 ?_
  obtain ⟨r34, hr35, h36⟩ := bind_some hj32
  refine DCl co_rules_truthOf hw25 (c_rules_truthOf N wd24 F0 hw25.pers (x1) _ hr35) ?_
  rintro _ F2 w38 hs39 le40 ⟨ar34_0_2, nr34_0_2, rfl, hbr34_0_2, hsr34_0_2⟩
  refine D1 3 ?_
  obtain ⟨r42, hr43, h44⟩ := bind_some h36
  refine DCl co_rules_same hs39 (c_rules_same N w38 F2 hs39.pers (x0) a0_2 n0_2 hb0_2 (SlA.mono hs0_2 le40) (r34) ar34_0_2 nr34_0_2 hbr34_0_2 hsr34_0_2 _ hr43) ?_
  rintro _ F3 w46 hs47 le48 rfl
  refine Dv [4] ?_
  obtain rfl := some_inj h44
  exact DWP.done (by kernel_rfl) ⟨F3, hs47.dr0, (le40.trans le48), fI⟩
 ·rintro f w26 ⟨F1, hs27, le28, ⟨_, rfl⟩⟩
  refine thenQ_nrm ?_
  refine Rt ?_
  obtain rfl := some_inj h33
  exact Re [(.bool j29)] hs27 rfl
end Go.Proofs.YtaihlcdkcampbaaGreatDoor
namespace Go.Proofs.YtaihlcdkcampbaaGreatDoor
open Go.Proofs
end Go.Proofs.YtaihlcdkcampbaaGreatDoor
namespace Go.Proofs.YtaihlcdkcampbaaGreatDoor
open Go.Proofs
def rules_isConstant (N : Nat) (x0 : Expr) (x1 : Int) : Option Bool :=
 some ((x0.Op == 1) && (x0.Value == x1))
theorem co_rules_isConstant : CallOk Tryz.prog 215 := fun _ _ => by kernel_rfl
theorem c_rules_isConstant (N : Nat) (w0 : World) (F0 : Mem) (hF : ∀ b o, F0 b = some o → w0.heap[b]? = some o) (x0 : Expr) (a0_2 : Option Addr) (n0_2 : Nat) (hb0_2 : LC x0.Kids.length n0_2) (hs0_2 : SlA tExpr F0 a0_2 x0.Kids) (x1 : Int) (r : Bool) (h : rules_isConstant N x0 x1 = some r) :
  Calls Tryz.prog 215 ([(.agg (kExpr x0 a0_2 n0_2)), (vi x1)] : List Value).toArray w0 (FRet w0 F0 fun F' v => v = (.bool r)) := by
 have hs0 := HS.start hF
 refine Go 14 Tryz.func215 ?_
 refine Sq (Rg [0, 1] ?_)
 refine Bx' 33 (kExpr x0 a0_2 n0_2) hs0 (fun b21 w22 hs23 => ?_)
 refine Vs 1 ?_
 refine Nss (Rg [0, 1, 2, 3, 4, 5, 6, 7, 8, 9] ?_)
 refine RWP.cut (fun f w => ∃ (F1 : Mem), HS w0 F0 w F1 [] ∧ Mem.le F0 F1 ∧ FI f [] [(4, (.bool ((x0.Op == 1) && (x0.Value == x1))))]) ?_ ?_
 ·refine Vs 1 ?_
  refine Ld hs23.at0 ?_
  refine Vs 2 ?_
  refine RWP.split (x0.Op == 1) (fun hb29 => ?_) (fun hb29 => ?_)
  ·refine Vgs hb29 1 ?_
   refine Lg hb29 hs23.at0 ?_
   refine Vgs hb29 2 ?_
   refine Pk1 hb29 ?_
   refine Vs 1 ?_
   exact RWP.nil ⟨rfl, F0, hs23.dr0, (Mem.le.refl _), (fJ ⟨(congrArg Value.bool (and_t hb29 (rfl))), trivial⟩)⟩
  ·refine Ss hb29 4 ?_
   refine Pk0 hb29 ?_
   refine Vs 1 ?_
   exact RWP.nil ⟨rfl, F0, hs23.dr0, (Mem.le.refl _), (fJ ⟨(congrArg Value.bool (and_f hb29 (rfl))), trivial⟩)⟩
 ·rintro f w24 ⟨F1, hs25, le26, ⟨_, rfl⟩⟩
  refine thenQ_nrm ?_
  refine Rt ?_
  obtain rfl := some_inj h
  exact Re [(.bool ((x0.Op == 1) && (x0.Value == x1)))] hs25 rfl
end Go.Proofs.YtaihlcdkcampbaaGreatDoor
namespace Go.Proofs.YtaihlcdkcampbaaGreatDoor
open Go.Proofs
def rules_reckoned (N : Nat) (x0 : Expr) (x1 : Expr) (x2 : Expr) : Option Expr :=
 (bif (x0.Op == 8) then ((rules_isConstant N x1 0).bind fun r36 => (bif r36 then some x2 else ((rules_isConstant N x2 0).bind fun r49 => (bif r49 then some x1 else some x0)))) else none)
theorem co_rules_reckoned : CallOk Tryz.prog 192 := fun _ _ => by kernel_rfl
theorem c_rules_reckoned (N : Nat) (w0 : World) (F0 : Mem) (hF : ∀ b o, F0 b = some o → w0.heap[b]? = some o) (x0 : Expr) (a0_2 : Option Addr) (n0_2 : Nat) (hb0_2 : LC x0.Kids.length n0_2) (hs0_2 : SlA tExpr F0 a0_2 x0.Kids) (x1 : Expr) (a1_2 : Option Addr) (n1_2 : Nat) (hb1_2 : LC x1.Kids.length n1_2) (hs1_2 : SlA tExpr F0 a1_2 x1.Kids) (x2 : Expr) (a2_2 : Option Addr) (n2_2 : Nat) (hb2_2 : LC x2.Kids.length n2_2) (hs2_2 : SlA tExpr F0 a2_2 x2.Kids) (r : Expr) (h : rules_reckoned N x0 x1 x2 = some r) :
  Calls Tryz.prog 192 ([(.agg (kExpr x0 a0_2 n0_2)), (.agg (kExpr x1 a1_2 n1_2)), (.agg (kExpr x2 a2_2 n2_2))] : List Value).toArray w0 (FRet w0 F0 fun F' v => ∃ (aq0_2 : Option Addr) (nq0_2 : Nat), v = (.agg (kExpr r aq0_2 nq0_2)) ∧ LC r.Kids.length nq0_2 ∧ SlA tExpr F' aq0_2 r.Kids) := by
 have hs0 := HS.start hF
 refine Go 49 Tryz.func192 ?_
 refine Sq (Rg [0, 1, 2, 3] ?_)
 refine Bx' 33 (kExpr x0 a0_2 n0_2) hs0 (fun b21 w22 hs23 => ?_)
 refine Bx' 33 (kExpr x1 a1_2 n1_2) hs23 (fun b24 w25 hs26 => ?_)
 refine Bx' 33 (kExpr x2 a2_2 n2_2) hs26 (fun b27 w28 hs29 => ?_)
 refine Al' 33 #[(vi 0), (vi 0), (.slice none ([] : List Expr).length 0)] hs29 (fun b30 w31 hs32 => ?_)
 refine Nss ?_
 refine Sq (Rg [0, 1] ?_)
 refine Vs 1 ?_
 refine Ld hs32.at3 ?_
 refine Nt ?_
 refine Bk ?_
 refine Sq (Rg [0, 1] ?_)
 refine Vs 2 ?_
 refine Nt ?_
 refine Cd h (fun hb33 h34 => ?_) (fun hb33 h35 => ?_)
 ·refine Bk ?_
  refine Sq (Rg [0, 1, 2] ?_)
  refine Ld hs32.at2 ?_
  obtain ⟨r36, hr37, h38⟩ := bind_some h34
  refine Cl' co_rules_isConstant hs32 (c_rules_isConstant N w31 F0 hs32.pers (x1) a1_2 n1_2 hb1_2 hs1_2 (0) _ hr37) ?_
  rintro _ F1 w40 hs41 le42 rfl
  refine Vs 1 ?_
  refine Nt ?_
  refine Cd h38 (fun hb44 h45 => ?_) (fun hb44 h46 => ?_)
  ·refine Sq (Rg [0, 1] ?_)
   refine Ld hs41.at1 ?_
   refine St0 (kExpr x2 a2_2 n2_2) hs41 (fun w47 hs48 => ?_)
   refine Nt ?_
   refine Rt ?_
   refine blockQ_ret ?_
   refine blockQ_ret ?_
   refine thenQ_ret ?_
   obtain rfl := some_inj h45
   exact ⟨rfl, (.agg (kExpr x2 a2_2 n2_2)), res_of (l := [.cell 6 33]) (by kernel_rfl) (vs := [(.agg (kExpr x2 a2_2 n2_2))]) ⟨b30, 0, rfl, run_loadVar' (t := 33) (g := true) (s := 3) (by kernel_rfl) hs48.at0 rfl (by decide), trivial⟩, (.agg (kExpr x2 a2_2 n2_2)), F1, rfl, hs48.clear, ⟨a2_2, n2_2, rfl, hb2_2, (SlA.mono hs2_2 le42)⟩⟩
  ·refine Sq (Rg [0, 1, 2] ?_)
   refine Ld hs41.at1 ?_
   obtain ⟨r49, hr50, h51⟩ := bind_some h46
   refine Cl' co_rules_isConstant hs41 (c_rules_isConstant N w40 F1 hs41.pers (x2) a2_2 n2_2 hb2_2 (SlA.mono hs2_2 le42) (0) _ hr50) ?_
   rintro _ F2 w53 hs54 le55 rfl
   refine Vs 1 ?_
   refine Nt ?_
   refine Cd h51 (fun hb57 h58 => ?_) (fun hb57 h59 => ?_)
   ·refine Sq (Rg [0, 1] ?_)
    refine Ld hs54.at2 ?_
    refine St0 (kExpr x1 a1_2 n1_2) hs54 (fun w60 hs61 => ?_)
    refine Nt ?_
    refine Rt ?_
    refine blockQ_ret ?_
    refine blockQ_ret ?_
    refine thenQ_ret ?_
    obtain rfl := some_inj h58
    exact ⟨rfl, (.agg (kExpr x1 a1_2 n1_2)), res_of (l := [.cell 6 33]) (by kernel_rfl) (vs := [(.agg (kExpr x1 a1_2 n1_2))]) ⟨b30, 0, rfl, run_loadVar' (t := 33) (g := true) (s := 3) (by kernel_rfl) hs61.at0 rfl (by decide), trivial⟩, (.agg (kExpr x1 a1_2 n1_2)), F2, rfl, hs61.clear, ⟨a1_2, n1_2, rfl, hb1_2, (SlA.mono hs1_2 (le42.trans le55))⟩⟩
   ·refine Sc ?_
    refine blockQ_nrm ?_
    refine blockQ_nrm ?_
    refine thenQ_nrm ?_
    refine Sq (Rg [0, 1] ?_)
    refine Ld hs54.at3 ?_
    refine St0 (kExpr x0 a0_2 n0_2) hs54 (fun w62 hs63 => ?_)
    refine Nt ?_
    refine Rt ?_
    obtain rfl := some_inj h59
    exact ⟨rfl, (.agg (kExpr x0 a0_2 n0_2)), res_of (l := [.cell 6 33]) (by kernel_rfl) (vs := [(.agg (kExpr x0 a0_2 n0_2))]) ⟨b30, 0, rfl, run_loadVar' (t := 33) (g := true) (s := 3) (by kernel_rfl) hs63.at0 rfl (by decide), trivial⟩, (.agg (kExpr x0 a0_2 n0_2)), F2, rfl, hs63.clear, ⟨a0_2, n0_2, rfl, hb0_2, (SlA.mono hs0_2 (le42.trans le55))⟩⟩
 ·cases h35
end Go.Proofs.YtaihlcdkcampbaaGreatDoor
