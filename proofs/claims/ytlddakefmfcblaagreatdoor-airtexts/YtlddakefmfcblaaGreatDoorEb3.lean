/- Lemmas of the claim AirTexts, printed by a program of the claimant and by hand. No statement of the seat is proved here. -/
import Derived.Test.YtlddakefmfcblaaGreatDoorEb2
set_option linter.unusedVariables false
set_option linter.unusedSimpArgs false
set_option linter.unusedSectionVars false
namespace Go.Proofs.YtlddakefmfcblaaGreatDoor
open Go.Proofs
def air_ValidBands_L0 (N : Nat) (x0 : (List Band)) : Int → Option (Flow Bool Int) := fun s4 =>
 (bif (decide (s4 < (x0.length : Int))) then ((idx x0 s4).bind fun x27 => (((air_within N x27.ID 1 65535).bind fun r60 => (bif (!r60) then some true else ((air_within N x27.Lo 1 x27.Hi).bind fun r72 => (bif (!r72) then some true else (bif (decide (x27.Hi > 10000000)) then some true else (bif (decide (s4 > 0)) then ((idx x0 (W64 (s4 - 1))).bind fun x90 => (bif (decide (x27.ID ≤ x90.ID)) then some true else ((idx x0 (W64 (s4 - 1))).bind fun x100 => some (decide (x27.Lo ≤ x100.Hi))))) else some false)))))).bind fun j51 => (bif j51 then some (.ret false) else some (.next (W64 (s4 + 1)))))) else some (.done s4))
def air_ValidBands (N : Nat) (x0 : (List Band)) : Option Bool :=
 ((iter (air_ValidBands_L0 N x0) N 0).bind fun o => o.k (fun r => some r) (fun s13 => some (decide ((x0.length : Int) ≤ 16))))
theorem co_air_ValidBands : CallOk Tryz.prog 26 := fun _ _ => by kernel_rfl
set_option maxHeartbeats 4000000 in
set_option maxRecDepth 100000 in
theorem c_air_ValidBands (N : Nat) (w0 : World) (F0 : Mem) (hF : ∀ b o, F0 b = some o → w0.heap[b]? = some o) (x0 : (List Band)) (a0_0 : Option Addr) (n0_0 : Nat) (hb0_0 : LC x0.length n0_0) (hs0_0 : SlA tBand F0 a0_0 x0) (r : Bool) (h : air_ValidBands N x0 = some r) :
  Calls Tryz.prog 26 ([(.slice a0_0 x0.length n0_0)] : List Value).toArray w0 (FRet w0 F0 fun F' v => v = (.bool r)) := by
 have hs0 := HS.start hF
 refine calls_of (n := 59) (c := bodyOf Tryz.f26) Tryz.func26 (by kernel_rfl) (by kernel_rfl) (by kernel_rfl) ?_
 refine Sq (Rg [0] ?_)
 refine V 2 4 (mc (.bool false) (.bool false)) ?_
 refine Nss ?_
 refine Sq (Rg [0, 1, 2] ?_)
 refine V 5 32 (mv 0 (.slice a0_0 x0.length n0_0)) ?_
 refine V 6 3 (ln 5 32 a0_0 x0.length n0_0 40 3 24) ?_
 refine V 7 3 (run_move (x := (.const (vi 0))) (v := (vi 0)) rfl) ?_
 refine Nt ?_
 obtain ⟨o1, ho2, h3⟩ := bind_some h
 refine CWP.cut (fun f w => ∃ (s13 : Int) (F2 : Mem), o1 = .done s13 ∧ HS w0 F0 w F2 [] ∧ Mem.le F0 F2 ∧ f.d = [] ∧ f 0 = (.slice a0_0 x0.length n0_0)) ?_ ?_
 ·refine Bk ?_
  refine CWP.loop (by kernel_rfl) (fun m f w => ∃ (s4 : Int) (F1 : Mem), iter (air_ValidBands_L0 N x0) m s4 = some o1 ∧ HS w0 F0 w F1 [] ∧ Mem.le F0 F1 ∧ f.d = [] ∧ f 0 = (.slice a0_0 x0.length n0_0) ∧ f 5 = (.slice a0_0 x0.length n0_0) ∧ f 6 = (vi (x0.length : Int)) ∧ f 7 = (vi s4)) N ⟨0, F0, ho2, hs0, (Mem.le.refl _), rfl, rfl, rfl, rfl, rfl⟩ ?_
  rintro m19 f w5 ⟨s4, F1, hit20, hs6, le7, e8, e9, e10, e11, e12⟩
  obtain ⟨m21, fl22, rfl, hb23, hnx24⟩ := iter_step hit20
  refine Sq (Rg [0] ?_)
  refine V 8 0 (run_lss (t := 3) (t' := 3) (x := (.tmp 7)) (y := (.tmp 6)) (k := .i64) (a := s4) (b := (x0.length : Int)) e12 e11) ?_
  refine Nss ?_
  refine CWP.cond (t := (decide (s4 < (x0.length : Int)))) (by kernel_rfl) rfl (fun hb25 => ?_) (fun hb25 => ?_)
  ·have h26 := cond_t hb23 hb25
   refine Sc ?_
   refine thenQ_nrm ?_
   refine Sq ?_
   refine Bk ?_
   refine Sq (Rg [0, 1, 2, 3, 4, 5] ?_)
   refine V 9 3 (mv 7 (vi s4) e12) ?_
   obtain ⟨x27, hx28, h30⟩ := bind_some h26
   obtain ⟨hi29, hx28'⟩ := idx_spec hx28
   obtain ⟨b31, o32, C33, E34, fz35, rfl, hF37, hE38⟩ := SlA.open (SlA.mono hs0_0 le7) hx28'
   have hc40 := hE38 _ _ hx28'
   refine V 10 0 (run_index (t := 32) (x := (.tmp 5)) (y := (.tmp 7)) (b := b31) (o := o32) (E := 40) (s := 3) (by_ := 24) e10 e12 (by kernel_rfl) hi29) ?_
   refine V 11 40 (lx 40 10 0 3 true 3 (.agg (kBand x27)) (hs6.pers _ _ hF37) hc40) ?_
   refine Al 4 0 40 #[(vi 0), (vi 0), (vi 0)] hs6 (fun b41 w42 (hs43 : HS w0 F0 w42 F1 [(sb b41 #[(vi 0), (vi 0), (vi 0)] 40)]) => ?_)
   refine V 3 3 (ma 9 (vi s4)) ?_
   refine RWP.store (ty := 0) (g := none) (by kernel_rfl) rfl (x := (.tmp 4)) (y := (.tmp 11)) (t := 40) (gg := true) (s := 3) (v := (.agg (kBand x27))) (b := b41) (o := 0) (C := #[(vi 0), (vi 0), (vi 0)]) rfl rfl (by kernel_rfl) hs43 (k := 0) rfl rfl rfl rfl (C' := (kBand x27)) rfl (fun w44 (hs45 : HS w0 F0 w44 F1 [(sb b41 (kBand x27) 40)]) => ?_)
   refine Nss ?_
   obtain ⟨j51, hj58, h59⟩ := bind_some h30
   refine CWP.regionD (by kernel_rfl) (by kernel_rfl) (by kernel_rfl) (by kernel_rfl) (z := 43) (F := F1) (Lc := [(sb b41 (kBand x27) 40)]) (Lz := []) (l := [false, false, false, false, false, false, false, false, false, false, false, false, false, false, false, false, false, false, false, false, false, false, false, false, false, false, false, false, false, false, false, false, false, false, false, false, false, false, false, false, false, false, false]) (fuel := 43) (by kernel_rfl) (by kernel_rfl) hs45 (by simp) (by simp) (fun f w => ∃ (F3 : Mem), HS w0 F0 w F3 [] ∧ Mem.le F1 F3 ∧ f.d = [] ∧ f 0 = (.slice (some ⟨b31, o32, none⟩) x0.length n0_0) ∧ f 5 = (.slice (some ⟨b31, o32, none⟩) x0.length n0_0) ∧ f 6 = (vi (x0.length : Int)) ∧ f 7 = (vi s4) ∧ f 54 = (.bool j51)) (fun wd46 hw47 => ?_) ?_
   ·refine Dtl 0 12 0 (.pointer (some ⟨b41, 0, none⟩)) [tt, ff, ff, ff, ff, ff, ff, ff, ff, ff, ff, ff, ff, ff, ff, ff, ff, ff, ff, ff, ff, ff, ff, ff, ff, ff, ff, ff, ff, ff, ff, ff, ff, ff, ff, ff, ff, ff, ff, ff, ff, ff, ff] (fun _ hq => fa 40 4 0 0 1 b41 0 0) ?_
    refine Dtl 1 13 3 _ [tt, tt, ff, ff, ff, ff, ff, ff, ff, ff, ff, ff, ff, ff, ff, ff, ff, ff, ff, ff, ff, ff, ff, ff, ff, ff, ff, ff, ff, ff, ff, ff, ff, ff, ff, ff, ff, ff, ff, ff, ff, ff, ff] (fun _ hq => ld 3 12 b41 0 false 1 (vi x27.ID) (hq.1.2 0 _ _ rfl)) ?_
    refine DWP.one (i := 2) (by kernel_rfl) ?_
    obtain ⟨r60, hr61, h62⟩ := bind_some hj58
    refine DStep.call (l' := [true, true, true, false, false, false, false, false, false, false, false, false, false, false, false, false, false, false, false, false, false, false, false, false, false, false, false, false, false, false, false, false, false, false, false, false, false, false, false, false, false, false, false]) (zd := true) (by kernel_rfl) (by kernel_rfl) (by kernel_rfl) (dst := (some 14)) (ty := 4) (g := none) (by kernel_rfl) rfl (f0 := (.func 73)) (aos := #[(.tmp 13), (.const (vi 1)), (.const (vi 65535))]) (ats := #[3, 3, 3]) (fid := 73) (first := #[]) (cap := #[]) (args := [(vi x27.ID), (vi 1), (vi 65535)]) rfl co_air_within (rfl) hw47 (c_air_within N wd46 F1 hw47.pers (x27.ID) (1) (65535) _ hr61) ?_
    intro v63 F4 w64 hs65 le66 hp67
    obtain rfl := hp67
    refine Dtl 3 15 4 (.bool (!r60)) [tt, tt, tt, tt, ff, ff, ff, ff, ff, ff, ff, ff, ff, ff, ff, ff, ff, ff, ff, ff, ff, ff, ff, ff, ff, ff, ff, ff, ff, ff, ff, ff, ff, ff, ff, ff, ff, ff, ff, ff, ff, ff, ff] (fun _ hq => run_not (t := 4) (x := (.tmp 14)) (a := r60) rfl) ?_
    refine Dtl 4 16 4 _ [tt, tt, tt, tt, tt, ff, ff, ff, ff, ff, ff, ff, ff, ff, ff, ff, ff, ff, ff, ff, ff, ff, ff, ff, ff, ff, ff, ff, ff, ff, ff, ff, ff, ff, ff, ff, ff, ff, ff, ff, ff, ff, ff] (fun _ hq => mv 15 (.bool (!r60))) ?_
    refine DWP.split (!r60) (fun hb68 => ?_) (fun hb68 => ?_)
    ·have h69 := cond_t h62 hb68
     refine Dkl [(5, 17), (6, 18), (7, 19), (8, 20), (9, 21), (10, 22)] 4 false 16 hb68 [tt, tt, tt, tt, tt, tt, tt, tt, tt, tt, tt, ff, ff, ff, ff, ff, ff, ff, ff, ff, ff, ff, ff, ff, ff, ff, ff, ff, ff, ff, ff, ff, ff, ff, ff, ff, ff, ff, ff, ff, ff, ff, ff] ?_
     refine Dtl 11 23 4 _ [tt, tt, tt, tt, tt, tt, tt, tt, tt, tt, tt, tt, ff, ff, ff, ff, ff, ff, ff, ff, ff, ff, ff, ff, ff, ff, ff, ff, ff, ff, ff, ff, ff, ff, ff, ff, ff, ff, ff, ff, ff, ff, ff] (fun _ hq => p1 16 (.const (.bool true)) (.tmp 22) (.bool true) hb68) ?_
     refine Dtl 12 24 4 _ [tt, tt, tt, tt, tt, tt, tt, tt, tt, tt, tt, tt, tt, ff, ff, ff, ff, ff, ff, ff, ff, ff, ff, ff, ff, ff, ff, ff, ff, ff, ff, ff, ff, ff, ff, ff, ff, ff, ff, ff, ff, ff, ff] (fun _ hq => mv 23 (.bool true)) ?_
     refine Dkl [(13, 25), (14, 26), (15, 27)] 12 false 24 rfl [tt, tt, tt, tt, tt, tt, tt, tt, tt, tt, tt, tt, tt, tt, tt, tt, ff, ff, ff, ff, ff, ff, ff, ff, ff, ff, ff, ff, ff, ff, ff, ff, ff, ff, ff, ff, ff, ff, ff, ff, ff, ff, ff] ?_
     refine Dtl 16 28 4 _ [tt, tt, tt, tt, tt, tt, tt, tt, tt, tt, tt, tt, tt, tt, tt, tt, tt, ff, ff, ff, ff, ff, ff, ff, ff, ff, ff, ff, ff, ff, ff, ff, ff, ff, ff, ff, ff, ff, ff, ff, ff, ff, ff] (fun _ hq => p1 24 (.const (.bool true)) (.tmp 27) (.bool true) rfl) ?_
     refine Dtl 17 29 4 _ [tt, tt, tt, tt, tt, tt, tt, tt, tt, tt, tt, tt, tt, tt, tt, tt, tt, tt, ff, ff, ff, ff, ff, ff, ff, ff, ff, ff, ff, ff, ff, ff, ff, ff, ff, ff, ff, ff, ff, ff, ff, ff, ff] (fun _ hq => mv 28 (.bool true)) ?_
     refine Dkl [(18, 30), (19, 31), (20, 32)] 17 false 29 rfl [tt, tt, tt, tt, tt, tt, tt, tt, tt, tt, tt, tt, tt, tt, tt, tt, tt, tt, tt, tt, tt, ff, ff, ff, ff, ff, ff, ff, ff, ff, ff, ff, ff, ff, ff, ff, ff, ff, ff, ff, ff, ff, ff] ?_
     refine Dul [(21, 33), (22, 34), (23, 35), (24, 36), (25, 37), (26, 38)] 20 true 32 [tt, tt, tt, tt, tt, tt, tt, tt, tt, tt, tt, tt, tt, tt, tt, tt, tt, tt, tt, tt, tt, tt, tt, tt, tt, tt, tt, ff, ff, ff, ff, ff, ff, ff, ff, ff, ff, ff, ff, ff, ff, ff, ff] ?_
     refine Dul [(27, 39), (28, 40), (29, 41), (30, 42)] 20 true 32 [tt, tt, tt, tt, tt, tt, tt, tt, tt, tt, tt, tt, tt, tt, tt, tt, tt, tt, tt, tt, tt, tt, tt, tt, tt, tt, tt, tt, tt, tt, tt, ff, ff, ff, ff, ff, ff, ff, ff, ff, ff, ff, ff] ?_
     refine Dul [(31, 43), (32, 44), (33, 45), (34, 46), (35, 47), (36, 48)] 30 false 42 [tt, tt, tt, tt, tt, tt, tt, tt, tt, tt, tt, tt, tt, tt, tt, tt, tt, tt, tt, tt, tt, tt, tt, tt, tt, tt, tt, tt, tt, tt, tt, tt, tt, tt, tt, tt, tt, ff, ff, ff, ff, ff, ff] ?_
     refine Dul [(37, 49), (38, 50), (39, 51)] 30 false 42 [tt, tt, tt, tt, tt, tt, tt, tt, tt, tt, tt, tt, tt, tt, tt, tt, tt, tt, tt, tt, tt, tt, tt, tt, tt, tt, tt, tt, tt, tt, tt, tt, tt, tt, tt, tt, tt, tt, tt, tt, ff, ff, ff] ?_
     refine Dul [(40, 52)] 20 true 32 [tt, tt, tt, tt, tt, tt, tt, tt, tt, tt, tt, tt, tt, tt, tt, tt, tt, tt, tt, tt, tt, tt, tt, tt, tt, tt, tt, tt, tt, tt, tt, tt, tt, tt, tt, tt, tt, tt, tt, tt, tt, ff, ff] ?_
     refine Dkl [(41, 53)] 17 false 29 rfl [tt, tt, tt, tt, tt, tt, tt, tt, tt, tt, tt, tt, tt, tt, tt, tt, tt, tt, tt, tt, tt, tt, tt, tt, tt, tt, tt, tt, tt, tt, tt, tt, tt, tt, tt, tt, tt, tt, tt, tt, tt, tt, ff] ?_
     refine Dtl 42 54 4 _ [tt, tt, tt, tt, tt, tt, tt, tt, tt, tt, tt, tt, tt, tt, tt, tt, tt, tt, tt, tt, tt, tt, tt, tt, tt, tt, tt, tt, tt, tt, tt, tt, tt, tt, tt, tt, tt, tt, tt, tt, tt, tt, tt] (fun _ hq => p1 29 (.const (.bool true)) (.tmp 53) (.bool true) rfl) ?_
     obtain rfl := some_inj h69
     have hs70 : HS w0 F0 w64 F4 [] := hs65.drop 0
     exact DWP.done (by kernel_rfl) ⟨F4, hs70, le66, e8, e9, e10, e11, e12, rfl⟩
    ·have h71 := cond_f h62 hb68
     refine Dgl 5 17 0 (.pointer (some ⟨b41, 1, none⟩)) [tt, tt, tt, tt, tt, tt, ff, ff, ff, ff, ff, ff, ff, ff, ff, ff, ff, ff, ff, ff, ff, ff, ff, ff, ff, ff, ff, ff, ff, ff, ff, ff, ff, ff, ff, ff, ff, ff, ff, ff, ff, ff, ff] 4 false 16 hb68 (fun _ hq => fa 40 4 1 1 1 b41 0 1) ?_
     refine Dgl 6 18 3 _ [tt, tt, tt, tt, tt, tt, tt, ff, ff, ff, ff, ff, ff, ff, ff, ff, ff, ff, ff, ff, ff, ff, ff, ff, ff, ff, ff, ff, ff, ff, ff, ff, ff, ff, ff, ff, ff, ff, ff, ff, ff, ff, ff] 4 false 16 hb68 (fun _ hq => ld 3 17 b41 1 false 1 (vi x27.Lo) (hq.1.2 0 _ _ rfl)) ?_
     refine Dgl 7 19 0 (.pointer (some ⟨b41, 2, none⟩)) [tt, tt, tt, tt, tt, tt, tt, tt, ff, ff, ff, ff, ff, ff, ff, ff, ff, ff, ff, ff, ff, ff, ff, ff, ff, ff, ff, ff, ff, ff, ff, ff, ff, ff, ff, ff, ff, ff, ff, ff, ff, ff, ff] 4 false 16 hb68 (fun _ hq => fa 40 4 2 2 1 b41 0 2) ?_
     refine Dgl 8 20 3 _ [tt, tt, tt, tt, tt, tt, tt, tt, tt, ff, ff, ff, ff, ff, ff, ff, ff, ff, ff, ff, ff, ff, ff, ff, ff, ff, ff, ff, ff, ff, ff, ff, ff, ff, ff, ff, ff, ff, ff, ff, ff, ff, ff] 4 false 16 hb68 (fun _ hq => ld 3 19 b41 2 false 1 (vi x27.Hi) (hq.1.2 0 _ _ rfl)) ?_
     refine DWP.one (i := 9) (by kernel_rfl) ?_
     obtain ⟨r72, hr73, h74⟩ := bind_some h71
     refine DStep.call (l' := [true, true, true, true, true, true, true, true, true, true, false, false, false, false, false, false, false, false, false, false, false, false, false, false, false, false, false, false, false, false, false, false, false, false, false, false, false, false, false, false, false, false, false]) (zd := true) (by kernel_rfl) (by kernel_rfl) (by kernel_rfl) (dst := (some 21)) (ty := 4) (g := (some (4, false))) (by kernel_rfl) (gd_y (d := 16) (by kernel_rfl) rfl hb68) (f0 := (.func 73)) (aos := #[(.tmp 18), (.const (vi 1)), (.tmp 20)]) (ats := #[3, 3, 3]) (fid := 73) (first := #[]) (cap := #[]) (args := [(vi x27.Lo), (vi 1), (vi x27.Hi)]) rfl co_air_within (rfl) hs65 (c_air_within N w64 F4 hs65.pers (x27.Lo) (1) (x27.Hi) _ hr73) ?_
     intro v75 F5 w76 hs77 le78 hp79
     obtain rfl := hp79
     refine Dgl 10 22 4 (.bool (!r72)) [tt, tt, tt, tt, tt, tt, tt, tt, tt, tt, tt, ff, ff, ff, ff, ff, ff, ff, ff, ff, ff, ff, ff, ff, ff, ff, ff, ff, ff, ff, ff, ff, ff, ff, ff, ff, ff, ff, ff, ff, ff, ff, ff] 4 false 16 hb68 (fun _ hq => run_not (t := 4) (x := (.tmp 21)) (a := r72) rfl) ?_
     refine Dtl 11 23 4 _ [tt, tt, tt, tt, tt, tt, tt, tt, tt, tt, tt, tt, ff, ff, ff, ff, ff, ff, ff, ff, ff, ff, ff, ff, ff, ff, ff, ff, ff, ff, ff, ff, ff, ff, ff, ff, ff, ff, ff, ff, ff, ff, ff] (fun _ hq => p0 16 (.const (.bool true)) (.tmp 22) (.bool (!r72)) hb68) ?_
     refine Dtl 12 24 4 _ [tt, tt, tt, tt, tt, tt, tt, tt, tt, tt, tt, tt, tt, ff, ff, ff, ff, ff, ff, ff, ff, ff, ff, ff, ff, ff, ff, ff, ff, ff, ff, ff, ff, ff, ff, ff, ff, ff, ff, ff, ff, ff, ff] (fun _ hq => mv 23 (.bool (!r72))) ?_
     refine DWP.split (!r72) (fun hb80 => ?_) (fun hb80 => ?_)
     ·have h81 := cond_t h74 hb80
      refine Dkl [(13, 25), (14, 26), (15, 27)] 12 false 24 hb80 [tt, tt, tt, tt, tt, tt, tt, tt, tt, tt, tt, tt, tt, tt, tt, tt, ff, ff, ff, ff, ff, ff, ff, ff, ff, ff, ff, ff, ff, ff, ff, ff, ff, ff, ff, ff, ff, ff, ff, ff, ff, ff, ff] ?_
      refine Dtl 16 28 4 _ [tt, tt, tt, tt, tt, tt, tt, tt, tt, tt, tt, tt, tt, tt, tt, tt, tt, ff, ff, ff, ff, ff, ff, ff, ff, ff, ff, ff, ff, ff, ff, ff, ff, ff, ff, ff, ff, ff, ff, ff, ff, ff, ff] (fun _ hq => p1 24 (.const (.bool true)) (.tmp 27) (.bool true) hb80) ?_
      refine Dtl 17 29 4 _ [tt, tt, tt, tt, tt, tt, tt, tt, tt, tt, tt, tt, tt, tt, tt, tt, tt, tt, ff, ff, ff, ff, ff, ff, ff, ff, ff, ff, ff, ff, ff, ff, ff, ff, ff, ff, ff, ff, ff, ff, ff, ff, ff] (fun _ hq => mv 28 (.bool true)) ?_
      refine Dkl [(18, 30), (19, 31), (20, 32)] 17 false 29 rfl [tt, tt, tt, tt, tt, tt, tt, tt, tt, tt, tt, tt, tt, tt, tt, tt, tt, tt, tt, tt, tt, ff, ff, ff, ff, ff, ff, ff, ff, ff, ff, ff, ff, ff, ff, ff, ff, ff, ff, ff, ff, ff, ff] ?_
      refine Dul [(21, 33), (22, 34), (23, 35), (24, 36), (25, 37), (26, 38)] 20 true 32 [tt, tt, tt, tt, tt, tt, tt, tt, tt, tt, tt, tt, tt, tt, tt, tt, tt, tt, tt, tt, tt, tt, tt, tt, tt, tt, tt, ff, ff, ff, ff, ff, ff, ff, ff, ff, ff, ff, ff, ff, ff, ff, ff] ?_
      refine Dul [(27, 39), (28, 40), (29, 41), (30, 42)] 20 true 32 [tt, tt, tt, tt, tt, tt, tt, tt, tt, tt, tt, tt, tt, tt, tt, tt, tt, tt, tt, tt, tt, tt, tt, tt, tt, tt, tt, tt, tt, tt, tt, ff, ff, ff, ff, ff, ff, ff, ff, ff, ff, ff, ff] ?_
      refine Dul [(31, 43), (32, 44), (33, 45), (34, 46), (35, 47), (36, 48)] 30 false 42 [tt, tt, tt, tt, tt, tt, tt, tt, tt, tt, tt, tt, tt, tt, tt, tt, tt, tt, tt, tt, tt, tt, tt, tt, tt, tt, tt, tt, tt, tt, tt, tt, tt, tt, tt, tt, tt, ff, ff, ff, ff, ff, ff] ?_
      refine Dul [(37, 49), (38, 50), (39, 51)] 30 false 42 [tt, tt, tt, tt, tt, tt, tt, tt, tt, tt, tt, tt, tt, tt, tt, tt, tt, tt, tt, tt, tt, tt, tt, tt, tt, tt, tt, tt, tt, tt, tt, tt, tt, tt, tt, tt, tt, tt, tt, tt, ff, ff, ff] ?_
      refine Dul [(40, 52)] 20 true 32 [tt, tt, tt, tt, tt, tt, tt, tt, tt, tt, tt, tt, tt, tt, tt, tt, tt, tt, tt, tt, tt, tt, tt, tt, tt, tt, tt, tt, tt, tt, tt, tt, tt, tt, tt, tt, tt, tt, tt, tt, tt, ff, ff] ?_
      refine Dkl [(41, 53)] 17 false 29 rfl [tt, tt, tt, tt, tt, tt, tt, tt, tt, tt, tt, tt, tt, tt, tt, tt, tt, tt, tt, tt, tt, tt, tt, tt, tt, tt, tt, tt, tt, tt, tt, tt, tt, tt, tt, tt, tt, tt, tt, tt, tt, tt, ff] ?_
      refine Dtl 42 54 4 _ [tt, tt, tt, tt, tt, tt, tt, tt, tt, tt, tt, tt, tt, tt, tt, tt, tt, tt, tt, tt, tt, tt, tt, tt, tt, tt, tt, tt, tt, tt, tt, tt, tt, tt, tt, tt, tt, tt, tt, tt, tt, tt, tt] (fun _ hq => p1 29 (.const (.bool true)) (.tmp 53) (.bool true) rfl) ?_
      obtain rfl := some_inj h81
      have hs82 : HS w0 F0 w76 F5 [] := hs77.drop 0
      exact DWP.done (by kernel_rfl) ⟨F5, hs82, (le66.trans le78), e8, e9, e10, e11, e12, rfl⟩
     ·have h83 := cond_f h74 hb80
      refine Dgl 13 25 0 (.pointer (some ⟨b41, 2, none⟩)) [tt, tt, tt, tt, tt, tt, tt, tt, tt, tt, tt, tt, tt, tt, ff, ff, ff, ff, ff, ff, ff, ff, ff, ff, ff, ff, ff, ff, ff, ff, ff, ff, ff, ff, ff, ff, ff, ff, ff, ff, ff, ff, ff] 12 false 24 hb80 (fun _ hq => fa 40 4 2 2 1 b41 0 2) ?_
      refine Dgl 14 26 3 _ [tt, tt, tt, tt, tt, tt, tt, tt, tt, tt, tt, tt, tt, tt, tt, ff, ff, ff, ff, ff, ff, ff, ff, ff, ff, ff, ff, ff, ff, ff, ff, ff, ff, ff, ff, ff, ff, ff, ff, ff, ff, ff, ff] 12 false 24 hb80 (fun _ hq => ld 3 25 b41 2 false 1 (vi x27.Hi) (hq.1.2 0 _ _ rfl)) ?_
      refine Dgl 15 27 4 (.bool (decide (x27.Hi > 10000000))) [tt, tt, tt, tt, tt, tt, tt, tt, tt, tt, tt, tt, tt, tt, tt, tt, ff, ff, ff, ff, ff, ff, ff, ff, ff, ff, ff, ff, ff, ff, ff, ff, ff, ff, ff, ff, ff, ff, ff, ff, ff, ff, ff] 12 false 24 hb80 (fun _ hq => run_gtr (t := 3) (t' := 3) (x := (.tmp 26)) (y := (.const (vi 10000000))) (k := .i64) (a := x27.Hi) (b := 10000000) rfl rfl) ?_
      refine Dtl 16 28 4 _ [tt, tt, tt, tt, tt, tt, tt, tt, tt, tt, tt, tt, tt, tt, tt, tt, tt, ff, ff, ff, ff, ff, ff, ff, ff, ff, ff, ff, ff, ff, ff, ff, ff, ff, ff, ff, ff, ff, ff, ff, ff, ff, ff] (fun _ hq => p0 24 (.const (.bool true)) (.tmp 27) (.bool (decide (x27.Hi > 10000000))) hb80) ?_
      refine Dtl 17 29 4 _ [tt, tt, tt, tt, tt, tt, tt, tt, tt, tt, tt, tt, tt, tt, tt, tt, tt, tt, ff, ff, ff, ff, ff, ff, ff, ff, ff, ff, ff, ff, ff, ff, ff, ff, ff, ff, ff, ff, ff, ff, ff, ff, ff] (fun _ hq => mv 28 (.bool (decide (x27.Hi > 10000000)))) ?_
      refine DWP.split (decide (x27.Hi > 10000000)) (fun hb84 => ?_) (fun hb84 => ?_)
      ·have h85 := cond_t h83 hb84
       refine Dkl [(18, 30), (19, 31), (20, 32)] 17 false 29 hb84 [tt, tt, tt, tt, tt, tt, tt, tt, tt, tt, tt, tt, tt, tt, tt, tt, tt, tt, tt, tt, tt, ff, ff, ff, ff, ff, ff, ff, ff, ff, ff, ff, ff, ff, ff, ff, ff, ff, ff, ff, ff, ff, ff] ?_
       refine Dul [(21, 33), (22, 34), (23, 35), (24, 36), (25, 37), (26, 38)] 20 true 32 [tt, tt, tt, tt, tt, tt, tt, tt, tt, tt, tt, tt, tt, tt, tt, tt, tt, tt, tt, tt, tt, tt, tt, tt, tt, tt, tt, ff, ff, ff, ff, ff, ff, ff, ff, ff, ff, ff, ff, ff, ff, ff, ff] ?_
       refine Dul [(27, 39), (28, 40), (29, 41), (30, 42)] 20 true 32 [tt, tt, tt, tt, tt, tt, tt, tt, tt, tt, tt, tt, tt, tt, tt, tt, tt, tt, tt, tt, tt, tt, tt, tt, tt, tt, tt, tt, tt, tt, tt, ff, ff, ff, ff, ff, ff, ff, ff, ff, ff, ff, ff] ?_
       refine Dul [(31, 43), (32, 44), (33, 45), (34, 46), (35, 47), (36, 48)] 30 false 42 [tt, tt, tt, tt, tt, tt, tt, tt, tt, tt, tt, tt, tt, tt, tt, tt, tt, tt, tt, tt, tt, tt, tt, tt, tt, tt, tt, tt, tt, tt, tt, tt, tt, tt, tt, tt, tt, ff, ff, ff, ff, ff, ff] ?_
       refine Dul [(37, 49), (38, 50), (39, 51)] 30 false 42 [tt, tt, tt, tt, tt, tt, tt, tt, tt, tt, tt, tt, tt, tt, tt, tt, tt, tt, tt, tt, tt, tt, tt, tt, tt, tt, tt, tt, tt, tt, tt, tt, tt, tt, tt, tt, tt, tt, tt, tt, ff, ff, ff] ?_
       refine Dul [(40, 52)] 20 true 32 [tt, tt, tt, tt, tt, tt, tt, tt, tt, tt, tt, tt, tt, tt, tt, tt, tt, tt, tt, tt, tt, tt, tt, tt, tt, tt, tt, tt, tt, tt, tt, tt, tt, tt, tt, tt, tt, tt, tt, tt, tt, ff, ff] ?_
       refine Dkl [(41, 53)] 17 false 29 hb84 [tt, tt, tt, tt, tt, tt, tt, tt, tt, tt, tt, tt, tt, tt, tt, tt, tt, tt, tt, tt, tt, tt, tt, tt, tt, tt, tt, tt, tt, tt, tt, tt, tt, tt, tt, tt, tt, tt, tt, tt, tt, tt, ff] ?_
       refine Dtl 42 54 4 _ [tt, tt, tt, tt, tt, tt, tt, tt, tt, tt, tt, tt, tt, tt, tt, tt, tt, tt, tt, tt, tt, tt, tt, tt, tt, tt, tt, tt, tt, tt, tt, tt, tt, tt, tt, tt, tt, tt, tt, tt, tt, tt, tt] (fun _ hq => p1 29 (.const (.bool true)) (.tmp 53) (.bool true) hb84) ?_
       obtain rfl := some_inj h85
       have hs86 : HS w0 F0 w76 F5 [] := hs77.drop 0
       exact DWP.done (by kernel_rfl) ⟨F5, hs86, (le66.trans le78), e8, e9, e10, e11, e12, rfl⟩
      ·have h87 := cond_f h83 hb84
       refine Dgl 18 30 3 _ [tt, tt, tt, tt, tt, tt, tt, tt, tt, tt, tt, tt, tt, tt, tt, tt, tt, tt, tt, ff, ff, ff, ff, ff, ff, ff, ff, ff, ff, ff, ff, ff, ff, ff, ff, ff, ff, ff, ff, ff, ff, ff, ff] 17 false 29 hb84 (fun _ hq => mv 3 (vi s4)) ?_
       refine Dgl 19 31 4 (.bool (decide (s4 > 0))) [tt, tt, tt, tt, tt, tt, tt, tt, tt, tt, tt, tt, tt, tt, tt, tt, tt, tt, tt, tt, ff, ff, ff, ff, ff, ff, ff, ff, ff, ff, ff, ff, ff, ff, ff, ff, ff, ff, ff, ff, ff, ff, ff] 17 false 29 hb84 (fun _ hq => run_gtr (t := 3) (t' := 3) (x := (.tmp 30)) (y := (.const (vi 0))) (k := .i64) (a := s4) (b := 0) rfl rfl) ?_
       refine Dgl 20 32 4 _ [tt, tt, tt, tt, tt, tt, tt, tt, tt, tt, tt, tt, tt, tt, tt, tt, tt, tt, tt, tt, tt, ff, ff, ff, ff, ff, ff, ff, ff, ff, ff, ff, ff, ff, ff, ff, ff, ff, ff, ff, ff, ff, ff] 17 false 29 hb84 (fun _ hq => mv 31 (.bool (decide (s4 > 0)))) ?_
       refine DWP.split (decide (s4 > 0)) (fun hb88 => ?_) (fun hb88 => ?_)
       ·have h89 := cond_t h87 hb88
        refine Dgl 21 33 0 (.pointer (some ⟨b41, 0, none⟩)) [tt, tt, tt, tt, tt, tt, tt, tt, tt, tt, tt, tt, tt, tt, tt, tt, tt, tt, tt, tt, tt, tt, ff, ff, ff, ff, ff, ff, ff, ff, ff, ff, ff, ff, ff, ff, ff, ff, ff, ff, ff, ff, ff] 20 true 32 hb88 (fun _ hq => fa 40 4 0 0 1 b41 0 0) ?_
        refine Dgl 22 34 3 _ [tt, tt, tt, tt, tt, tt, tt, tt, tt, tt, tt, tt, tt, tt, tt, tt, tt, tt, tt, tt, tt, tt, tt, ff, ff, ff, ff, ff, ff, ff, ff, ff, ff, ff, ff, ff, ff, ff, ff, ff, ff, ff, ff] 20 true 32 hb88 (fun _ hq => ld 3 33 b41 0 false 1 (vi x27.ID) (hq.1.2 0 _ _ rfl)) ?_
        refine Dgl 23 35 32 _ [tt, tt, tt, tt, tt, tt, tt, tt, tt, tt, tt, tt, tt, tt, tt, tt, tt, tt, tt, tt, tt, tt, tt, tt, ff, ff, ff, ff, ff, ff, ff, ff, ff, ff, ff, ff, ff, ff, ff, ff, ff, ff, ff] 20 true 32 hb88 (fun _ hq => mv 0 (.slice (some ⟨b31, o32, none⟩) x0.length n0_0) e9) ?_
        refine Dgl 24 36 3 _ [tt, tt, tt, tt, tt, tt, tt, tt, tt, tt, tt, tt, tt, tt, tt, tt, tt, tt, tt, tt, tt, tt, tt, tt, tt, ff, ff, ff, ff, ff, ff, ff, ff, ff, ff, ff, ff, ff, ff, ff, ff, ff, ff] 20 true 32 hb88 (fun _ hq => mv 3 (vi s4)) ?_
        refine Dgl 25 37 3 (vi (W64 (s4 - 1))) [tt, tt, tt, tt, tt, tt, tt, tt, tt, tt, tt, tt, tt, tt, tt, tt, tt, tt, tt, tt, tt, tt, tt, tt, tt, tt, ff, ff, ff, ff, ff, ff, ff, ff, ff, ff, ff, ff, ff, ff, ff, ff, ff] 20 true 32 hb88 (fun _ hq => run_sub (t := 3) (t' := 3) (x := (.tmp 36)) (y := (.const (vi 1))) (k := .i64) (a := s4) (b := 1) rfl rfl) ?_
        obtain ⟨x90, hx91, h93⟩ := bind_some h89
        obtain ⟨hi92, hx91'⟩ := idx_spec hx91
        have hc95 := hE38 _ _ hx91'
        refine Dgl 26 38 0 (.pointer (some ⟨b31, (o32 + ((W64 (s4 - 1)) : Int).toNat * 3), none⟩)) [tt, tt, tt, tt, tt, tt, tt, tt, tt, tt, tt, tt, tt, tt, tt, tt, tt, tt, tt, tt, tt, tt, tt, tt, tt, tt, tt, ff, ff, ff, ff, ff, ff, ff, ff, ff, ff, ff, ff, ff, ff, ff, ff] 20 true 32 hb88 (fun _ hq => ix 32 35 37 b31 o32 40 3 24 hi92) ?_
        refine Dgl 27 39 0 (.pointer (some ⟨b31, (o32 + ((W64 (s4 - 1)) : Int).toNat * 3), none⟩)) [tt, tt, tt, tt, tt, tt, tt, tt, tt, tt, tt, tt, tt, tt, tt, tt, tt, tt, tt, tt, tt, tt, tt, tt, tt, tt, tt, tt, ff, ff, ff, ff, ff, ff, ff, ff, ff, ff, ff, ff, ff, ff, ff] 20 true 32 hb88 (fun _ hq => fa 40 38 0 0 1 b31 (o32 + ((W64 (s4 - 1)) : Int).toNat * 3) (o32 + ((W64 (s4 - 1)) : Int).toNat * 3)) ?_
        refine Dgl 28 40 3 _ [tt, tt, tt, tt, tt, tt, tt, tt, tt, tt, tt, tt, tt, tt, tt, tt, tt, tt, tt, tt, tt, tt, tt, tt, tt, tt, tt, tt, tt, ff, ff, ff, ff, ff, ff, ff, ff, ff, ff, ff, ff, ff, ff] 20 true 32 hb88 (fun _ hq => lx 3 39 0 3 false 1 (vi x90.ID) (hq.1.1 _ _ hF37) hc95) ?_
        refine Dgl 29 41 4 (.bool (decide (x27.ID ≤ x90.ID))) [tt, tt, tt, tt, tt, tt, tt, tt, tt, tt, tt, tt, tt, tt, tt, tt, tt, tt, tt, tt, tt, tt, tt, tt, tt, tt, tt, tt, tt, tt, ff, ff, ff, ff, ff, ff, ff, ff, ff, ff, ff, ff, ff] 20 true 32 hb88 (fun _ hq => run_leq (t := 3) (t' := 3) (x := (.tmp 34)) (y := (.tmp 40)) (k := .i64) (a := x27.ID) (b := x90.ID) rfl rfl) ?_
        refine Dgl 30 42 4 _ [tt, tt, tt, tt, tt, tt, tt, tt, tt, tt, tt, tt, tt, tt, tt, tt, tt, tt, tt, tt, tt, tt, tt, tt, tt, tt, tt, tt, tt, tt, tt, ff, ff, ff, ff, ff, ff, ff, ff, ff, ff, ff, ff] 20 true 32 hb88 (fun _ hq => mv 41 (.bool (decide (x27.ID ≤ x90.ID)))) ?_
        refine DWP.split (decide (x27.ID ≤ x90.ID)) (fun hb96 => ?_) (fun hb96 => ?_)
        ·have h97 := cond_t h93 hb96
         refine Dkl [(31, 43), (32, 44), (33, 45), (34, 46), (35, 47), (36, 48)] 30 false 42 hb96 [tt, tt, tt, tt, tt, tt, tt, tt, tt, tt, tt, tt, tt, tt, tt, tt, tt, tt, tt, tt, tt, tt, tt, tt, tt, tt, tt, tt, tt, tt, tt, tt, tt, tt, tt, tt, tt, ff, ff, ff, ff, ff, ff] ?_
         refine Dkl [(37, 49), (38, 50), (39, 51)] 30 false 42 hb96 [tt, tt, tt, tt, tt, tt, tt, tt, tt, tt, tt, tt, tt, tt, tt, tt, tt, tt, tt, tt, tt, tt, tt, tt, tt, tt, tt, tt, tt, tt, tt, tt, tt, tt, tt, tt, tt, tt, tt, tt, ff, ff, ff] ?_
         refine Dgl 40 52 4 _ [tt, tt, tt, tt, tt, tt, tt, tt, tt, tt, tt, tt, tt, tt, tt, tt, tt, tt, tt, tt, tt, tt, tt, tt, tt, tt, tt, tt, tt, tt, tt, tt, tt, tt, tt, tt, tt, tt, tt, tt, tt, ff, ff] 20 true 32 hb88 (fun _ hq => p1 42 (.const (.bool true)) (.tmp 51) (.bool true) hb96) ?_
         refine Dgl 41 53 4 _ [tt, tt, tt, tt, tt, tt, tt, tt, tt, tt, tt, tt, tt, tt, tt, tt, tt, tt, tt, tt, tt, tt, tt, tt, tt, tt, tt, tt, tt, tt, tt, tt, tt, tt, tt, tt, tt, tt, tt, tt, tt, tt, ff] 17 false 29 hb84 (fun _ hq => p1 32 (.tmp 52) (.const (.bool false)) (.bool true) hb88) ?_
         refine Dtl 42 54 4 _ [tt, tt, tt, tt, tt, tt, tt, tt, tt, tt, tt, tt, tt, tt, tt, tt, tt, tt, tt, tt, tt, tt, tt, tt, tt, tt, tt, tt, tt, tt, tt, tt, tt, tt, tt, tt, tt, tt, tt, tt, tt, tt, tt] (fun _ hq => p0 29 (.const (.bool true)) (.tmp 53) (.bool true) hb84) ?_
         obtain rfl := some_inj h97
         have hs98 : HS w0 F0 w76 F5 [] := hs77.drop 0
         exact DWP.done (by kernel_rfl) ⟨F5, hs98, (le66.trans le78), e8, e9, e10, e11, e12, rfl⟩
        ·have h99 := cond_f h93 hb96
         refine Dgl 31 43 0 (.pointer (some ⟨b41, 1, none⟩)) [tt, tt, tt, tt, tt, tt, tt, tt, tt, tt, tt, tt, tt, tt, tt, tt, tt, tt, tt, tt, tt, tt, tt, tt, tt, tt, tt, tt, tt, tt, tt, tt, ff, ff, ff, ff, ff, ff, ff, ff, ff, ff, ff] 30 false 42 hb96 (fun _ hq => fa 40 4 1 1 1 b41 0 1) ?_
         refine Dgl 32 44 3 _ [tt, tt, tt, tt, tt, tt, tt, tt, tt, tt, tt, tt, tt, tt, tt, tt, tt, tt, tt, tt, tt, tt, tt, tt, tt, tt, tt, tt, tt, tt, tt, tt, tt, ff, ff, ff, ff, ff, ff, ff, ff, ff, ff] 30 false 42 hb96 (fun _ hq => ld 3 43 b41 1 false 1 (vi x27.Lo) (hq.1.2 0 _ _ rfl)) ?_
         refine Dgl 33 45 32 _ [tt, tt, tt, tt, tt, tt, tt, tt, tt, tt, tt, tt, tt, tt, tt, tt, tt, tt, tt, tt, tt, tt, tt, tt, tt, tt, tt, tt, tt, tt, tt, tt, tt, tt, ff, ff, ff, ff, ff, ff, ff, ff, ff] 30 false 42 hb96 (fun _ hq => mv 0 (.slice (some ⟨b31, o32, none⟩) x0.length n0_0) e9) ?_
         refine Dgl 34 46 3 _ [tt, tt, tt, tt, tt, tt, tt, tt, tt, tt, tt, tt, tt, tt, tt, tt, tt, tt, tt, tt, tt, tt, tt, tt, tt, tt, tt, tt, tt, tt, tt, tt, tt, tt, tt, ff, ff, ff, ff, ff, ff, ff, ff] 30 false 42 hb96 (fun _ hq => mv 3 (vi s4)) ?_
         refine Dgl 35 47 3 (vi (W64 (s4 - 1))) [tt, tt, tt, tt, tt, tt, tt, tt, tt, tt, tt, tt, tt, tt, tt, tt, tt, tt, tt, tt, tt, tt, tt, tt, tt, tt, tt, tt, tt, tt, tt, tt, tt, tt, tt, tt, ff, ff, ff, ff, ff, ff, ff] 30 false 42 hb96 (fun _ hq => run_sub (t := 3) (t' := 3) (x := (.tmp 46)) (y := (.const (vi 1))) (k := .i64) (a := s4) (b := 1) rfl rfl) ?_
         obtain ⟨x100, hx101, h103⟩ := bind_some h99
         obtain ⟨hi102, hx101'⟩ := idx_spec hx101
         have hc105 := hE38 _ _ hx101'
         refine Dgl 36 48 0 (.pointer (some ⟨b31, (o32 + ((W64 (s4 - 1)) : Int).toNat * 3), none⟩)) [tt, tt, tt, tt, tt, tt, tt, tt, tt, tt, tt, tt, tt, tt, tt, tt, tt, tt, tt, tt, tt, tt, tt, tt, tt, tt, tt, tt, tt, tt, tt, tt, tt, tt, tt, tt, tt, ff, ff, ff, ff, ff, ff] 30 false 42 hb96 (fun _ hq => ix 32 45 47 b31 o32 40 3 24 hi102) ?_
         refine Dgl 37 49 0 (.pointer (some ⟨b31, ((o32 + ((W64 (s4 - 1)) : Int).toNat * 3) + 2), none⟩)) [tt, tt, tt, tt, tt, tt, tt, tt, tt, tt, tt, tt, tt, tt, tt, tt, tt, tt, tt, tt, tt, tt, tt, tt, tt, tt, tt, tt, tt, tt, tt, tt, tt, tt, tt, tt, tt, tt, ff, ff, ff, ff, ff] 30 false 42 hb96 (fun _ hq => fa 40 48 2 2 1 b31 (o32 + ((W64 (s4 - 1)) : Int).toNat * 3) ((o32 + ((W64 (s4 - 1)) : Int).toNat * 3) + 2)) ?_
         refine Dgl 38 50 3 _ [tt, tt, tt, tt, tt, tt, tt, tt, tt, tt, tt, tt, tt, tt, tt, tt, tt, tt, tt, tt, tt, tt, tt, tt, tt, tt, tt, tt, tt, tt, tt, tt, tt, tt, tt, tt, tt, tt, tt, ff, ff, ff, ff] 30 false 42 hb96 (fun _ hq => lx 3 49 2 3 false 1 (vi x100.Hi) (hq.1.1 _ _ hF37) hc105) ?_
         refine Dgl 39 51 4 (.bool (decide (x27.Lo ≤ x100.Hi))) [tt, tt, tt, tt, tt, tt, tt, tt, tt, tt, tt, tt, tt, tt, tt, tt, tt, tt, tt, tt, tt, tt, tt, tt, tt, tt, tt, tt, tt, tt, tt, tt, tt, tt, tt, tt, tt, tt, tt, tt, ff, ff, ff] 30 false 42 hb96 (fun _ hq => run_leq (t := 3) (t' := 3) (x := (.tmp 44)) (y := (.tmp 50)) (k := .i64) (a := x27.Lo) (b := x100.Hi) rfl rfl) ?_
         refine Dgl 40 52 4 _ [tt, tt, tt, tt, tt, tt, tt, tt, tt, tt, tt, tt, tt, tt, tt, tt, tt, tt, tt, tt, tt, tt, tt, tt, tt, tt, tt, tt, tt, tt, tt, tt, tt, tt, tt, tt, tt, tt, tt, tt, tt, ff, ff] 20 true 32 hb88 (fun _ hq => p0 42 (.const (.bool true)) (.tmp 51) (.bool (decide (x27.Lo ≤ x100.Hi))) hb96) ?_
         refine Dgl 41 53 4 _ [tt, tt, tt, tt, tt, tt, tt, tt, tt, tt, tt, tt, tt, tt, tt, tt, tt, tt, tt, tt, tt, tt, tt, tt, tt, tt, tt, tt, tt, tt, tt, tt, tt, tt, tt, tt, tt, tt, tt, tt, tt, tt, ff] 17 false 29 hb84 (fun _ hq => p1 32 (.tmp 52) (.const (.bool false)) (.bool (decide (x27.Lo ≤ x100.Hi))) hb88) ?_
         refine Dtl 42 54 4 _ [tt, tt, tt, tt, tt, tt, tt, tt, tt, tt, tt, tt, tt, tt, tt, tt, tt, tt, tt, tt, tt, tt, tt, tt, tt, tt, tt, tt, tt, tt, tt, tt, tt, tt, tt, tt, tt, tt, tt, tt, tt, tt, tt] (fun _ hq => p0 29 (.const (.bool true)) (.tmp 53) (.bool (decide (x27.Lo ≤ x100.Hi))) hb84) ?_
         obtain rfl := some_inj h103
         have hs106 : HS w0 F0 w76 F5 [] := hs77.drop 0
         exact DWP.done (by kernel_rfl) ⟨F5, hs106, (le66.trans le78), e8, e9, e10, e11, e12, rfl⟩
       ·have h107 := cond_f h87 hb88
        refine Dkl [(21, 33), (22, 34), (23, 35), (24, 36), (25, 37), (26, 38)] 20 true 32 hb88 [tt, tt, tt, tt, tt, tt, tt, tt, tt, tt, tt, tt, tt, tt, tt, tt, tt, tt, tt, tt, tt, tt, tt, tt, tt, tt, tt, ff, ff, ff, ff, ff, ff, ff, ff, ff, ff, ff, ff, ff, ff, ff, ff] ?_
        refine Dkl [(27, 39), (28, 40), (29, 41), (30, 42)] 20 true 32 hb88 [tt, tt, tt, tt, tt, tt, tt, tt, tt, tt, tt, tt, tt, tt, tt, tt, tt, tt, tt, tt, tt, tt, tt, tt, tt, tt, tt, tt, tt, tt, tt, ff, ff, ff, ff, ff, ff, ff, ff, ff, ff, ff, ff] ?_
        refine Dul [(31, 43), (32, 44), (33, 45), (34, 46), (35, 47), (36, 48)] 30 false 42 [tt, tt, tt, tt, tt, tt, tt, tt, tt, tt, tt, tt, tt, tt, tt, tt, tt, tt, tt, tt, tt, tt, tt, tt, tt, tt, tt, tt, tt, tt, tt, tt, tt, tt, tt, tt, tt, ff, ff, ff, ff, ff, ff] ?_
        refine Dul [(37, 49), (38, 50), (39, 51)] 30 false 42 [tt, tt, tt, tt, tt, tt, tt, tt, tt, tt, tt, tt, tt, tt, tt, tt, tt, tt, tt, tt, tt, tt, tt, tt, tt, tt, tt, tt, tt, tt, tt, tt, tt, tt, tt, tt, tt, tt, tt, tt, ff, ff, ff] ?_
        refine Dkl [(40, 52)] 20 true 32 hb88 [tt, tt, tt, tt, tt, tt, tt, tt, tt, tt, tt, tt, tt, tt, tt, tt, tt, tt, tt, tt, tt, tt, tt, tt, tt, tt, tt, tt, tt, tt, tt, tt, tt, tt, tt, tt, tt, tt, tt, tt, tt, ff, ff] ?_
        refine Dgl 41 53 4 _ [tt, tt, tt, tt, tt, tt, tt, tt, tt, tt, tt, tt, tt, tt, tt, tt, tt, tt, tt, tt, tt, tt, tt, tt, tt, tt, tt, tt, tt, tt, tt, tt, tt, tt, tt, tt, tt, tt, tt, tt, tt, tt, ff] 17 false 29 hb84 (fun _ hq => p0 32 (.tmp 52) (.const (.bool false)) (.bool false) hb88) ?_
        refine Dtl 42 54 4 _ [tt, tt, tt, tt, tt, tt, tt, tt, tt, tt, tt, tt, tt, tt, tt, tt, tt, tt, tt, tt, tt, tt, tt, tt, tt, tt, tt, tt, tt, tt, tt, tt, tt, tt, tt, tt, tt, tt, tt, tt, tt, tt, tt] (fun _ hq => p0 29 (.const (.bool true)) (.tmp 53) (.bool false) hb84) ?_
        obtain rfl := some_inj h107
        have hs108 : HS w0 F0 w76 F5 [] := hs77.drop 0
        exact DWP.done (by kernel_rfl) ⟨F5, hs108, (le66.trans le78), e8, e9, e10, e11, e12, rfl⟩
   ·rintro f w48 ⟨F3, hs49, le50, e52, e53, e54, e55, e56, e57⟩
    refine thenQ_nrm ?_
    refine CWP.cond (t := j51) (by kernel_rfl) e57 (fun hb109 => ?_) (fun hb109 => ?_)
    ·have h110 := cond_t h59 hb109
     refine Sq (Rg [0] ?_)
     refine V 2 4 (mc (.bool false) (.bool false)) ?_
     refine Nt ?_
     refine CWP.ret (by kernel_rfl) ?_
     refine blockQ_ret ?_
     refine thenQ_ret ?_
     refine thenQ_ret ?_
     refine blockQ_ret ?_
     have hret := iter_ret h110 hnx24
     subst hret
     refine .inr ?_
     refine thenQ_ret ?_
     have hfin := some_inj h3
     subst hfin
     exact ⟨e52, (.bool false), res_of (l := [.tmp 2]) (by kernel_rfl) (vs := [(.bool false)]) ⟨rfl, trivial⟩, (.bool false), F3, rfl, hs49.clear, rfl⟩
    ·have h111 := cond_f h59 hb109
     refine Sc ?_
     refine blockQ_nrm ?_
     refine thenQ_nrm ?_
     refine Rg [0, 1] ?_
     refine V 55 3 (run_add (t := 3) (t' := 3) (x := (.tmp 7)) (y := (.const (vi 1))) (k := .i64) (a := s4) (b := 1) e56 rfl) ?_
     refine V 7 3 (mv 55 (vi (W64 (s4 + 1)))) ?_
     refine RWP.nil ?_
     have hn112 := iter_next h111 hnx24
     exact ⟨m21, Nat.lt_succ_self _, (W64 (s4 + 1)), F3, hn112, hs49, (le7.trans le50), e52, e53, e54, e55, rfl⟩
  ·have h113 := cond_f hb23 hb25
   refine CWP.exit (by kernel_rfl) ?_
   refine thenQ_ex ?_
   refine thenQ_ex ?_
   refine blockQ_hit rfl ?_
   have ho114 := iter_done h113 hnx24
   exact .inl ⟨rfl, s4, F1, ho114, hs6, le7, e8, e9⟩
 ·rintro f w14 ⟨s13, F2, rfl, hs15, le16, e17, e18⟩
  have h115 := k_done h3
  refine thenQ_nrm ?_
  refine Sq (Rg [0, 1, 2, 3] ?_)
  refine V 56 32 (mv 0 (.slice a0_0 x0.length n0_0) e18) ?_
  refine V 57 3 (ln 56 32 a0_0 x0.length n0_0 40 3 24) ?_
  refine V 58 4 (run_leq (t := 3) (t' := 3) (x := (.tmp 57)) (y := (.const (vi 16))) (k := .i64) (a := (x0.length : Int)) (b := 16) rfl rfl) ?_
  refine V 2 4 (ma 58 (.bool (decide ((x0.length : Int) ≤ 16)))) ?_
  refine Nt ?_
  refine CWP.ret (by kernel_rfl) ?_
  have hfin := some_inj h115
  subst hfin
  exact ⟨e17, (.bool (decide ((x0.length : Int) ≤ 16))), res_of (l := [.tmp 2]) (by kernel_rfl) (vs := [(.bool (decide ((x0.length : Int) ≤ 16)))]) ⟨rfl, trivial⟩, (.bool (decide ((x0.length : Int) ≤ 16))), F2, rfl, hs15.clear, rfl⟩
end Go.Proofs.YtlddakefmfcblaaGreatDoor
namespace Go.Proofs.YtlddakefmfcblaaGreatDoor
open Go.Proofs
def air_wrongBands (N : Nat) (x0 : (List Band)) (x1 : Int) : Option Int :=
 ((air_ValidBands N x0).bind fun r1 => (bif (!r1) then some 11 else ((air_within N x1 1 10000000).bind fun r12 => (bif (!r12) then some 1 else some 0))))
theorem co_air_wrongBands : CallOk Tryz.prog 68 := fun _ _ => by kernel_rfl
set_option maxHeartbeats 4000000 in
set_option maxRecDepth 100000 in
theorem c_air_wrongBands (N : Nat) (w0 : World) (F0 : Mem) (hF : ∀ b o, F0 b = some o → w0.heap[b]? = some o) (x0 : (List Band)) (a0_0 : Option Addr) (n0_0 : Nat) (hb0_0 : LC x0.length n0_0) (hs0_0 : SlA tBand F0 a0_0 x0) (x1 : Int) (r : Int) (h : air_wrongBands N x0 x1 = some r) :
  Calls Tryz.prog 68 ([(.slice a0_0 x0.length n0_0), (vi x1)] : List Value).toArray w0 (FRet w0 F0 fun F' v => v = (vi r)) := by
 have hs0 := HS.start hF
 refine calls_of (n := 13) (c := bodyOf Tryz.f68) Tryz.func68 (by kernel_rfl) (by kernel_rfl) (by kernel_rfl) ?_
 refine Sq (Rg [0] ?_)
 refine V 4 23 (mc (vi 0) (vi 0)) ?_
 refine Nss ?_
 refine Bk ?_
 refine Sq (Rg [0, 1, 2, 3] ?_)
 refine V 6 32 (mv 0 (.slice a0_0 x0.length n0_0)) ?_
 obtain ⟨r1, hr2, h3⟩ := bind_some h
 refine Cl 7 4 26 #[(.tmp 6)] #[32] co_air_ValidBands hs0 (c_air_ValidBands N w0 F0 hs0.pers (x0) a0_0 n0_0 hb0_0 hs0_0 _ hr2) ?_
 intro v4 F1 w5 hs6 le7 hp8
 obtain rfl := hp8
 refine V 8 4 (run_not (t := 4) (x := (.tmp 7)) (a := r1) rfl) ?_
 refine V 5 4 (ma 8 (.bool (!r1))) ?_
 refine Nt ?_
 refine CWP.cond (t := (!r1)) (by kernel_rfl) rfl (fun hb9 => ?_) (fun hb9 => ?_)
 ·have h10 := cond_t h3 hb9
  refine Sq (Rg [0] ?_)
  refine V 4 23 (mc (vi 11) (vi 11)) ?_
  refine Nt ?_
  refine CWP.ret (by kernel_rfl) ?_
  refine blockQ_ret ?_
  refine thenQ_ret ?_
  have hfin := some_inj h10
  subst hfin
  exact ⟨rfl, (vi 11), res_of (l := [.tmp 4]) (by kernel_rfl) (vs := [(vi 11)]) ⟨rfl, trivial⟩, (vi 11), F1, rfl, hs6.clear, rfl⟩
 ·have h11 := cond_f h3 hb9
  refine Sq (Rg [0, 1, 2, 3] ?_)
  refine V 10 3 (mv 1 (vi x1)) ?_
  obtain ⟨r12, hr13, h14⟩ := bind_some h11
  refine Cl 11 4 73 #[(.tmp 10), (.const (vi 1)), (.const (vi 10000000))] #[3, 3, 3] co_air_within hs6 (c_air_within N w5 F1 hs6.pers (x1) (1) (10000000) _ hr13) ?_
  intro v15 F2 w16 hs17 le18 hp19
  obtain rfl := hp19
  refine V 12 4 (run_not (t := 4) (x := (.tmp 11)) (a := r12) rfl) ?_
  refine V 9 4 (ma 12 (.bool (!r12))) ?_
  refine Nt ?_
  refine CWP.cond (t := (!r12)) (by kernel_rfl) rfl (fun hb20 => ?_) (fun hb20 => ?_)
  ·have h21 := cond_t h14 hb20
   refine Sq (Rg [0] ?_)
   refine V 4 23 (mc (vi 1) (vi 1)) ?_
   refine Nt ?_
   refine CWP.ret (by kernel_rfl) ?_
   refine blockQ_ret ?_
   refine thenQ_ret ?_
   have hfin := some_inj h21
   subst hfin
   exact ⟨rfl, (vi 1), res_of (l := [.tmp 4]) (by kernel_rfl) (vs := [(vi 1)]) ⟨rfl, trivial⟩, (vi 1), F2, rfl, hs17.clear, rfl⟩
  ·have h22 := cond_f h14 hb20
   refine Sc ?_
   refine blockQ_nrm ?_
   refine thenQ_nrm ?_
   refine Sq (Rg [0] ?_)
   refine V 4 23 (mc (vi 0) (vi 0)) ?_
   refine Nt ?_
   refine CWP.ret (by kernel_rfl) ?_
   have hfin := some_inj h22
   subst hfin
   exact ⟨rfl, (vi 0), res_of (l := [.tmp 4]) (by kernel_rfl) (vs := [(vi 0)]) ⟨rfl, trivial⟩, (vi 0), F2, rfl, hs17.clear, rfl⟩
end Go.Proofs.YtlddakefmfcblaaGreatDoor
namespace Go.Proofs.YtlddakefmfcblaaGreatDoor
open Go.Proofs
def air_Nearest_1 (N : Nat) (x0 : Band) (z0 : Int) : Option Int :=
 some (max (max 0 (W64 (x0.Lo - z0))) (W64 (z0 - x0.Hi)))
theorem co_air_Nearest_1 : CallOk Tryz.prog 69 := fun _ _ => by kernel_rfl
set_option maxHeartbeats 4000000 in
set_option maxRecDepth 100000 in
theorem c_air_Nearest_1 (N : Nat) (w0 : World) (F0 : Mem) (hF : ∀ b o, F0 b = some o → w0.heap[b]? = some o) (x0 : Band) (bz0 : Nat) (z0 : Int) (hz0 : F0 bz0 = some (oc #[(vi z0)] 3)) (r : Int) (h : air_Nearest_1 N x0 z0 = some r) :
  Calls Tryz.prog 69 ([(.agg (kBand x0)), (.pointer (some ⟨bz0, 0, none⟩))] : List Value).toArray w0 (FRet w0 F0 fun F' v => v = (vi r)) := by
 have hs0 := HS.start hF
 refine calls_of (n := 13) (c := bodyOf Tryz.f69) Tryz.func69 (by kernel_rfl) (by kernel_rfl) (by kernel_rfl) ?_
 refine Sq (Rg [0, 1] ?_)
 refine Bx 2 0 0 40 (kBand x0) hs0 (fun b1 w2 (hs3 : HS w0 F0 w2 F0 [(sb b1 (kBand x0) 40)]) => ?_)
 refine V 3 3 (mc (vi 0) (vi 0)) ?_
 refine Nss (Rg [0, 1, 2, 3, 4, 5, 6, 7, 8, 9] ?_)
 refine V 4 0 (fa 40 2 1 1 1 b1 0 1) ?_
 refine V 5 3 (ld 3 4 b1 1 false 1 (vi x0.Lo) (hs3.ownAt (k := 0) rfl)) ?_
 refine V 6 3 (ld 3 1 bz0 0 false 1 (vi z0) (hs3.pers _ _ hz0)) ?_
 refine V 7 3 (run_sub (t := 3) (t' := 3) (x := (.tmp 5)) (y := (.tmp 6)) (k := .i64) (a := x0.Lo) (b := z0) rfl rfl) ?_
 refine V 8 3 (ld 3 1 bz0 0 false 1 (vi z0) (hs3.pers _ _ hz0)) ?_
 refine V 9 0 (fa 40 2 2 2 1 b1 0 2) ?_
 refine V 10 3 (ld 3 9 b1 2 false 1 (vi x0.Hi) (hs3.ownAt (k := 0) rfl)) ?_
 refine V 11 3 (run_sub (t := 3) (t' := 3) (x := (.tmp 8)) (y := (.tmp 10)) (k := .i64) (a := z0) (b := x0.Hi) rfl rfl) ?_
 refine V 12 3 (run_max3 (x := (.const (vi 0))) (y := (.tmp 7)) (z := (.tmp 11)) (ats := #[3, 3, 3]) (a := 0) (b := (W64 (x0.Lo - z0))) (c := (W64 (z0 - x0.Hi))) rfl rfl rfl) ?_
 refine V 3 3 (ma 12 (vi (max (max 0 (W64 (x0.Lo - z0))) (W64 (z0 - x0.Hi))))) ?_
 refine Nt ?_
 refine CWP.ret (by kernel_rfl) ?_
 have hfin := some_inj h
 subst hfin
 exact ⟨rfl, (vi (max (max 0 (W64 (x0.Lo - z0))) (W64 (z0 - x0.Hi)))), res_of (l := [.tmp 3]) (by kernel_rfl) (vs := [(vi (max (max 0 (W64 (x0.Lo - z0))) (W64 (z0 - x0.Hi))))]) ⟨rfl, trivial⟩, (vi (max (max 0 (W64 (x0.Lo - z0))) (W64 (z0 - x0.Hi)))), F0, rfl, hs3.clear, rfl⟩
end Go.Proofs.YtlddakefmfcblaaGreatDoor
namespace Go.Proofs.YtlddakefmfcblaaGreatDoor
open Go.Proofs
def slices_MinFunc_api_Band_api_Band_L0 (N : Nat) (x0 : (List Band)) (x1 : (Band → Band → Option Int)) (x7 : Band) : (Int × Int × Int × Int) → Option (Flow Band (Int × Int × Int × Int)) := fun s29 =>
 (bif (decide (s29.1 < (x0.length : Int))) then (((idx x0 s29.1).bind fun x69 => ((x1 x69 ({ ID := s29.2.1, Lo := s29.2.2.1, Hi := s29.2.2.2 } : Band)).bind fun r75 => some (decide (r75 < 0)))).bind fun j59 => ((bif j59 then ((idx x0 s29.1).bind fun x97 => some (x97.ID, x97.Lo, x97.Hi)) else some (s29.2.1, s29.2.2.1, s29.2.2.2)).bind fun j86 => some (.next ((W64 (s29.1 + 1)), j86.1, j86.2.1, j86.2.2)))) else some (.done (s29.1, s29.2.1, s29.2.2.1, s29.2.2.2)))
def slices_MinFunc_api_Band_api_Band (N : Nat) (x0 : (List Band)) (x1 : (Band → Band → Option Int)) : Option Band :=
 (bif (decide ((x0.length : Int) < 1)) then none else ((idx x0 0).bind fun x7 => ((iter (slices_MinFunc_api_Band_api_Band_L0 N x0 x1 x7) N (1, x7.ID, x7.Lo, x7.Hi)).bind fun o => o.k (fun r => some r) (fun s39 => some ({ ID := s39.2.1, Lo := s39.2.2.1, Hi := s39.2.2.2 } : Band)))))
theorem co_slices_MinFunc_api_Band_api_Band : CallOk Tryz.prog 70 := fun _ _ => by kernel_rfl
set_option maxHeartbeats 4000000 in
set_option maxRecDepth 100000 in
theorem c_slices_MinFunc_api_Band_api_Band (N : Nat) (w0 : World) (F0 : Mem) (hF : ∀ b o, F0 b = some o → w0.heap[b]? = some o) (x0 : (List Band)) (a0_0 : Option Addr) (n0_0 : Nat) (hb0_0 : LC x0.length n0_0) (hs0_0 : SlA tBand F0 a0_0 x0) (gx1 : FuncId) (fx1 kx1 : List Value) (x1 : Band → Band → Option Int) (hox1 : CallOk Tryz.prog gx1) (hpx1 : Fn93 F0 gx1 fx1 kx1 x1) (r : Band) (h : slices_MinFunc_api_Band_api_Band N x0 x1 = some r) :
  Calls Tryz.prog 70 ([(.slice a0_0 x0.length n0_0), (.func (.func gx1) fx1.toArray kx1.toArray)] : List Value).toArray w0 (FRet w0 F0 fun F' v => v = (.agg (kBand r))) := by
 have hs0 := HS.start hF
 refine calls_of (n := 33) (c := bodyOf Tryz.f70) Tryz.func70 (by kernel_rfl) (by kernel_rfl) (by kernel_rfl) ?_
 refine Sq (Rg [0] ?_)
 refine Al 4 0 40 #[(vi 0), (vi 0), (vi 0)] hs0 (fun b1 w2 (hs3 : HS w0 F0 w2 F0 [(sb b1 #[(vi 0), (vi 0), (vi 0)] 40)]) => ?_)
 refine Nss ?_
 refine Sq (Rg [0, 1, 2] ?_)
 refine V 7 32 (mv 0 (.slice a0_0 x0.length n0_0)) ?_
 refine V 8 3 (ln 7 32 a0_0 x0.length n0_0 40 3 24) ?_
 refine V 9 4 (run_lss (t := 3) (t' := 3) (x := (.tmp 8)) (y := (.const (vi 1))) (k := .i64) (a := (x0.length : Int)) (b := 1) rfl rfl) ?_
 refine Nt ?_
 refine CWP.cond (t := (decide ((x0.length : Int) < 1))) (by kernel_rfl) rfl (fun hb4 => ?_) (fun hb4 => ?_)
 ·have h5 := cond_t h hb4
  refine Rg [0, 1] ?_
  refine V 10 20 (run_mkIface' (t := 9) (x := (.const (.string ⟨([115, 108, 105, 99, 101, 115, 46, 77, 105, 110, 70, 117, 110, 99, 58, 32, 101, 109, 112, 116, 121, 32, 108, 105, 115, 116] : List UInt8).toArray⟩))) (v := (.string ⟨(([115, 108, 105, 99, 101, 115, 46, 77, 105, 110, 70, 117, 110, 99, 58, 32, 101, 109, 112, 116, 121, 32, 108, 105, 115, 116] : List UInt8)).toArray⟩)) rfl (by kernel_rfl)) ?_
  cases h5
 ·have h6 := cond_f h hb4
  refine Sc ?_
  refine thenQ_nrm ?_
  refine Sq (Rg [0, 1, 2, 3, 4] ?_)
  refine V 11 32 (mv 0 (.slice a0_0 x0.length n0_0)) ?_
  obtain ⟨x7, hx8, h10⟩ := bind_some h6
  obtain ⟨hi9, hx8'⟩ := idx_spec hx8
  obtain ⟨b11, o12, C13, E14, fz15, rfl, hF17, hE18⟩ := SlA.open hs0_0 hx8'
  have hc20 := hE18 _ _ hx8'
  refine V 12 0 (run_index (t := 32) (x := (.tmp 11)) (y := (.const (vi 0))) (b := b11) (o := o12) (E := 40) (s := 3) (by_ := 24) rfl rfl (by kernel_rfl) hi9) ?_
  refine V 13 40 (lx 40 12 0 3 true 3 (.agg (kBand x7)) (hs3.pers _ _ hF17) hc20) ?_
  refine Al 5 0 40 #[(vi 0), (vi 0), (vi 0)] hs3 (fun b21 w22 (hs23 : HS w0 F0 w22 F0 [(sb b21 #[(vi 0), (vi 0), (vi 0)] 40), (sb b1 #[(vi 0), (vi 0), (vi 0)] 40)]) => ?_)
  refine RWP.store (ty := 0) (g := none) (by kernel_rfl) rfl (x := (.tmp 5)) (y := (.tmp 13)) (t := 40) (gg := true) (s := 3) (v := (.agg (kBand x7))) (b := b21) (o := 0) (C := #[(vi 0), (vi 0), (vi 0)]) rfl rfl (by kernel_rfl) hs23 (k := 0) rfl rfl rfl rfl (C' := (kBand x7)) rfl (fun w24 (hs25 : HS w0 F0 w24 F0 [(sb b21 (kBand x7) 40), (sb b1 #[(vi 0), (vi 0), (vi 0)] 40)]) => ?_)
  refine Nss ?_
  refine Sq (Rg [0] ?_)
  refine V 6 3 (mc (vi 1) (vi 1)) ?_
  refine Nt ?_
  obtain ⟨o26, ho27, h28⟩ := bind_some h10
  refine CWP.cut (fun f w => ∃ (s39 : (Int × Int × Int × Int)) (F2 : Mem), o26 = .done s39 ∧ HS w0 F0 w F2 [(sb b21 #[(vi s39.2.1), (vi s39.2.2.1), (vi s39.2.2.2)] 40), (sb b1 #[(vi 0), (vi 0), (vi 0)] 40)] ∧ Mem.le F0 F2 ∧ f.d = [] ∧ f 4 = (.pointer (some ⟨b1, 0, none⟩)) ∧ f 5 = (.pointer (some ⟨b21, 0, none⟩))) ?_ ?_
  ·refine Bk ?_
   refine CWP.loop (by kernel_rfl) (fun m f w => ∃ (s29 : (Int × Int × Int × Int)) (F1 : Mem), iter (slices_MinFunc_api_Band_api_Band_L0 N x0 x1 x7) m s29 = some o26 ∧ HS w0 F0 w F1 [(sb b21 #[(vi s29.2.1), (vi s29.2.2.1), (vi s29.2.2.2)] 40), (sb b1 #[(vi 0), (vi 0), (vi 0)] 40)] ∧ Mem.le F0 F1 ∧ f.d = [] ∧ f 0 = (.slice (some ⟨b11, o12, none⟩) x0.length n0_0) ∧ f 1 = (.func (.func gx1) fx1.toArray kx1.toArray) ∧ f 4 = (.pointer (some ⟨b1, 0, none⟩)) ∧ f 5 = (.pointer (some ⟨b21, 0, none⟩)) ∧ f 6 = (vi s29.1)) N ⟨(1, x7.ID, x7.Lo, x7.Hi), F0, ho27, hs25, (Mem.le.refl _), rfl, rfl, rfl, rfl, rfl, rfl⟩ ?_
   rintro m46 f w30 ⟨s29, F1, hit47, hs31, le32, e33, e34, e35, e36, e37, e38⟩
   obtain ⟨m48, fl49, rfl, hb50, hnx51⟩ := iter_step hit47
   refine Sq ?_
   refine Sq (Rg [0, 1, 2, 3] ?_)
   refine V 14 3 (mv 6 (vi s29.1) e38) ?_
   refine V 15 32 (mv 0 (.slice (some ⟨b11, o12, none⟩) x0.length n0_0) e34) ?_
   refine V 16 3 (ln 15 32 (some ⟨b11, o12, none⟩) x0.length n0_0 40 3 24) ?_
   refine V 17 4 (run_lss (t := 3) (t' := 3) (x := (.tmp 14)) (y := (.tmp 16)) (k := .i64) (a := s29.1) (b := (x0.length : Int)) rfl rfl) ?_
   refine Nt ?_
   refine CWP.cond (t := (decide (s29.1 < (x0.length : Int)))) (by kernel_rfl) rfl (fun hb52 => ?_) (fun hb52 => ?_)
   ·have h53 := cond_t hb50 hb52
    refine Sc ?_
    refine thenQ_nrm ?_
    refine Sq ?_
    refine Bk ?_
    refine Sq ?_
    obtain ⟨j59, hj67, h68⟩ := bind_some h53
    refine CWP.regionD (by kernel_rfl) (by kernel_rfl) (by kernel_rfl) (by kernel_rfl) (z := 8) (F := F1) (Lc := [(sb b21 #[(vi s29.2.1), (vi s29.2.2.1), (vi s29.2.2.2)] 40), (sb b1 #[(vi 0), (vi 0), (vi 0)] 40)]) (Lz := []) (l := [false, false, false, false, false, false, false, false]) (fuel := 8) (by kernel_rfl) (by kernel_rfl) hs31 (by simp) (by simp) (fun f w => ∃ (F3 : Mem), HS w0 F0 w F3 [(sb b21 #[(vi s29.2.1), (vi s29.2.2.1), (vi s29.2.2.2)] 40), (sb b1 #[(vi 0), (vi 0), (vi 0)] 40)] ∧ Mem.le F1 F3 ∧ f.d = [] ∧ f 0 = (.slice (some ⟨b11, o12, none⟩) x0.length n0_0) ∧ f 1 = (.func (.func gx1) fx1.toArray kx1.toArray) ∧ f 4 = (.pointer (some ⟨b1, 0, none⟩)) ∧ f 5 = (.pointer (some ⟨b21, 0, none⟩)) ∧ f 6 = (vi s29.1) ∧ f 27 = (.bool j59)) (fun wd54 hw55 => ?_) ?_
    ·refine Dt 0 20 93 _ (fun _ hq => mv 1 (.func (.func gx1) fx1.toArray kx1.toArray) e35) ?_
     refine Dt 1 21 32 _ (fun _ hq => mv 0 (.slice (some ⟨b11, o12, none⟩) x0.length n0_0) e34) ?_
     refine Dt 2 22 3 _ (fun _ hq => mv 6 (vi s29.1) e38) ?_
     obtain ⟨x69, hx70, h72⟩ := bind_some hj67
     obtain ⟨hi71, hx70'⟩ := idx_spec hx70
     have hc74 := hE18 _ _ hx70'
     refine Dt 3 23 0 (.pointer (some ⟨b11, (o12 + (s29.1 : Int).toNat * 3), none⟩)) (fun _ hq => ix 32 21 22 b11 o12 40 3 24 hi71) ?_
     refine Dt 4 24 40 _ (fun _ hq => lx 40 23 0 3 true 3 (.agg (kBand x69)) (hq.1.1 _ _ (le32 _ _ hF17)) hc74) ?_
     refine Dt 5 25 40 _ (fun _ hq => ld 40 5 b21 0 true 3 (.agg #[(vi s29.2.1), (vi s29.2.2.1), (vi s29.2.2.2)]) (hq.1.2 0 _ _ rfl) e37) ?_
     refine DWP.one (i := 6) (by kernel_rfl) ?_
     obtain ⟨r75, hr76, h77⟩ := bind_some h72
     refine DStep.call (l' := [true, true, true, true, true, true, true, false]) (zd := true) (by kernel_rfl) (by kernel_rfl) (by kernel_rfl) (dst := (some 26)) (ty := 3) (g := none) (by kernel_rfl) rfl (f0 := (.tmp 20)) (aos := #[(.tmp 24), (.tmp 25)]) (ats := #[40, 40]) (fid := gx1) (first := fx1.toArray) (cap := kx1.toArray) (args := (fx1 ++ (([(.agg (kBand x69)), (.agg #[(vi s29.2.1), (vi s29.2.2.1), (vi s29.2.2.2)])] : List Value) ++ kx1))) rfl hox1 (app_args2 (l := [(.agg (kBand x69)), (.agg #[(vi s29.2.1), (vi s29.2.2.1), (vi s29.2.2.2)])]) (fi := fx1) (k := kx1) (rfl)) hw55 (hpx1 wd54 F1 (x69) (({ ID := s29.2.1, Lo := s29.2.2.1, Hi := s29.2.2.2 } : Band)) _ le32 hw55.pers hr76) ?_
     intro v78 F4 w79 hs80 le81 hp82
     obtain rfl := hp82
     refine Dt 7 27 4 (.bool (decide (r75 < 0))) (fun _ hq => run_lss (t := 3) (t' := 3) (x := (.tmp 26)) (y := (.const (vi 0))) (k := .i64) (a := r75) (b := 0) rfl rfl) ?_
     obtain rfl := some_inj h77
     exact DWP.done (by kernel_rfl) ⟨F4, hs80, le81, e33, e34, e35, e36, e37, e38, rfl⟩
    ·rintro f w56 ⟨F3, hs57, le58, e60, e61, e62, e63, e64, e65, e66⟩
     refine thenQ_nrm ?_
     obtain ⟨j86, hj93, h94⟩ := bind_some h68
     refine CWP.cut (fun f w => ∃ (F5 : Mem), HS w0 F0 w F5 [(sb b21 #[(vi j86.1), (vi j86.2.1), (vi j86.2.2)] 40), (sb b1 #[(vi 0), (vi 0), (vi 0)] 40)] ∧ Mem.le F3 F5 ∧ f.d = [] ∧ f 0 = (.slice (some ⟨b11, o12, none⟩) x0.length n0_0) ∧ f 1 = (.func (.func gx1) fx1.toArray kx1.toArray) ∧ f 4 = (.pointer (some ⟨b1, 0, none⟩)) ∧ f 5 = (.pointer (some ⟨b21, 0, none⟩)) ∧ f 6 = (vi s29.1)) ?_ ?_
     ·refine CWP.cond (t := j59) (by kernel_rfl) e66 (fun hb95 => ?_) (fun hb95 => ?_)
      ·have h96 := cond_t hj93 hb95
       refine Rg [0, 1, 2, 3, 4] ?_
       refine V 28 32 (mv 0 (.slice (some ⟨b11, o12, none⟩) x0.length n0_0) e61) ?_
       refine V 29 3 (mv 6 (vi s29.1) e65) ?_
       obtain ⟨x97, hx98, h100⟩ := bind_some h96
       obtain ⟨hi99, hx98'⟩ := idx_spec hx98
       have hc102 := hE18 _ _ hx98'
       refine V 30 0 (ix 32 28 29 b11 o12 40 3 24 hi99) ?_
       refine V 31 40 (lx 40 30 0 3 true 3 (.agg (kBand x97)) (hs57.pers _ _ ((le32.trans le58) _ _ hF17)) hc102) ?_
       refine RWP.store (ty := 0) (g := none) (by kernel_rfl) rfl (x := (.tmp 5)) (y := (.tmp 31)) (t := 40) (gg := true) (s := 3) (v := (.agg (kBand x97))) (b := b21) (o := 0) (C := #[(vi s29.2.1), (vi s29.2.2.1), (vi s29.2.2.2)]) e64 rfl (by kernel_rfl) hs57 (k := 0) rfl rfl rfl rfl (C' := (kBand x97)) rfl (fun w103 (hs104 : HS w0 F0 w103 F3 [(sb b21 (kBand x97) 40), (sb b1 #[(vi 0), (vi 0), (vi 0)] 40)]) => ?_)
       refine RWP.nil ?_
       obtain rfl := some_inj h100
       exact .inl ⟨rfl, F3, hs104, (Mem.le.refl _), e60, e61, e62, e63, e64, e65⟩
      ·have h105 := cond_f hj93 hb95
       refine Sc ?_
       obtain rfl := some_inj h105
       exact .inl ⟨rfl, F3, hs57, (Mem.le.refl _), e60, e61, e62, e63, e64, e65⟩
     ·rintro f w83 ⟨F5, hs84, le85, e87, e88, e89, e90, e91, e92⟩
      refine blockQ_nrm ?_
      refine thenQ_nrm ?_
      refine Rg [0, 1, 2] ?_
      refine V 18 3 (mv 6 (vi s29.1) e92) ?_
      refine V 19 3 (run_add (t := 3) (t' := 3) (x := (.tmp 18)) (y := (.const (vi 1))) (k := .i64) (a := s29.1) (b := 1) rfl rfl) ?_
      refine V 6 3 (ma 19 (vi (W64 (s29.1 + 1)))) ?_
      refine RWP.nil ?_
      have hn106 := iter_next h94 hnx51
      exact ⟨m48, Nat.lt_succ_self _, ((W64 (s29.1 + 1)), j86.1, j86.2.1, j86.2.2), F5, hn106, hs84, ((le32.trans le58).trans le85), e87, e88, e89, e90, e91, rfl⟩
   ·have h107 := cond_f hb50 hb52
    refine CWP.exit (by kernel_rfl) ?_
    refine thenQ_ex ?_
    refine thenQ_ex ?_
    refine blockQ_hit rfl ?_
    have ho108 := iter_done h107 hnx51
    exact .inl ⟨rfl, (s29.1, s29.2.1, s29.2.2.1, s29.2.2.2), F1, ho108, hs31, le32, e33, e36, e37⟩
  ·rintro f w40 ⟨s39, F2, rfl, hs41, le42, e43, e44, e45⟩
   have h109 := k_done h28
   refine thenQ_nrm ?_
   refine Sq (Rg [0, 1] ?_)
   refine V 32 40 (ld 40 5 b21 0 true 3 (.agg #[(vi s39.2.1), (vi s39.2.2.1), (vi s39.2.2.2)]) (hs41.ownAt (k := 0) rfl) e45) ?_
   refine RWP.store (ty := 0) (g := none) (by kernel_rfl) rfl (x := (.tmp 4)) (y := (.tmp 32)) (t := 40) (gg := true) (s := 3) (v := (.agg #[(vi s39.2.1), (vi s39.2.2.1), (vi s39.2.2.2)])) (b := b1) (o := 0) (C := #[(vi 0), (vi 0), (vi 0)]) e44 rfl (by kernel_rfl) hs41 (k := 1) rfl rfl rfl rfl (C' := #[(vi s39.2.1), (vi s39.2.2.1), (vi s39.2.2.2)]) rfl (fun w110 (hs111 : HS w0 F0 w110 F2 [(sb b21 #[(vi s39.2.1), (vi s39.2.2.1), (vi s39.2.2.2)] 40), (sb b1 #[(vi s39.2.1), (vi s39.2.2.1), (vi s39.2.2.2)] 40)]) => ?_)
   refine Nt ?_
   refine CWP.ret (by kernel_rfl) ?_
   have hfin := some_inj h109
   subst hfin
   exact ⟨e43, (.agg #[(vi s39.2.1), (vi s39.2.2.1), (vi s39.2.2.2)]), res_of (l := [.cell 4 40]) (by kernel_rfl) (vs := [(.agg #[(vi s39.2.1), (vi s39.2.2.1), (vi s39.2.2.2)])]) ⟨b1, 0, e44, run_loadVar' (t := 40) (g := true) (s := 3) (by kernel_rfl) (hs111.ownAt (k := 1) rfl) rfl (by decide), trivial⟩, (.agg #[(vi s39.2.1), (vi s39.2.2.1), (vi s39.2.2.2)]), F2, rfl, hs111.clear, rfl⟩
end Go.Proofs.YtlddakefmfcblaaGreatDoor
namespace Go.Proofs.YtlddakefmfcblaaGreatDoor
open Go.Proofs
def cmp_isNaN_int (N : Nat) (x0 : Int) : Option Bool :=
 some (x0 != x0)
theorem co_cmp_isNaN_int : CallOk Tryz.prog 108 := fun _ _ => by kernel_rfl
set_option maxHeartbeats 4000000 in
set_option maxRecDepth 100000 in
theorem c_cmp_isNaN_int (N : Nat) (w0 : World) (F0 : Mem) (hF : ∀ b o, F0 b = some o → w0.heap[b]? = some o) (x0 : Int) (r : Bool) (h : cmp_isNaN_int N x0 = some r) :
  Calls Tryz.prog 108 ([(vi x0)] : List Value).toArray w0 (FRet w0 F0 fun F' v => v = (.bool r)) := by
 have hs0 := HS.start hF
 refine calls_of (n := 6) (c := bodyOf Tryz.f108) Tryz.func108 (by kernel_rfl) (by kernel_rfl) (by kernel_rfl) ?_
 refine Sq (Rg [0] ?_)
 refine V 2 4 (mc (.bool false) (.bool false)) ?_
 refine Nss (Rg [0, 1, 2, 3] ?_)
 refine V 3 3 (mv 0 (vi x0)) ?_
 refine V 4 3 (mv 0 (vi x0)) ?_
 refine V 5 4 (run_neq (t := 3) (t' := 3) (x := (.tmp 3)) (y := (.tmp 4)) (k := .i64) (a := x0) (b := x0) rfl rfl) ?_
 refine V 2 4 (ma 5 (.bool (x0 != x0))) ?_
 refine Nt ?_
 refine CWP.ret (by kernel_rfl) ?_
 have hfin := some_inj h
 subst hfin
 exact ⟨rfl, (.bool (x0 != x0)), res_of (l := [.tmp 2]) (by kernel_rfl) (vs := [(.bool (x0 != x0))]) ⟨rfl, trivial⟩, (.bool (x0 != x0)), F0, rfl, hs0.clear, rfl⟩
end Go.Proofs.YtlddakefmfcblaaGreatDoor
namespace Go.Proofs.YtlddakefmfcblaaGreatDoor
open Go.Proofs
def cmp_Compare_int (N : Nat) (x0 : Int) (x1 : Int) : Option Int :=
 ((cmp_isNaN_int N x0).bind fun r1 => ((cmp_isNaN_int N x1).bind fun r9 => (bif r1 then (bif r9 then some 0 else some (-1)) else (bif r9 then some 1 else (bif (decide (x0 < x1)) then some (-1) else (bif (decide (x0 > x1)) then some 1 else some 0))))))
theorem co_cmp_Compare_int : CallOk Tryz.prog 72 := fun _ _ => by kernel_rfl
set_option maxHeartbeats 4000000 in
set_option maxRecDepth 100000 in
theorem c_cmp_Compare_int (N : Nat) (w0 : World) (F0 : Mem) (hF : ∀ b o, F0 b = some o → w0.heap[b]? = some o) (x0 : Int) (x1 : Int) (r : Int) (h : cmp_Compare_int N x0 x1 = some r) :
  Calls Tryz.prog 72 ([(vi x0), (vi x1)] : List Value).toArray w0 (FRet w0 F0 fun F' v => v = (vi r)) := by
 have hs0 := HS.start hF
 refine calls_of (n := 20) (c := bodyOf Tryz.f72) Tryz.func72 (by kernel_rfl) (by kernel_rfl) (by kernel_rfl) ?_
 refine Sq (Rg [0] ?_)
 refine V 4 3 (mc (vi 0) (vi 0)) ?_
 refine Nss (Rg [0, 1, 2] ?_)
 refine V 7 3 (mv 0 (vi x0)) ?_
 obtain ⟨r1, hr2, h3⟩ := bind_some h
 refine Cl 8 4 108 #[(.tmp 7)] #[3] co_cmp_isNaN_int hs0 (c_cmp_isNaN_int N w0 F0 hs0.pers (x0) _ hr2) ?_
 intro v4 F1 w5 hs6 le7 hp8
 obtain rfl := hp8
 refine V 5 4 (ma 8 (.bool r1)) ?_
 refine Nss (Rg [0, 1, 2] ?_)
 refine V 9 3 (mv 1 (vi x1)) ?_
 obtain ⟨r9, hr10, h11⟩ := bind_some h3
 refine Cl 10 4 108 #[(.tmp 9)] #[3] co_cmp_isNaN_int hs6 (c_cmp_isNaN_int N w5 F1 hs6.pers (x1) _ hr10) ?_
 intro v12 F2 w13 hs14 le15 hp16
 obtain rfl := hp16
 refine V 6 4 (ma 10 (.bool r9)) ?_
 refine Nss ?_
 refine Sq (Rg [0] ?_)
 refine V 11 4 (mv 5 (.bool r1)) ?_
 refine Nt ?_
 refine CWP.cond (t := r1) (by kernel_rfl) rfl (fun hb17 => ?_) (fun hb17 => ?_)
 ·have h18 := cond_t h11 hb17
  refine Sq ?_
  refine Sq (Rg [0] ?_)
  refine V 12 4 (mv 6 (.bool r9)) ?_
  refine Nt ?_
  refine CWP.cond (t := r9) (by kernel_rfl) rfl (fun hb19 => ?_) (fun hb19 => ?_)
  ·have h20 := cond_t h18 hb19
   refine Sq (Rg [0] ?_)
   refine V 4 3 (mc (vi 0) (vi 0)) ?_
   refine Nt ?_
   refine CWP.ret (by kernel_rfl) ?_
   refine thenQ_ret ?_
   refine thenQ_ret ?_
   have hfin := some_inj h20
   subst hfin
   exact ⟨rfl, (vi 0), res_of (l := [.tmp 4]) (by kernel_rfl) (vs := [(vi 0)]) ⟨rfl, trivial⟩, (vi 0), F2, rfl, hs14.clear, rfl⟩
  ·have h21 := cond_f h18 hb19
   refine Sc ?_
   refine thenQ_nrm ?_
   refine Sq (Rg [0] ?_)
   refine V 4 3 (mc (vi (-1)) (vi (-1))) ?_
   refine Nt ?_
   refine CWP.ret (by kernel_rfl) ?_
   refine thenQ_ret ?_
   have hfin := some_inj h21
   subst hfin
   exact ⟨rfl, (vi (-1)), res_of (l := [.tmp 4]) (by kernel_rfl) (vs := [(vi (-1))]) ⟨rfl, trivial⟩, (vi (-1)), F2, rfl, hs14.clear, rfl⟩
 ·have h22 := cond_f h11 hb17
  refine Sc ?_
  refine thenQ_nrm ?_
  refine Sq ?_
  refine Sq (Rg [0] ?_)
  refine V 13 4 (mv 6 (.bool r9)) ?_
  refine Nt ?_
  refine CWP.cond (t := r9) (by kernel_rfl) rfl (fun hb23 => ?_) (fun hb23 => ?_)
  ·have h24 := cond_t h22 hb23
   refine Sq (Rg [0] ?_)
   refine V 4 3 (mc (vi 1) (vi 1)) ?_
   refine Nt ?_
   refine CWP.ret (by kernel_rfl) ?_
   refine thenQ_ret ?_
   have hfin := some_inj h24
   subst hfin
   exact ⟨rfl, (vi 1), res_of (l := [.tmp 4]) (by kernel_rfl) (vs := [(vi 1)]) ⟨rfl, trivial⟩, (vi 1), F2, rfl, hs14.clear, rfl⟩
  ·have h25 := cond_f h22 hb23
   refine Sc ?_
   refine thenQ_nrm ?_
   refine Sq ?_
   refine Sq (Rg [0, 1, 2] ?_)
   refine V 14 3 (mv 0 (vi x0)) ?_
   refine V 15 3 (mv 1 (vi x1)) ?_
   refine V 16 4 (run_lss (t := 3) (t' := 3) (x := (.tmp 14)) (y := (.tmp 15)) (k := .i64) (a := x0) (b := x1) rfl rfl) ?_
   refine Nt ?_
   refine CWP.cond (t := (decide (x0 < x1))) (by kernel_rfl) rfl (fun hb26 => ?_) (fun hb26 => ?_)
   ·have h27 := cond_t h25 hb26
    refine Sq (Rg [0] ?_)
    refine V 4 3 (mc (vi (-1)) (vi (-1))) ?_
    refine Nt ?_
    refine CWP.ret (by kernel_rfl) ?_
    refine thenQ_ret ?_
    have hfin := some_inj h27
    subst hfin
    exact ⟨rfl, (vi (-1)), res_of (l := [.tmp 4]) (by kernel_rfl) (vs := [(vi (-1))]) ⟨rfl, trivial⟩, (vi (-1)), F2, rfl, hs14.clear, rfl⟩
   ·have h28 := cond_f h25 hb26
    refine Sc ?_
    refine thenQ_nrm ?_
    refine Sq ?_
    refine Sq (Rg [0, 1, 2] ?_)
    refine V 17 3 (mv 0 (vi x0)) ?_
    refine V 18 3 (mv 1 (vi x1)) ?_
    refine V 19 4 (run_gtr (t := 3) (t' := 3) (x := (.tmp 17)) (y := (.tmp 18)) (k := .i64) (a := x0) (b := x1) rfl rfl) ?_
    refine Nt ?_
    refine CWP.cond (t := (decide (x0 > x1))) (by kernel_rfl) rfl (fun hb29 => ?_) (fun hb29 => ?_)
    ·have h30 := cond_t h28 hb29
     refine Sq (Rg [0] ?_)
     refine V 4 3 (mc (vi 1) (vi 1)) ?_
     refine Nt ?_
     refine CWP.ret (by kernel_rfl) ?_
     refine thenQ_ret ?_
     have hfin := some_inj h30
     subst hfin
     exact ⟨rfl, (vi 1), res_of (l := [.tmp 4]) (by kernel_rfl) (vs := [(vi 1)]) ⟨rfl, trivial⟩, (vi 1), F2, rfl, hs14.clear, rfl⟩
    ·have h31 := cond_f h28 hb29
     refine Sc ?_
     refine thenQ_nrm ?_
     refine Sq (Rg [0] ?_)
     refine V 4 3 (mc (vi 0) (vi 0)) ?_
     refine Nt ?_
     refine CWP.ret (by kernel_rfl) ?_
     have hfin := some_inj h31
     subst hfin
     exact ⟨rfl, (vi 0), res_of (l := [.tmp 4]) (by kernel_rfl) (vs := [(vi 0)]) ⟨rfl, trivial⟩, (vi 0), F2, rfl, hs14.clear, rfl⟩
end Go.Proofs.YtlddakefmfcblaaGreatDoor
namespace Go.Proofs.YtlddakefmfcblaaGreatDoor
open Go.Proofs
def air_Nearest_2 (N : Nat) (x0 : Band) (x1 : Band) (z0 : (Band → Option Int)) : Option Int :=
 (((z0 x0).bind fun r17 => ((z0 x1).bind fun r25 => ((cmp_Compare_int N r17 r25).bind fun r33 => some r33))).bind fun j12 => some j12)
theorem co_air_Nearest_2 : CallOk Tryz.prog 71 := fun _ _ => by kernel_rfl
set_option maxHeartbeats 4000000 in
set_option maxRecDepth 100000 in
theorem c_air_Nearest_2 (N : Nat) (w0 : World) (F0 : Mem) (hF : ∀ b o, F0 b = some o → w0.heap[b]? = some o) (x0 : Band) (x1 : Band) (bz0 : Nat) (z0 : (Band → Option Int)) (gz0_0 : FuncId) (fz0_0 : List Value) (kz0_0 : List Value) (hoz0_0 : CallOk Tryz.prog gz0_0) (hpz0_0 : Fn90 F0 gz0_0 fz0_0 kz0_0 z0) (hz0 : F0 bz0 = some (oc #[(.func (.func gz0_0) fz0_0.toArray kz0_0.toArray)] 90)) (r : Int) (h : air_Nearest_2 N x0 x1 z0 = some r) :
  Calls Tryz.prog 71 ([(.agg (kBand x0)), (.agg (kBand x1)), (.pointer (some ⟨bz0, 0, none⟩))] : List Value).toArray w0 (FRet w0 F0 fun F' v => v = (vi r)) := by
 have hs0 := HS.start hF
 refine calls_of (n := 13) (c := bodyOf Tryz.f71) Tryz.func71 (by kernel_rfl) (by kernel_rfl) (by kernel_rfl) ?_
 refine Sq (Rg [0, 1, 2] ?_)
 refine Bx 3 0 0 40 (kBand x0) hs0 (fun b1 w2 (hs3 : HS w0 F0 w2 F0 [(sb b1 (kBand x0) 40)]) => ?_)
 refine Bx 4 0 1 40 (kBand x1) hs3 (fun b4 w5 (hs6 : HS w0 F0 w5 F0 [(sb b4 (kBand x1) 40), (sb b1 (kBand x0) 40)]) => ?_)
 refine V 5 3 (mc (vi 0) (vi 0)) ?_
 refine Nss ?_
 obtain ⟨j12, hj15, h16⟩ := bind_some h
 refine CWP.regionD (by kernel_rfl) (by kernel_rfl) (by kernel_rfl) (by kernel_rfl) (z := 8) (F := F0) (Lc := [(sb b4 (kBand x1) 40), (sb b1 (kBand x0) 40)]) (Lz := []) (l := [false, false, false, false, false, false, false, false]) (fuel := 8) (by kernel_rfl) (by kernel_rfl) hs6 (by simp) (by simp) (fun f w => ∃ (F1 : Mem), HS w0 F0 w F1 [] ∧ Mem.le F0 F1 ∧ f.d = [] ∧ f 5 = (vi j12)) (fun wd7 hw8 => ?_) ?_
 ·refine Dt 0 6 90 _ (fun _ hq => ld 90 2 bz0 0 false 1 (.func (.func gz0_0) fz0_0.toArray kz0_0.toArray) (hq.1.1 _ _ hz0)) ?_
  refine Dt 1 7 40 _ (fun _ hq => ld 40 3 b1 0 true 3 (.agg (kBand x0)) (hq.1.2 1 _ _ rfl)) ?_
  refine Dt 3 9 90 _ (fun _ hq => ld 90 2 bz0 0 false 1 (.func (.func gz0_0) fz0_0.toArray kz0_0.toArray) (hq.1.1 _ _ hz0)) ?_
  refine Dt 4 10 40 _ (fun _ hq => ld 40 4 b4 0 true 3 (.agg (kBand x1)) (hq.1.2 0 _ _ rfl)) ?_
  refine DWP.one (i := 2) (by kernel_rfl) ?_
  obtain ⟨r17, hr18, h19⟩ := bind_some hj15
  refine DStep.call (l' := [true, true, true, true, true, false, false, false]) (zd := true) (by kernel_rfl) (by kernel_rfl) (by kernel_rfl) (dst := (some 8)) (ty := 3) (g := none) (by kernel_rfl) rfl (f0 := (.tmp 6)) (aos := #[(.tmp 7)]) (ats := #[40]) (fid := gz0_0) (first := fz0_0.toArray) (cap := kz0_0.toArray) (args := (fz0_0 ++ (([(.agg (kBand x0))] : List Value) ++ kz0_0))) rfl hoz0_0 (app_args2 (l := [(.agg (kBand x0))]) (fi := fz0_0) (k := kz0_0) (rfl)) hw8 (hpz0_0 wd7 F0 (x0) _ (Mem.le.refl _) hw8.pers hr18) ?_
  intro v20 F2 w21 hs22 le23 hp24
  obtain rfl := hp24
  refine DWP.one (i := 5) (by kernel_rfl) ?_
  obtain ⟨r25, hr26, h27⟩ := bind_some h19
  refine DStep.call (l' := [true, true, true, true, true, true, false, false]) (zd := true) (by kernel_rfl) (by kernel_rfl) (by kernel_rfl) (dst := (some 11)) (ty := 3) (g := none) (by kernel_rfl) rfl (f0 := (.tmp 9)) (aos := #[(.tmp 10)]) (ats := #[40]) (fid := gz0_0) (first := fz0_0.toArray) (cap := kz0_0.toArray) (args := (fz0_0 ++ (([(.agg (kBand x1))] : List Value) ++ kz0_0))) rfl hoz0_0 (app_args2 (l := [(.agg (kBand x1))]) (fi := fz0_0) (k := kz0_0) (rfl)) hs22 (hpz0_0 w21 F2 (x1) _ le23 hs22.pers hr26) ?_
  intro v28 F3 w29 hs30 le31 hp32
  obtain rfl := hp32
  refine DWP.one (i := 6) (by kernel_rfl) ?_
  obtain ⟨r33, hr34, h35⟩ := bind_some h27
  refine DStep.call (l' := [true, true, true, true, true, true, true, false]) (zd := true) (by kernel_rfl) (by kernel_rfl) (by kernel_rfl) (dst := (some 12)) (ty := 3) (g := none) (by kernel_rfl) rfl (f0 := (.func 72)) (aos := #[(.tmp 8), (.tmp 11)]) (ats := #[3, 3]) (fid := 72) (first := #[]) (cap := #[]) (args := [(vi r17), (vi r25)]) rfl co_cmp_Compare_int (rfl) hs30 (c_cmp_Compare_int N w29 F3 hs30.pers (r17) (r25) _ hr34) ?_
  intro v36 F4 w37 hs38 le39 hp40
  obtain rfl := hp40
  refine Dt 7 5 3 _ (fun _ hq => ma 12 (vi r33)) ?_
  obtain rfl := some_inj h35
  have hs41 : HS w0 F0 w37 F4 [(sb b1 (kBand x0) 40)] := hs38.drop 0
  have hs42 : HS w0 F0 w37 F4 [] := hs41.drop 0
  exact DWP.done (by kernel_rfl) ⟨F4, hs42, ((le23.trans le31).trans le39), rfl, rfl⟩
 ·rintro f w9 ⟨F1, hs10, le11, e13, e14⟩
  refine thenQ_nrm ?_
  refine CWP.ret (by kernel_rfl) ?_
  have hfin := some_inj h16
  subst hfin
  exact ⟨e13, (vi j12), res_of (l := [.tmp 5]) (by kernel_rfl) (vs := [(vi j12)]) ⟨e14, trivial⟩, (vi j12), F1, rfl, hs10.clear, rfl⟩
end Go.Proofs.YtlddakefmfcblaaGreatDoor
namespace Go.Proofs.YtlddakefmfcblaaGreatDoor
open Go.Proofs
def air_Nearest (N : Nat) (x0 : (List Band)) (x1 : Int) : Option (Int × Int × Int) :=
 ((air_wrongBands N x0 x1).bind fun r4 => (bif (r4 != 0) then some (0, 0, r4) else (bif ((x0.length : Int) == 0) then some (0, 0, 3) else ((slices_MinFunc_api_Band_api_Band N x0 (fun y0 y1 => air_Nearest_2 N y0 y1 (fun y0 => air_Nearest_1 N y0 x1))).bind fun r29 => (((air_Nearest_1 N r29 x1).bind fun r54 => some r54).bind fun j47 => some (r29.ID, j47, 0))))))
theorem co_air_Nearest : CallOk Tryz.prog 24 := fun _ _ => by kernel_rfl
set_option maxHeartbeats 4000000 in
set_option maxRecDepth 100000 in
theorem c_air_Nearest (N : Nat) (w0 : World) (F0 : Mem) (hF : ∀ b o, F0 b = some o → w0.heap[b]? = some o) (x0 : (List Band)) (a0_0 : Option Addr) (n0_0 : Nat) (hb0_0 : LC x0.length n0_0) (hs0_0 : SlA tBand F0 a0_0 x0) (x1 : Int) (r : (Int × Int × Int)) (h : air_Nearest N x0 x1 = some r) :
  Calls Tryz.prog 24 ([(.slice a0_0 x0.length n0_0), (vi x1)] : List Value).toArray w0 (FRet w0 F0 fun F' v => v = (.tuple #[(vi r.1), (vi r.2.1), (vi r.2.2)])) := by
 have hs0 := HS.start hF
 refine calls_of (n := 28) (c := bodyOf Tryz.f24) Tryz.func24 (by kernel_rfl) (by kernel_rfl) (by kernel_rfl) ?_
 refine Sq (Rg [0, 1, 2, 3] ?_)
 refine Bx 3 0 1 3 #[(vi x1)] hs0 (fun b1 w2 (hs3 : HS w0 F0 w2 F0 [(sb b1 #[(vi x1)] 3)]) => ?_)
 refine V 4 3 (mc (vi 0) (vi 0)) ?_
 refine V 5 3 (mc (vi 0) (vi 0)) ?_
 refine V 6 23 (mc (vi 0) (vi 0)) ?_
 refine Nss ?_
 refine Sq (Rg [0, 1, 2, 3] ?_)
 refine V 10 32 (mv 0 (.slice a0_0 x0.length n0_0)) ?_
 refine V 11 3 (ld 3 3 b1 0 false 1 (vi x1) (hs3.ownAt (k := 0) rfl)) ?_
 obtain ⟨r4, hr5, h6⟩ := bind_some h
 refine Cl 12 23 68 #[(.tmp 10), (.tmp 11)] #[32, 3] co_air_wrongBands hs3 (c_air_wrongBands N w2 F0 hs3.pers (x0) a0_0 n0_0 hb0_0 hs0_0 (x1) _ hr5) ?_
 intro v7 F1 w8 hs9 le10 hp11
 obtain rfl := hp11
 refine V 7 23 (ma 12 (vi r4)) ?_
 refine Nss (Rg [0, 1] ?_)
 refine V 13 23 (mv 7 (vi r4)) ?_
 refine V 14 4 (run_neq (t := 23) (t' := 23) (x := (.tmp 13)) (y := (.const (vi 0))) (k := .i64) (a := r4) (b := 0) rfl rfl) ?_
 refine Nt ?_
 refine CWP.cond (t := (r4 != 0)) (by kernel_rfl) rfl (fun hb12 => ?_) (fun hb12 => ?_)
 ·have h13 := cond_t h6 hb12
  refine Sq (Rg [0, 1, 2, 3] ?_)
  refine V 15 23 (mv 7 (vi r4)) ?_
  refine V 4 3 (mc (vi 0) (vi 0)) ?_
  refine V 5 3 (mc (vi 0) (vi 0)) ?_
  refine V 6 23 (ma 15 (vi r4)) ?_
  refine Nt ?_
  refine CWP.ret (by kernel_rfl) ?_
  refine thenQ_ret ?_
  have hfin := some_inj h13
  subst hfin
  exact ⟨rfl, (.tuple #[(vi 0), (vi 0), (vi r4)]), res_of (l := [.tmp 4, .tmp 5, .tmp 6]) (by kernel_rfl) (vs := [(vi 0), (vi 0), (vi r4)]) ⟨rfl, ⟨rfl, ⟨rfl, trivial⟩⟩⟩, (.tuple #[(vi 0), (vi 0), (vi r4)]), F1, rfl, hs9.clear, rfl⟩
 ·have h14 := cond_f h6 hb12
  refine Sc ?_
  refine thenQ_nrm ?_
  refine Sq ?_
  refine Sq (Rg [0, 1, 2] ?_)
  refine V 16 32 (mv 0 (.slice a0_0 x0.length n0_0)) ?_
  refine V 17 3 (ln 16 32 a0_0 x0.length n0_0 40 3 24) ?_
  refine V 18 4 (run_eql (t := 3) (t' := 3) (x := (.tmp 17)) (y := (.const (vi 0))) (k := .i64) (a := (x0.length : Int)) (b := 0) rfl rfl) ?_
  refine Nt ?_
  refine CWP.cond (t := ((x0.length : Int) == 0)) (by kernel_rfl) rfl (fun hb15 => ?_) (fun hb15 => ?_)
  ·have h16 := cond_t h14 hb15
   refine Sq (Rg [0, 1, 2] ?_)
   refine V 4 3 (mc (vi 0) (vi 0)) ?_
   refine V 5 3 (mc (vi 0) (vi 0)) ?_
   refine V 6 23 (mc (vi 3) (vi 3)) ?_
   refine Nt ?_
   refine CWP.ret (by kernel_rfl) ?_
   refine thenQ_ret ?_
   have hfin := some_inj h16
   subst hfin
   exact ⟨rfl, (.tuple #[(vi 0), (vi 0), (vi 3)]), res_of (l := [.tmp 4, .tmp 5, .tmp 6]) (by kernel_rfl) (vs := [(vi 0), (vi 0), (vi 3)]) ⟨rfl, ⟨rfl, ⟨rfl, trivial⟩⟩⟩, (.tuple #[(vi 0), (vi 0), (vi 3)]), F1, rfl, hs9.clear, rfl⟩
  ·have h17 := cond_f h14 hb15
   refine Sc ?_
   refine thenQ_nrm ?_
   refine Sq (Rg [0, 1, 2] ?_)
   refine V 19 90 (run_makeFunc (fn := .func 69) (first := #[]) (cap := #[(.tmp 3)]) (fl := []) (cl := [(.pointer (some ⟨b1, 0, none⟩))]) rfl (rfl)) ?_
   refine RWP.alloc (dst := (some 8)) (ty := 0) (g := none) (by kernel_rfl) rfl (t := 90) (z := .nilFunc) (by kernel_rfl) (C := #[.nilFunc]) rfl hs9 (fun b18 w19 (hs20 : HS w0 F0 w19 F1 [(sb b18 #[.nilFunc] 90), (sb b1 #[(vi x1)] 3)]) => ?_)
   refine RWP.store (ty := 0) (g := none) (by kernel_rfl) rfl (x := (.tmp 8)) (y := (.tmp 19)) (t := 90) (gg := false) (s := 1) (v := (.func (.func 69) #[] #[(.pointer (some ⟨b1, 0, none⟩))])) (b := b18) (o := 0) (C := #[.nilFunc]) rfl rfl (by kernel_rfl) hs20 (k := 0) rfl rfl rfl rfl (C' := #[(.func (.func 69) #[] #[(.pointer (some ⟨b1, 0, none⟩))])]) rfl (fun w21 (hs22 : HS w0 F0 w21 F1 [(sb b18 #[(.func (.func 69) #[] #[(.pointer (some ⟨b1, 0, none⟩))])] 90), (sb b1 #[(vi x1)] 3)]) => ?_)
   refine Nss (Rg [0, 1, 2, 3, 4] ?_)
   refine V 20 32 (mv 0 (.slice a0_0 x0.length n0_0)) ?_
   refine V 21 93 (run_makeFunc (fn := .func 71) (first := #[]) (cap := #[(.tmp 8)]) (fl := []) (cl := [(.pointer (some ⟨b18, 0, none⟩))]) rfl (rfl)) ?_
   obtain ⟨F2, hs23, le24, hF25⟩ : ∃ Fq, HS w0 F0 w21 Fq [(sb b18 #[(.func (.func 69) #[] #[(.pointer (some ⟨b1, 0, none⟩))])] 90)] ∧ Mem.le F1 Fq ∧ Fq b1 = some (oc #[(vi x1)] 3) := HS.freezeC hs22 (k := 1) rfl
   obtain ⟨F3, hs26, le27, hF28⟩ : ∃ Fq, HS w0 F0 w21 Fq [] ∧ Mem.le F2 Fq ∧ Fq b18 = some (oc #[(.func (.func 69) #[] #[(.pointer (some ⟨b1, 0, none⟩))])] 90) := HS.freezeC hs23 (k := 0) rfl
   obtain ⟨r29, hr30, h31⟩ := bind_some h17
   refine Cl 22 40 70 #[(.tmp 20), (.tmp 21)] #[32, 93] co_slices_MinFunc_api_Band_api_Band hs26 (c_slices_MinFunc_api_Band_api_Band N w21 F3 hs26.pers (x0) a0_0 n0_0 hb0_0 (SlA.mono hs0_0 ((le10.trans le24).trans le27)) 71 [] [(.pointer (some ⟨b18, 0, none⟩))] (fun y0 y1 => air_Nearest_2 N y0 y1 (fun y0 => air_Nearest_1 N y0 x1)) co_air_Nearest_2 (fun w1 F1 y0 y1 r le1 pe1 hr1 => c_air_Nearest_2 N w1 F1 pe1  y0 y1 b18 (fun y0 => air_Nearest_1 N y0 x1) 69 [] [(.pointer (some ⟨b1, 0, none⟩))] co_air_Nearest_1 (Fn90.mono (fun w1 F1 y0 r le1 pe1 hr1 => c_air_Nearest_1 N w1 F1 pe1  y0 b1 x1 (le1 _ _ (le27 _ _ hF25)) r hr1) le1) (le1 _ _ hF28) r hr1) _ hr30) ?_
   intro v32 F4 w33 hs34 le35 hp36
   obtain rfl := hp36
   refine Al 9 0 40 #[(vi 0), (vi 0), (vi 0)] hs34 (fun b37 w38 (hs39 : HS w0 F0 w38 F4 [(sb b37 #[(vi 0), (vi 0), (vi 0)] 40)]) => ?_)
   refine RWP.store (ty := 0) (g := none) (by kernel_rfl) rfl (x := (.tmp 9)) (y := (.tmp 22)) (t := 40) (gg := true) (s := 3) (v := (.agg (kBand r29))) (b := b37) (o := 0) (C := #[(vi 0), (vi 0), (vi 0)]) rfl rfl (by kernel_rfl) hs39 (k := 0) rfl rfl rfl rfl (C' := (kBand r29)) rfl (fun w40 (hs41 : HS w0 F0 w40 F4 [(sb b37 (kBand r29) 40)]) => ?_)
   refine Nss ?_
   obtain ⟨j47, hj52, h53⟩ := bind_some h31
   refine CWP.regionD (by kernel_rfl) (by kernel_rfl) (by kernel_rfl) (by kernel_rfl) (z := 8) (F := F4) (Lc := [(sb b37 (kBand r29) 40)]) (Lz := []) (l := [false, false, false, false, false, false, false, false]) (fuel := 8) (by kernel_rfl) (by kernel_rfl) hs41 (by simp) (by simp) (fun f w => ∃ (F5 : Mem), HS w0 F0 w F5 [] ∧ Mem.le F4 F5 ∧ f.d = [] ∧ f 4 = (vi r29.ID) ∧ f 5 = (vi j47) ∧ f 6 = (vi 0)) (fun wd42 hw43 => ?_) ?_
   ·refine Dt 0 23 0 (.pointer (some ⟨b37, 0, none⟩)) (fun _ hq => fa 40 9 0 0 1 b37 0 0) ?_
    refine Dt 1 24 3 _ (fun _ hq => ld 3 23 b37 0 false 1 (vi r29.ID) (hq.1.2 0 _ _ rfl)) ?_
    refine Dt 2 25 90 _ (fun _ hq => ld 90 8 b18 0 false 1 (.func (.func 69) #[] #[(.pointer (some ⟨b1, 0, none⟩))]) (hq.1.1 _ _ (le35 _ _ hF28))) ?_
    refine Dt 3 26 40 _ (fun _ hq => ld 40 9 b37 0 true 3 (.agg (kBand r29)) (hq.1.2 0 _ _ rfl)) ?_
    refine DWP.one (i := 4) (by kernel_rfl) ?_
    obtain ⟨r54, hr55, h56⟩ := bind_some hj52
    refine DStep.call (l' := [true, true, true, true, true, false, false, false]) (zd := true) (by kernel_rfl) (by kernel_rfl) (by kernel_rfl) (dst := (some 27)) (ty := 3) (g := none) (by kernel_rfl) rfl (f0 := (.tmp 25)) (aos := #[(.tmp 26)]) (ats := #[40]) (fid := 69) (first := #[]) (cap := #[(.pointer (some ⟨b1, 0, none⟩))]) (args := [(.agg (kBand r29)), (.pointer (some ⟨b1, 0, none⟩))]) rfl co_air_Nearest_1 (rfl) hw43 (c_air_Nearest_1 N wd42 F4 hw43.pers (r29) b1 x1 ((le27.trans le35) _ _ hF25) _ hr55) ?_
    intro v57 F6 w58 hs59 le60 hp61
    obtain rfl := hp61
    refine Dt 5 4 3 _ (fun _ hq => ma 24 (vi r29.ID)) ?_
    refine Dt 6 5 3 _ (fun _ hq => ma 27 (vi r54)) ?_
    refine Dt 7 6 23 _ (fun _ hq => mc (vi 0) (vi 0)) ?_
    obtain rfl := some_inj h56
    have hs62 : HS w0 F0 w58 F6 [] := hs59.drop 0
    exact DWP.done (by kernel_rfl) ⟨F6, hs62, le60, rfl, rfl, rfl, rfl⟩
   ·rintro f w44 ⟨F5, hs45, le46, e48, e49, e50, e51⟩
    refine thenQ_nrm ?_
    refine CWP.ret (by kernel_rfl) ?_
    have hfin := some_inj h53
    subst hfin
    exact ⟨e48, (.tuple #[(vi r29.ID), (vi j47), (vi 0)]), res_of (l := [.tmp 4, .tmp 5, .tmp 6]) (by kernel_rfl) (vs := [(vi r29.ID), (vi j47), (vi 0)]) ⟨e49, ⟨e50, ⟨e51, trivial⟩⟩⟩, (.tuple #[(vi r29.ID), (vi j47), (vi 0)]), F5, rfl, hs45.clear, rfl⟩
end Go.Proofs.YtlddakefmfcblaaGreatDoor
namespace Go.Proofs.YtlddakefmfcblaaGreatDoor
open Go.Proofs
end Go.Proofs.YtlddakefmfcblaaGreatDoor
namespace Go.Proofs.YtlddakefmfcblaaGreatDoor
open Go.Proofs
end Go.Proofs.YtlddakefmfcblaaGreatDoor
namespace Go.Proofs.YtlddakefmfcblaaGreatDoor
open Go.Proofs
end Go.Proofs.YtlddakefmfcblaaGreatDoor
namespace Go.Proofs.YtlddakefmfcblaaGreatDoor
open Go.Proofs
end Go.Proofs.YtlddakefmfcblaaGreatDoor
namespace Go.Proofs.YtlddakefmfcblaaGreatDoor
theorem iter_check2 {ρ : Type} {body : Int → Option (Flow ρ Int)} {n : Nat} (ok : Nat → Bool) (bad : Nat → ρ)
  (hb : ∀ i, i < n → body (i : Int) = some (bif ok i then .next ((i + 1 : Nat) : Int) else .ret (bad i))) (he : body (n : Int) = some (.done (n : Int))) {N : Nat} (hN : n < N) :
  ((∀ i, i < n → ok i = true) ∧ iter body N 0 = some (.done (n : Int))) ∨ (∃ i, i < n ∧ ok i = false ∧ (∀ k, k < i → ok k = true) ∧ iter body N 0 = some (.ret (bad i))) := by
 obtain ⟨o, ho, hR⟩ := iter_ex (body := body) n (fun i s => s = (i : Int) ∧ ∀ k, k < i → ok k = true) (fun o => ((∀ i, i < n → ok i = true) ∧ o = .done (n : Int)) ∨ (∃ i, i < n ∧ ok i = false ∧ (∀ k, k < i → ok k = true) ∧ o = .ret (bad i))) (by
  rintro i s hi ⟨rfl, hk⟩
  by_cases h : i < n
  ·rw [hb i h]
   cases e : ok i with
   | true =>
    refine .inl ⟨_, rfl, ⟨rfl, fun k hk' => ?_⟩, h⟩
    by_cases hki : k = i
    ·subst hki; exact e
    ·exact hk k (by omega)
   | false => exact .inr ⟨_, rfl, (fun _ h => by cases h), .inr ⟨i, h, e, hk, rfl⟩⟩
  ·have : i = n := by omega
   subst this
   rw [he]
   exact .inr ⟨_, rfl, (fun _ h => by cases h), .inl ⟨hk, rfl⟩⟩) n N 0 0 (by omega) ⟨rfl, fun k hk => by omega⟩ hN
 rcases hR with ⟨h1, rfl⟩ | ⟨i, h1, h2, h3, rfl⟩
 ·exact .inl ⟨h1, ho⟩
 ·exact .inr ⟨i, h1, h2, h3, ho⟩
def bAt (l : List Band) (i : Nat) : Band := l.getD i { ID := 0, Lo := 0, Hi := 0 }
theorem idx_at {l : List Band} {i : Nat} (h : i < l.length) : idx l (i : Int) = some (bAt l i) := by
 rw [idx_nat h]; unfold bAt; rw [List.getD_eq_getElem?_getD, List.getElem?_eq_getElem h]; rfl
theorem bAt_mem {l : List Band} {i : Nat} (h : i < l.length) : bAt l i ∈ l := by
 unfold bAt; rw [List.getD_eq_getElem?_getD, List.getElem?_eq_getElem h]; exact List.getElem_mem h
theorem mem_bAt {l : List Band} {b : Band} (h : b ∈ l) : ∃ i, i < l.length ∧ b = bAt l i := by
 obtain ⟨i, hi, rfl⟩ := List.getElem_of_mem h
 exact ⟨i, hi, by unfold bAt; rw [List.getD_eq_getElem?_getD, List.getElem?_eq_getElem hi]; rfl⟩
def okBand (b : Band) : Bool := (decide (1 ≤ b.ID) && decide (b.ID ≤ 65535)) && ((decide (1 ≤ b.Lo) && decide (b.Lo ≤ b.Hi)) && decide (b.Hi ≤ 10000000))
def okNext (a b : Band) : Bool := decide (a.ID < b.ID) && decide (a.Hi < b.Lo)
def okAt (l : List Band) (i : Nat) : Bool := okBand (bAt l i) && (decide (i = 0) || okNext (bAt l (i - 1)) (bAt l i))
def vB (l : List Band) : Bool := allB l.length (okAt l) && decide (l.length ≤ 16)
theorem gt_dec (a b : Int) : decide (a > b) = !decide (a ≤ b) := by rw [← decide_not, decide_eq_decide]; omega
theorem lt_dec2 (a b : Int) : decide (a < b) = !decide (b ≤ a) := by rw [← decide_not, decide_eq_decide]; omega
theorem w64p (i : Nat) (h : i < 4611686018427387904) (h0 : 0 < i) : W64 ((i : Int) - 1) = ((i - 1 : Nat) : Int) := by
 rw [W64_id (by omega) (by omega)]; omega
section
variable {N : Nat} {l : List Band}
theorem s_ValidBands (hl : l.length < 4000000000) (hN : 4294967300 < N) : air_ValidBands N l = some (vB l) := by
 unfold air_ValidBands
 rw [iter_check' (n := l.length) (okAt l) false ?_ ?_ (by omega)]
 ·unfold vB
  have : decide ((l.length : Int) ≤ 16) = decide (l.length ≤ 16) := by rw [decide_eq_decide]; omega
  rw [this]
  cases allB l.length (okAt l) <;> rfl
 ·intro i hi
  unfold air_ValidBands_L0
  rw [lt_dec hi, cond_true, idx_at hi, Option.bind_some]
  simp only [m_within, Option.bind_some]
  unfold okAt okBand okNext
  rw [w64s i (by omega), gt_dec]
  by_cases h0 : i = 0
  ·subst h0
   rw [decide_eq_false (show ¬ (((0 : Nat) : Int) > 0) by decide), decide_eq_true (show 0 = 0 from rfl)]
   cases (decide (1 ≤ (bAt l 0).ID) && decide ((bAt l 0).ID ≤ 65535)) <;> cases (decide (1 ≤ (bAt l 0).Lo) && decide ((bAt l 0).Lo ≤ (bAt l 0).Hi)) <;> cases decide ((bAt l 0).Hi ≤ 10000000) <;> rfl
  ·rw [decide_eq_true (show (i : Int) > 0 by omega), decide_eq_false h0, w64p i (by omega) (by omega), idx_at (by omega)]
   simp only [Option.bind_some]
   rw [lt_dec2 (bAt l (i - 1)).ID, lt_dec2 (bAt l (i - 1)).Hi]
   cases (decide (1 ≤ (bAt l i).ID) && decide ((bAt l i).ID ≤ 65535)) <;> cases (decide (1 ≤ (bAt l i).Lo) && decide ((bAt l i).Lo ≤ (bAt l i).Hi)) <;> cases decide ((bAt l i).Hi ≤ 10000000) <;> cases decide ((bAt l i).ID ≤ (bAt l (i - 1)).ID) <;> cases decide ((bAt l i).Lo ≤ (bAt l (i - 1)).Hi) <;> rfl
 ·unfold air_ValidBands_L0
  rw [lt_dec', cond_false]
structure BandR (b : Band) : Prop where
 id1 : 1 ≤ b.ID
 id2 : b.ID ≤ 65535
 lo : 1 ≤ b.Lo
 le : b.Lo ≤ b.Hi
 hi : b.Hi ≤ 10000000
theorem okAt_ok {i : Nat} (h : okAt l i = true) : BandR (bAt l i) ∧ (0 < i → (bAt l (i - 1)).ID < (bAt l i).ID ∧ (bAt l (i - 1)).Hi < (bAt l i).Lo) := by
 unfold okAt okBand okNext at h
 simp only [Bool.and_eq_true, Bool.or_eq_true, decide_eq_true_eq] at h
 refine ⟨⟨h.1.1.1, h.1.1.2, h.1.2.1.1, h.1.2.1.2, h.1.2.2⟩, fun h0 => ?_⟩
 rcases h.2 with h2 | h2
 ·omega
 ·exact h2
theorem vB_ok (h : vB l = true) : l.length ≤ 16 ∧ (∀ b, b ∈ l → BandR b) ∧ ∀ j i, i < j → j < l.length → (bAt l i).ID < (bAt l j).ID ∧ (bAt l i).Hi < (bAt l j).Lo := by
 unfold vB at h
 simp only [Bool.and_eq_true, decide_eq_true_eq] at h
 have hall : ∀ i, i < l.length → BandR (bAt l i) := fun i hi => (okAt_ok (allB_t h.1 hi)).1
 refine ⟨h.2, ?_, ?_⟩
 ·intro b hb
  obtain ⟨i, hi, rfl⟩ := mem_bAt hb
  exact hall i hi
 ·intro j
  induction j with
  | zero => intro i hi; omega
  | succ j ih =>
   intro i hi hj
   have h1 := (okAt_ok (allB_t h.1 hj)).2 (by omega)
   rw [Nat.add_sub_cancel] at h1
   by_cases hij : i = j
   ·subst hij; exact h1
   ·have h2 := ih i (by omega) (by omega)
    have h3 := hall j (by omega)
    exact ⟨by omega, by have := h3.le; omega⟩
def dist (b : Band) (f : Int) : Int := max (max 0 (b.Lo - f)) (f - b.Hi)
def near (f : Int) (m b : Band) : Band := if dist b f < dist m f then b else m
def nearS (l : List Band) (f : Int) : Band := (List.range l.length).foldl (fun m i => near f m (bAt l i)) (bAt l 0)
theorem near_fold (f : Int) (l : List Band) (h0 : 0 < l.length) : ∀ n, n ≤ l.length → ((List.range n).foldl (fun m i => near f m (bAt l i)) (bAt l 0)) ∈ l ∧ ∀ i, i < n → dist ((List.range n).foldl (fun m i => near f m (bAt l i)) (bAt l 0)) f ≤ dist (bAt l i) f := by
 intro n
 induction n with
 | zero => intro _; exact ⟨bAt_mem h0, fun i hi => by omega⟩
 | succ n ih =>
  intro hn
  obtain ⟨h1, h2⟩ := ih (by omega)
  rw [List.range_succ, List.foldl_append]
  simp only [List.foldl_cons, List.foldl_nil]
  generalize (List.range n).foldl (fun m i => near f m (bAt l i)) (bAt l 0) = m at h1 h2 ⊢
  unfold near
  split
  ·rename_i hc
   refine ⟨bAt_mem (by omega), fun i hi => ?_⟩
   by_cases hin : i = n
   ·subst hin; exact Int.le_refl _
   ·have := h2 i (by omega); omega
  ·rename_i hc
   refine ⟨h1, fun i hi => ?_⟩
   by_cases hin : i = n
   ·subst hin; omega
   ·exact h2 i (by omega)
theorem nearS_mem (f : Int) (h0 : 0 < l.length) : nearS l f ∈ l := (near_fold f l h0 l.length (Nat.le_refl _)).1
theorem near_pos {f : Int} {m b : Band} (h : dist b f < dist m f) : near f m b = b := if_pos h
theorem near_neg {f : Int} {m b : Band} (h : ¬ dist b f < dist m f) : near f m b = m := if_neg h
theorem near_first (f : Int) (l : List Band) : near f (bAt l 0) (bAt l 0) = bAt l 0 := by unfold near; split <;> rfl
def wrongS (l : List Band) (f : Int) : Int := if vB l = true then (if 1 ≤ f ∧ f ≤ 10000000 then 0 else 1) else 11
theorem s_wrong (hl : l.length < 4000000000) (hN : 4294967300 < N) (f : Int) : air_wrongBands N l f = some (wrongS l f) := by
 unfold air_wrongBands wrongS
 rw [s_ValidBands hl hN, Option.bind_some, m_within]
 cases vB l with
 | false => rfl
 | true =>
  by_cases hf : 1 ≤ f ∧ f ≤ 10000000
  ·rw [if_pos rfl, if_pos hf, decide_eq_true hf.1, decide_eq_true hf.2]; rfl
  ·rw [if_pos rfl, if_neg hf]
   have : (decide (1 ≤ f) && decide (f ≤ 10000000)) = false := by rw [Bool.and_eq_false_iff, decide_eq_false_iff_not, decide_eq_false_iff_not]; omega
   rw [this]; rfl
def nearestS (l : List Band) (f : Int) : Int × Int × Int := if wrongS l f = 0 then (if l.length = 0 then (0, 0, 3) else ((nearS l f).ID, dist (nearS l f) f, 0)) else (0, 0, wrongS l f)
theorem wrong_ok {f : Int} (h : wrongS l f = 0) : vB l = true ∧ 1 ≤ f ∧ f ≤ 10000000 := by
 unfold wrongS at h
 split at h
 ·split at h
  ·exact ⟨by assumption, by omega, by omega⟩
  ·omega
 ·omega
theorem n1 {b : Band} {f : Int} (hb : BandR b) (h1 : 1 ≤ f) (h2 : f ≤ 10000000) : air_Nearest_1 N b f = some (dist b f) := by
 unfold air_Nearest_1 dist
 have := hb.lo; have := hb.le; have := hb.hi
 rw [W64_id (by omega) (by omega), W64_id (by omega) (by omega)]
theorem cmp_lt (a b : Int) : (cmp_Compare_int N a b).bind (fun r => some (decide (r < 0))) = some (decide (a < b)) := by
 unfold cmp_Compare_int cmp_isNaN_int
 rw [show (a != a) = false by simp, show (b != b) = false by simp]
 simp only [Option.bind_some, cond_false]
 by_cases h : a < b
 ·rw [decide_eq_true h]; rfl
 ·rw [decide_eq_false h, cond_false]
  cases decide (a > b) <;> rfl
theorem n2 {a b : Band} {f : Int} (ha : BandR a) (hb : BandR b) (h1 : 1 ≤ f) (h2 : f ≤ 10000000) : (air_Nearest_2 N a b (fun y0 => air_Nearest_1 N y0 f)).bind (fun r => some (decide (r < 0))) = some (decide (dist a f < dist b f)) := by
 unfold air_Nearest_2
 simp only [n1 ha h1 h2, n1 hb h1 h2, Option.bind_some]
 rw [← cmp_lt (N := N) (dist a f) (dist b f)]
 cases cmp_Compare_int N (dist a f) (dist b f) <;> rfl
theorem s_Min {f : Int} (hv : vB l = true) (h0 : 0 < l.length) (h1 : 1 ≤ f) (h2 : f ≤ 10000000) (hN : 4294967300 < N) : slices_MinFunc_api_Band_api_Band N l (fun y0 y1 => air_Nearest_2 N y0 y1 (fun y0 => air_Nearest_1 N y0 f)) = some (nearS l f) := by
 obtain ⟨h16, hR, _⟩ := vB_ok hv
 unfold slices_MinFunc_api_Band_api_Band
 rw [decide_eq_false (by omega), cond_false, show (0 : Int) = ((0 : Nat) : Int) from rfl, idx_at h0, Option.bind_some]
 let enc : Nat → Band → Int × Int × Int × Int := fun i m => ((i : Int), m.ID, m.Lo, m.Hi)
 let fo : Nat → Band := fun n => (List.range n).foldl (fun m i => near f m (bAt l i)) (bAt l 0)
 obtain ⟨o, ho, rfl⟩ := iter_ex (body := slices_MinFunc_api_Band_api_Band_L0 N l (fun y0 y1 => air_Nearest_2 N y0 y1 (fun y0 => air_Nearest_1 N y0 f)) (bAt l 0)) l.length (fun i s => 1 ≤ i ∧ s = enc i (fo i)) (fun o => o = .done (enc l.length (fo l.length))) (by
  rintro i s hi ⟨hi1, rfl⟩
  by_cases h : i < l.length
  ·refine .inl ⟨enc (i + 1) (fo (i + 1)), ?_, ⟨by omega, rfl⟩, h⟩
   have hm := (near_fold f l h0 i hi).1
   have e1 : fo (i + 1) = near f (fo i) (bAt l i) := by show (List.range (i + 1)).foldl _ _ = _; rw [List.range_succ, List.foldl_append]; rfl
   rw [e1]
   unfold slices_MinFunc_api_Band_api_Band_L0
   show (bif decide ((i : Int) < (l.length : Int)) then _ else _) = _
   rw [lt_dec h, cond_true]
   show ((idx l (i : Int)).bind _).bind _ = _
   rw [idx_at h, Option.bind_some]
   show (((air_Nearest_2 N (bAt l i) (fo i) (fun y0 => air_Nearest_1 N y0 f)).bind fun r75 => some (decide (r75 < 0))).bind _) = _
   rw [n2 (hR _ (bAt_mem h)) (hR _ hm) h1 h2, Option.bind_some]
   by_cases hd : dist (bAt l i) f < dist (fo i) f
   ·rw [decide_eq_true hd, cond_true, near_pos hd]
    show some (Flow.next (W64 ((i : Int) + 1), _, _, _)) = _
    rw [w64s i (by omega)]
   ·rw [decide_eq_false hd, cond_false, near_neg hd]
    show some (Flow.next (W64 ((i : Int) + 1), _, _, _)) = _
    rw [w64s i (by omega)]
  ·have : i = l.length := by omega
   subst this
   refine .inr ⟨_, ?_, (fun _ h => by cases h), rfl⟩
   unfold slices_MinFunc_api_Band_api_Band_L0
   show (bif decide ((l.length : Int) < (l.length : Int)) then _ else _) = _
   rw [lt_dec', cond_false]) (l.length - 1) N 1 (enc 1 (fo 1)) (by omega) ⟨Nat.le_refl _, rfl⟩ (by omega)
 have e1 : fo 1 = bAt l 0 := near_first f l
 have ho' := ho
 rw [e1] at ho'
 have : iter (slices_MinFunc_api_Band_api_Band_L0 N l (fun y0 y1 => air_Nearest_2 N y0 y1 (fun y0 => air_Nearest_1 N y0 f)) (bAt l 0)) N (1, (bAt l 0).ID, (bAt l 0).Lo, (bAt l 0).Hi) = some (.done (enc l.length (fo l.length))) := ho'
 rw [this]
 rfl
theorem s_Nearest (hl : l.length < 4000000000) (hN : 4294967300 < N) (f : Int) : air_Nearest N l f = some (nearestS l f) := by
 unfold air_Nearest nearestS
 rw [s_wrong hl hN, Option.bind_some]
 by_cases hw : wrongS l f = 0
 ·rw [if_pos hw, hw, show ((0 : Int) != 0) = false from rfl, cond_false]
  obtain ⟨hv, h1, h2⟩ := wrong_ok hw
  by_cases h0 : l.length = 0
  ·rw [if_pos h0, show ((l.length : Int) == 0) = true by simp [h0]]; rfl
  ·rw [if_neg h0, show ((l.length : Int) == 0) = false by simp; intro h; rw [h] at h0; exact h0 rfl, cond_false, s_Min hv (by omega) h1 h2 hN, Option.bind_some]
   rw [n1 ((vB_ok hv).2.1 _ (nearS_mem f (by omega))) h1 h2]
   rfl
 ·rw [if_neg hw, show (wrongS l f != 0) = true by simpa using hw, cond_true]
end
end Go.Proofs.YtlddakefmfcblaaGreatDoor
namespace Go.Proofs.YtlddakefmfcblaaGreatDoor
open Go.Proofs
def law01_awake (N : Nat)  : Option Bool :=
 ((air_Split N ([71, 51, 47, 77, 48, 65, 66, 47, 80] : List UInt8)).bind fun r1 => ((air_PrefixOf N ([87, 49, 65, 87, 47, 52] : List UInt8)).bind fun r14 => ((air_PrintTime N 1505).bind fun r22 => ((air_ParseTime N ([50, 32, 48, 49, 48, 53] : List UInt8)).bind fun r30 => ((air_Nearest N ([({ ID := 1, Lo := 1800, Hi := 2000 } : Band), ({ ID := 2, Lo := 3500, Hi := 3800 } : Band)]) 2750).bind fun r47 => ((bif (r1.2 == 0) then (bif ((r1.1.Area == ([71, 51] : List UInt8)) && ((r1.1.Prefix == ([77, 48] : List UInt8)) && ((r1.1.Suffix == ([65, 66] : List UInt8)) && ((r1.1.Stroke == ([80] : List UInt8)) && true)))) then (bif (r14.2 == 0) then (bif (r14.1 == ([87, 52] : List UInt8)) then (bif (r22.2 == 0) then (bif (r22.1 == ([50, 32, 48, 49, 48, 53] : List UInt8)) then (bif (r30.2 == 0) then (bif (r30.1 == 1505) then (bif (r47.2.2 == 0) then (bif (r47.1 == 1) then (bif (r47.2.1 == 750) then ((air_ValidCall N ([68, 76, 49, 65, 47, 87, 49, 65] : List UInt8)).bind fun r85 => some (!r85)) else some false) else some false) else some false) else some false) else some false) else some false) else some false) else some false) else some false) else some false) else some false).bind fun j58 => some j58))))))
theorem co_law01_awake : CallOk Tryz.prog 17 := fun _ _ => by kernel_rfl
set_option maxHeartbeats 4000000 in
set_option maxRecDepth 100000 in
theorem c_law01_awake (N : Nat) (w0 : World) (F0 : Mem) (hF : ∀ b o, F0 b = some o → w0.heap[b]? = some o) (hG : Glob F0)  (r : Bool) (h : law01_awake N  = some r) :
  Calls Tryz.prog 17 ([] : List Value).toArray w0 (FRet w0 F0 fun F' v => v = (.bool r)) := by
 have hs0 := HS.start hF
 refine calls_of (n := 85) (c := bodyOf Tryz.f17) Tryz.func17 (by kernel_rfl) (by kernel_rfl) (by kernel_rfl) ?_
 refine Sq (Rg [0] ?_)
 refine V 0 4 (mc (.bool false) (.bool false)) ?_
 refine Nss (Rg [0, 1, 2, 3, 4, 5, 6] ?_)
 obtain ⟨r1, hr2, h3⟩ := bind_some h
 refine Cl 14 28 19 #[(.const (.string ⟨([71, 51, 47, 77, 48, 65, 66, 47, 80] : List UInt8).toArray⟩))] #[9] co_air_Split hs0 (c_air_Split N w0 F0 hs0.pers hG (([71, 51, 47, 77, 48, 65, 66, 47, 80] : List UInt8)) _ hr2) ?_
 intro v4 F1 w5 hs6 le7 hp8
 obtain rfl := hp8
 refine V 13 28 (mv 14 (.tuple #[(.agg #[(.string ⟨(r1.1.Area).toArray⟩), (.string ⟨(r1.1.Prefix).toArray⟩), (.string ⟨(r1.1.Suffix).toArray⟩), (.string ⟨(r1.1.Stroke).toArray⟩)]), (vi r1.2)])) ?_
 refine V 15 27 (ex 13 0 (.agg #[(.string ⟨(r1.1.Area).toArray⟩), (.string ⟨(r1.1.Prefix).toArray⟩), (.string ⟨(r1.1.Suffix).toArray⟩), (.string ⟨(r1.1.Stroke).toArray⟩)]) (vs := #[(.agg #[(.string ⟨(r1.1.Area).toArray⟩), (.string ⟨(r1.1.Prefix).toArray⟩), (.string ⟨(r1.1.Suffix).toArray⟩), (.string ⟨(r1.1.Stroke).toArray⟩)]), (vi r1.2)])) ?_
 refine V 16 23 (ex 13 1 (vi r1.2) (vs := #[(.agg #[(.string ⟨(r1.1.Area).toArray⟩), (.string ⟨(r1.1.Prefix).toArray⟩), (.string ⟨(r1.1.Suffix).toArray⟩), (.string ⟨(r1.1.Stroke).toArray⟩)]), (vi r1.2)])) ?_
 refine Al 1 0 27 #[(.string ⟨(([] : List UInt8)).toArray⟩), (.string ⟨(([] : List UInt8)).toArray⟩), (.string ⟨(([] : List UInt8)).toArray⟩), (.string ⟨(([] : List UInt8)).toArray⟩)] hs6 (fun b9 w10 (hs11 : HS w0 F0 w10 F1 [(sb b9 #[(.string ⟨(([] : List UInt8)).toArray⟩), (.string ⟨(([] : List UInt8)).toArray⟩), (.string ⟨(([] : List UInt8)).toArray⟩), (.string ⟨(([] : List UInt8)).toArray⟩)] 27)]) => ?_)
 refine RWP.store (ty := 0) (g := none) (by kernel_rfl) rfl (x := (.tmp 1)) (y := (.tmp 15)) (t := 27) (gg := true) (s := 4) (v := (.agg #[(.string ⟨(r1.1.Area).toArray⟩), (.string ⟨(r1.1.Prefix).toArray⟩), (.string ⟨(r1.1.Suffix).toArray⟩), (.string ⟨(r1.1.Stroke).toArray⟩)])) (b := b9) (o := 0) (C := #[(.string ⟨(([] : List UInt8)).toArray⟩), (.string ⟨(([] : List UInt8)).toArray⟩), (.string ⟨(([] : List UInt8)).toArray⟩), (.string ⟨(([] : List UInt8)).toArray⟩)]) rfl rfl (by kernel_rfl) hs11 (k := 0) rfl rfl rfl rfl (C' := #[(.string ⟨(r1.1.Area).toArray⟩), (.string ⟨(r1.1.Prefix).toArray⟩), (.string ⟨(r1.1.Suffix).toArray⟩), (.string ⟨(r1.1.Stroke).toArray⟩)]) rfl (fun w12 (hs13 : HS w0 F0 w12 F1 [(sb b9 #[(.string ⟨(r1.1.Area).toArray⟩), (.string ⟨(r1.1.Prefix).toArray⟩), (.string ⟨(r1.1.Suffix).toArray⟩), (.string ⟨(r1.1.Stroke).toArray⟩)] 27)]) => ?_)
 refine V 2 23 (ma 16 (vi r1.2)) ?_
 refine Nss (Rg [0, 1, 2, 3, 4, 5] ?_)
 obtain ⟨r14, hr15, h16⟩ := bind_some h3
 refine Cl 18 24 18 #[(.const (.string ⟨([87, 49, 65, 87, 47, 52] : List UInt8).toArray⟩))] #[9] co_air_PrefixOf hs13 (c_air_PrefixOf N w12 F1 hs13.pers (hG.mono le7) (([87, 49, 65, 87, 47, 52] : List UInt8)) _ hr15) ?_
 intro v17 F2 w18 hs19 le20 hp21
 obtain rfl := hp21
 refine V 17 24 (mv 18 (.tuple #[(.string ⟨(r14.1).toArray⟩), (vi r14.2)])) ?_
 refine V 19 9 (ex 17 0 (.string ⟨(r14.1).toArray⟩) (vs := #[(.string ⟨(r14.1).toArray⟩), (vi r14.2)])) ?_
 refine V 20 23 (ex 17 1 (vi r14.2) (vs := #[(.string ⟨(r14.1).toArray⟩), (vi r14.2)])) ?_
 refine V 3 9 (ma 19 (.string ⟨(r14.1).toArray⟩)) ?_
 refine V 4 23 (ma 20 (vi r14.2)) ?_
 refine Nss (Rg [0, 1, 2, 3, 4, 5] ?_)
 obtain ⟨r22, hr23, h24⟩ := bind_some h16
 refine Cl 22 24 28 #[(.const (vi 1505))] #[3] co_air_PrintTime hs19 (c_air_PrintTime N w18 F2 hs19.pers (hG.mono (le7.trans le20)) (1505) _ hr23) ?_
 intro v25 F3 w26 hs27 le28 hp29
 obtain rfl := hp29
 refine V 21 24 (mv 22 (.tuple #[(.string ⟨(r22.1).toArray⟩), (vi r22.2)])) ?_
 refine V 23 9 (ex 21 0 (.string ⟨(r22.1).toArray⟩) (vs := #[(.string ⟨(r22.1).toArray⟩), (vi r22.2)])) ?_
 refine V 24 23 (ex 21 1 (vi r22.2) (vs := #[(.string ⟨(r22.1).toArray⟩), (vi r22.2)])) ?_
 refine V 5 9 (ma 23 (.string ⟨(r22.1).toArray⟩)) ?_
 refine V 6 23 (ma 24 (vi r22.2)) ?_
 refine Nss (Rg [0, 1, 2, 3, 4, 5] ?_)
 obtain ⟨r30, hr31, h32⟩ := bind_some h24
 refine Cl 26 33 30 #[(.const (.string ⟨([50, 32, 48, 49, 48, 53] : List UInt8).toArray⟩))] #[9] co_air_ParseTime hs27 (c_air_ParseTime N w26 F3 hs27.pers (hG.mono ((le7.trans le20).trans le28)) (([50, 32, 48, 49, 48, 53] : List UInt8)) _ hr31) ?_
 intro v33 F4 w34 hs35 le36 hp37
 obtain rfl := hp37
 refine V 25 33 (mv 26 (.tuple #[(vi r30.1), (vi r30.2)])) ?_
 refine V 27 3 (ex 25 0 (vi r30.1) (vs := #[(vi r30.1), (vi r30.2)])) ?_
 refine V 28 23 (ex 25 1 (vi r30.2) (vs := #[(vi r30.1), (vi r30.2)])) ?_
 refine V 7 3 (ma 27 (vi r30.1)) ?_
 refine V 8 23 (ma 28 (vi r30.2)) ?_
 refine Nss (Rg [0, 1, 2, 3] ?_)
 refine V 29 40 (run_build2 (t := 40) (parts := #[(0, (.const (vi 1))), (1, (.const (vi 1800))), (2, (.const (vi 2000)))]) (vs := [(0, (vi 1)), (1, (vi 1800)), (2, (vi 2000))]) (rfl) (cs := [(vi 1), (vi 1800), (vi 2000)]) (by kernel_rfl)) ?_
 refine V 30 40 (run_build2 (t := 40) (parts := #[(0, (.const (vi 2))), (1, (.const (vi 3500))), (2, (.const (vi 3800)))]) (vs := [(0, (vi 2)), (1, (vi 3500)), (2, (vi 3800))]) (rfl) (cs := [(vi 2), (vi 3500), (vi 3800)]) (by kernel_rfl)) ?_
 refine RWP.buildSlice (dst := (some 31)) (ty := 32) (g := none) (by kernel_rfl) rfl (t := 32) (len := 2) (parts := #[(0, (.tmp 29)), (1, (.tmp 30))]) (vs := [(0, (.agg #[(vi 1), (vi 1800), (vi 2000)])), (1, (.agg #[(vi 2), (vi 3500), (vi 3800)]))]) (rfl) (E := 40) (cs := [(vi 1), (vi 1800), (vi 2000), (vi 2), (vi 3500), (vi 3800)]) (by kernel_rfl) hs35 (fun b38 w39 (hs40 : HS w0 F0 w39 F4 [(some b38, .cells ([(vi 1), (vi 1800), (vi 2000), (vi 2), (vi 3500), (vi 3800)] : List Value).toArray 40 (0, 0)), (sb b9 #[(.string ⟨(r1.1.Area).toArray⟩), (.string ⟨(r1.1.Prefix).toArray⟩), (.string ⟨(r1.1.Suffix).toArray⟩), (.string ⟨(r1.1.Stroke).toArray⟩)] 27)]) => ?_)
 have hr42 : RowR tBand 40 F4 (some ⟨b38, 0, none⟩) 2 [({ ID := 1, Lo := 1800, Hi := 2000 } : Band), ({ ID := 2, Lo := 3500, Hi := 3800 } : Band)] (some b38, .cells ([(vi 1), (vi 1800), (vi 2000), (vi 2), (vi 3500), (vi 3800)] : List Value).toArray 40 (0, 0)) := RowR.lit ⟨rfl, ⟨rfl, rfl⟩⟩ (by simp)
 refine V 9 32 (ma 31 (.slice (some ⟨b38, 0, none⟩) [({ ID := 1, Lo := 1800, Hi := 2000 } : Band), ({ ID := 2, Lo := 3500, Hi := 3800 } : Band)].length 2)) ?_
 refine Nss (Rg [0, 1, 2, 3, 4, 5, 6, 7, 8] ?_)
 refine V 33 32 (mv 9 (.slice (some ⟨b38, 0, none⟩) [({ ID := 1, Lo := 1800, Hi := 2000 } : Band), ({ ID := 2, Lo := 3500, Hi := 3800 } : Band)].length 2)) ?_
 have hb46 := RowR.bound hr42
 obtain ⟨F5, hs43, le44, hs45⟩ : ∃ Fq, HS w0 F0 w39 Fq [(sb b9 #[(.string ⟨(r1.1.Area).toArray⟩), (.string ⟨(r1.1.Prefix).toArray⟩), (.string ⟨(r1.1.Suffix).toArray⟩), (.string ⟨(r1.1.Stroke).toArray⟩)] 27)] ∧ Mem.le F4 Fq ∧ SlA tBand Fq (some ⟨b38, 0, none⟩) [({ ID := 1, Lo := 1800, Hi := 2000 } : Band), ({ ID := 2, Lo := 3500, Hi := 3800 } : Band)] := HS.freezeRow hs40 (k := 0) rfl hr42
 obtain ⟨r47, hr48, h49⟩ := bind_some h32
 refine Cl 34 35 24 #[(.tmp 33), (.const (vi 2750))] #[32, 3] co_air_Nearest hs43 (c_air_Nearest N w39 F5 hs43.pers ([({ ID := 1, Lo := 1800, Hi := 2000 } : Band), ({ ID := 2, Lo := 3500, Hi := 3800 } : Band)]) (some ⟨b38, 0, none⟩) 2 hb46 hs45 (2750) _ hr48) ?_
 intro v50 F6 w51 hs52 le53 hp54
 obtain rfl := hp54
 refine V 32 35 (mv 34 (.tuple #[(vi r47.1), (vi r47.2.1), (vi r47.2.2)])) ?_
 refine V 35 3 (ex 32 0 (vi r47.1) (vs := #[(vi r47.1), (vi r47.2.1), (vi r47.2.2)])) ?_
 refine V 36 3 (ex 32 1 (vi r47.2.1) (vs := #[(vi r47.1), (vi r47.2.1), (vi r47.2.2)])) ?_
 refine V 37 23 (ex 32 2 (vi r47.2.2) (vs := #[(vi r47.1), (vi r47.2.1), (vi r47.2.2)])) ?_
 refine V 10 3 (ma 35 (vi r47.1)) ?_
 refine V 11 3 (ma 36 (vi r47.2.1)) ?_
 refine V 12 23 (ma 37 (vi r47.2.2)) ?_
 refine Nss (Rg [0, 1, 2, 3, 4, 5, 6, 7, 8, 9, 10, 11, 12, 13, 14, 15, 16, 17, 18, 19, 20, 21, 22, 23, 24, 25, 26, 27, 28, 29, 30, 31, 32, 33, 34, 35, 36, 37, 38, 39, 40, 41, 42, 43, 44, 45, 46, 47] ?_)
 obtain ⟨j58, hj61, h62⟩ := bind_some h49
 refine RWP.cut (fun f w => ∃ (F7 : Mem), HS w0 F0 w F7 [] ∧ Mem.le F6 F7 ∧ f.d = [] ∧ f 0 = (.bool j58)) ?_ ?_
 ·refine V 38 23 (mv 2 (vi r1.2)) ?_
  refine V 39 4 (run_eql (t := 23) (t' := 23) (x := (.tmp 38)) (y := (.const (vi 0))) (k := .i64) (a := r1.2) (b := 0) rfl rfl) ?_
  refine V 40 4 (mv 39 (.bool (r1.2 == 0))) ?_
  refine RWP.split (r1.2 == 0) (fun hb63 => ?_) (fun hb63 => ?_)
  ·have h64 := cond_t hj61 hb63
   refine Vg 41 27 2 true 40 hb63 (ld 27 1 b9 0 true 4 (.agg #[(.string ⟨(r1.1.Area).toArray⟩), (.string ⟨(r1.1.Prefix).toArray⟩), (.string ⟨(r1.1.Suffix).toArray⟩), (.string ⟨(r1.1.Stroke).toArray⟩)]) (hs52.ownAt (k := 0) rfl)) ?_
   refine Vg 42 27 2 true 40 hb63 (run_build2 (t := 27) (parts := #[(0, (.const (.string ⟨([71, 51] : List UInt8).toArray⟩))), (1, (.const (.string ⟨([77, 48] : List UInt8).toArray⟩))), (2, (.const (.string ⟨([65, 66] : List UInt8).toArray⟩))), (3, (.const (.string ⟨([80] : List UInt8).toArray⟩)))]) (vs := [(0, (.string ⟨(([71, 51] : List UInt8)).toArray⟩)), (1, (.string ⟨(([77, 48] : List UInt8)).toArray⟩)), (2, (.string ⟨(([65, 66] : List UInt8)).toArray⟩)), (3, (.string ⟨(([80] : List UInt8)).toArray⟩))]) (rfl) (cs := [(.string ⟨(([71, 51] : List UInt8)).toArray⟩), (.string ⟨(([77, 48] : List UInt8)).toArray⟩), (.string ⟨(([65, 66] : List UInt8)).toArray⟩), (.string ⟨(([80] : List UInt8)).toArray⟩)]) (by kernel_rfl)) ?_
   refine Vg 43 4 2 true 40 hb63 (run_eqs (t := 27) (t' := 27) (x := (.tmp 41)) (y := (.tmp 42)) (xs := #[(.string ⟨(r1.1.Area).toArray⟩), (.string ⟨(r1.1.Prefix).toArray⟩), (.string ⟨(r1.1.Suffix).toArray⟩), (.string ⟨(r1.1.Stroke).toArray⟩)]) (ys := #[(.string ⟨(([71, 51] : List UInt8)).toArray⟩), (.string ⟨(([77, 48] : List UInt8)).toArray⟩), (.string ⟨(([65, 66] : List UInt8)).toArray⟩), (.string ⟨(([80] : List UInt8)).toArray⟩)]) (b := ((r1.1.Area == ([71, 51] : List UInt8)) && ((r1.1.Prefix == ([77, 48] : List UInt8)) && ((r1.1.Suffix == ([65, 66] : List UInt8)) && ((r1.1.Stroke == ([80] : List UInt8)) && true))))) rfl rfl (by kernel_rfl) (by kernel_rfl)) ?_
   refine V 44 4 (p1 40 (.tmp 43) (.const (.bool false)) (.bool ((r1.1.Area == ([71, 51] : List UInt8)) && ((r1.1.Prefix == ([77, 48] : List UInt8)) && ((r1.1.Suffix == ([65, 66] : List UInt8)) && ((r1.1.Stroke == ([80] : List UInt8)) && true))))) hb63) ?_
   refine V 45 4 (mv 44 (.bool ((r1.1.Area == ([71, 51] : List UInt8)) && ((r1.1.Prefix == ([77, 48] : List UInt8)) && ((r1.1.Suffix == ([65, 66] : List UInt8)) && ((r1.1.Stroke == ([80] : List UInt8)) && true)))))) ?_
   refine RWP.split ((r1.1.Area == ([71, 51] : List UInt8)) && ((r1.1.Prefix == ([77, 48] : List UInt8)) && ((r1.1.Suffix == ([65, 66] : List UInt8)) && ((r1.1.Stroke == ([80] : List UInt8)) && true)))) (fun hb65 => ?_) (fun hb65 => ?_)
   ·have h66 := cond_t h64 hb65
    refine Vg 46 23 7 true 45 hb65 (mv 4 (vi r14.2)) ?_
    refine Vg 47 4 7 true 45 hb65 (run_eql (t := 23) (t' := 23) (x := (.tmp 46)) (y := (.const (vi 0))) (k := .i64) (a := r14.2) (b := 0) rfl rfl) ?_
    refine V 48 4 (p1 45 (.tmp 47) (.const (.bool false)) (.bool (r14.2 == 0)) hb65) ?_
    refine V 49 4 (mv 48 (.bool (r14.2 == 0))) ?_
    refine RWP.split (r14.2 == 0) (fun hb67 => ?_) (fun hb67 => ?_)
    ·have h68 := cond_t h66 hb67
     refine Vg 50 9 11 true 49 hb67 (mv 3 (.string ⟨(r14.1).toArray⟩)) ?_
     refine Vg 51 4 11 true 49 hb67 (run_scmp (t := 9) (t' := 9) (x := (.tmp 50)) (y := (.const (.string ⟨([87, 52] : List UInt8).toArray⟩))) (op := .eql) (a := r14.1) (b := ([87, 52] : List UInt8)) (v := (r14.1 == ([87, 52] : List UInt8))) rfl rfl rfl) ?_
     refine V 52 4 (p1 49 (.tmp 51) (.const (.bool false)) (.bool (r14.1 == ([87, 52] : List UInt8))) hb67) ?_
     refine V 53 4 (mv 52 (.bool (r14.1 == ([87, 52] : List UInt8)))) ?_
     refine RWP.split (r14.1 == ([87, 52] : List UInt8)) (fun hb69 => ?_) (fun hb69 => ?_)
     ·have h70 := cond_t h68 hb69
      refine Vg 54 23 15 true 53 hb69 (mv 6 (vi r22.2)) ?_
      refine Vg 55 4 15 true 53 hb69 (run_eql (t := 23) (t' := 23) (x := (.tmp 54)) (y := (.const (vi 0))) (k := .i64) (a := r22.2) (b := 0) rfl rfl) ?_
      refine V 56 4 (p1 53 (.tmp 55) (.const (.bool false)) (.bool (r22.2 == 0)) hb69) ?_
      refine V 57 4 (mv 56 (.bool (r22.2 == 0))) ?_
      refine RWP.split (r22.2 == 0) (fun hb71 => ?_) (fun hb71 => ?_)
      ·have h72 := cond_t h70 hb71
       refine Vg 58 9 19 true 57 hb71 (mv 5 (.string ⟨(r22.1).toArray⟩)) ?_
       refine Vg 59 4 19 true 57 hb71 (run_scmp (t := 9) (t' := 9) (x := (.tmp 58)) (y := (.const (.string ⟨([50, 32, 48, 49, 48, 53] : List UInt8).toArray⟩))) (op := .eql) (a := r22.1) (b := ([50, 32, 48, 49, 48, 53] : List UInt8)) (v := (r22.1 == ([50, 32, 48, 49, 48, 53] : List UInt8))) rfl rfl rfl) ?_
       refine V 60 4 (p1 57 (.tmp 59) (.const (.bool false)) (.bool (r22.1 == ([50, 32, 48, 49, 48, 53] : List UInt8))) hb71) ?_
       refine V 61 4 (mv 60 (.bool (r22.1 == ([50, 32, 48, 49, 48, 53] : List UInt8)))) ?_
       refine RWP.split (r22.1 == ([50, 32, 48, 49, 48, 53] : List UInt8)) (fun hb73 => ?_) (fun hb73 => ?_)
       ·have h74 := cond_t h72 hb73
        refine Vg 62 23 23 true 61 hb73 (mv 8 (vi r30.2)) ?_
        refine Vg 63 4 23 true 61 hb73 (run_eql (t := 23) (t' := 23) (x := (.tmp 62)) (y := (.const (vi 0))) (k := .i64) (a := r30.2) (b := 0) rfl rfl) ?_
        refine V 64 4 (p1 61 (.tmp 63) (.const (.bool false)) (.bool (r30.2 == 0)) hb73) ?_
        refine V 65 4 (mv 64 (.bool (r30.2 == 0))) ?_
        refine RWP.split (r30.2 == 0) (fun hb75 => ?_) (fun hb75 => ?_)
        ·have h76 := cond_t h74 hb75
         refine Vg 66 3 27 true 65 hb75 (mv 7 (vi r30.1)) ?_
         refine Vg 67 4 27 true 65 hb75 (run_eql (t := 3) (t' := 3) (x := (.tmp 66)) (y := (.const (vi 1505))) (k := .i64) (a := r30.1) (b := 1505) rfl rfl) ?_
         refine V 68 4 (p1 65 (.tmp 67) (.const (.bool false)) (.bool (r30.1 == 1505)) hb75) ?_
         refine V 69 4 (mv 68 (.bool (r30.1 == 1505))) ?_
         refine RWP.split (r30.1 == 1505) (fun hb77 => ?_) (fun hb77 => ?_)
         ·have h78 := cond_t h76 hb77
          refine Vg 70 23 31 true 69 hb77 (mv 12 (vi r47.2.2)) ?_
          refine Vg 71 4 31 true 69 hb77 (run_eql (t := 23) (t' := 23) (x := (.tmp 70)) (y := (.const (vi 0))) (k := .i64) (a := r47.2.2) (b := 0) rfl rfl) ?_
          refine V 72 4 (p1 69 (.tmp 71) (.const (.bool false)) (.bool (r47.2.2 == 0)) hb77) ?_
          refine V 73 4 (mv 72 (.bool (r47.2.2 == 0))) ?_
          refine RWP.split (r47.2.2 == 0) (fun hb79 => ?_) (fun hb79 => ?_)
          ·have h80 := cond_t h78 hb79
           refine Vg 74 3 35 true 73 hb79 (mv 10 (vi r47.1)) ?_
           refine Vg 75 4 35 true 73 hb79 (run_eql (t := 3) (t' := 3) (x := (.tmp 74)) (y := (.const (vi 1))) (k := .i64) (a := r47.1) (b := 1) rfl rfl) ?_
           refine V 76 4 (p1 73 (.tmp 75) (.const (.bool false)) (.bool (r47.1 == 1)) hb79) ?_
           refine V 77 4 (mv 76 (.bool (r47.1 == 1))) ?_
           refine RWP.split (r47.1 == 1) (fun hb81 => ?_) (fun hb81 => ?_)
           ·have h82 := cond_t h80 hb81
            refine Vg 78 3 39 true 77 hb81 (mv 11 (vi r47.2.1)) ?_
            refine Vg 79 4 39 true 77 hb81 (run_eql (t := 3) (t' := 3) (x := (.tmp 78)) (y := (.const (vi 750))) (k := .i64) (a := r47.2.1) (b := 750) rfl rfl) ?_
            refine V 80 4 (p1 77 (.tmp 79) (.const (.bool false)) (.bool (r47.2.1 == 750)) hb81) ?_
            refine V 81 4 (mv 80 (.bool (r47.2.1 == 750))) ?_
            refine RWP.split (r47.2.1 == 750) (fun hb83 => ?_) (fun hb83 => ?_)
            ·have h84 := cond_t h82 hb83
             obtain ⟨r85, hr86, h87⟩ := bind_some h84
             refine RWP.call (dst := (some 82)) (ty := 4) (g := (some (43, true))) (by kernel_rfl) (gd_y (d := 81) (by kernel_rfl) rfl hb83) (f0 := (.func 37)) (aos := #[(.const (.string ⟨([68, 76, 49, 65, 47, 87, 49, 65] : List UInt8).toArray⟩))]) (ats := #[9]) (fid := 37) (first := #[]) (cap := #[]) (args := [(.string ⟨(([68, 76, 49, 65, 47, 87, 49, 65] : List UInt8)).toArray⟩)]) rfl co_air_ValidCall (rfl) hs52 (c_air_ValidCall N w51 F6 hs52.pers (hG.mono (((((le7.trans le20).trans le28).trans le36).trans le44).trans le53)) (([68, 76, 49, 65, 47, 87, 49, 65] : List UInt8)) _ hr86) ?_
             intro v88 F8 w89 hs90 le91 hp92
             obtain rfl := hp92
             refine Vg 83 4 43 true 81 hb83 (run_not (t := 4) (x := (.tmp 82)) (a := r85) rfl) ?_
             refine V 84 4 (p1 81 (.tmp 83) (.const (.bool false)) (.bool (!r85)) hb83) ?_
             refine V 0 4 (ma 84 (.bool (!r85))) ?_
             obtain rfl := some_inj h87
             have hs93 : HS w0 F0 w89 F8 [] := hs90.drop 0
             exact RWP.nil ⟨rfl, F8, hs93, le91, rfl, rfl⟩
            ·have h94 := cond_f h82 hb83
             refine Sk [82, 83] 43 true 81 hb83 ?_
             refine V 84 4 (p0 81 (.tmp 83) (.const (.bool false)) (.bool false) hb83) ?_
             refine V 0 4 (ma 84 (.bool false)) ?_
             obtain rfl := some_inj h94
             have hs95 : HS w0 F0 w51 F6 [] := hs52.drop 0
             exact RWP.nil ⟨rfl, F6, hs95, (Mem.le.refl _), rfl, rfl⟩
           ·have h96 := cond_f h80 hb81
            refine Sk [78, 79] 39 true 77 hb81 ?_
            refine V 80 4 (p0 77 (.tmp 79) (.const (.bool false)) (.bool false) hb81) ?_
            refine V 81 4 (mv 80 (.bool false)) ?_
            refine Sk [82, 83] 43 true 81 rfl ?_
            refine V 84 4 (p0 81 (.tmp 83) (.const (.bool false)) (.bool false) rfl) ?_
            refine V 0 4 (ma 84 (.bool false)) ?_
            obtain rfl := some_inj h96
            have hs97 : HS w0 F0 w51 F6 [] := hs52.drop 0
            exact RWP.nil ⟨rfl, F6, hs97, (Mem.le.refl _), rfl, rfl⟩
          ·have h98 := cond_f h78 hb79
           refine Sk [74, 75] 35 true 73 hb79 ?_
           refine V 76 4 (p0 73 (.tmp 75) (.const (.bool false)) (.bool false) hb79) ?_
           refine V 77 4 (mv 76 (.bool false)) ?_
           refine Sk [78, 79] 39 true 77 rfl ?_
           refine V 80 4 (p0 77 (.tmp 79) (.const (.bool false)) (.bool false) rfl) ?_
           refine V 81 4 (mv 80 (.bool false)) ?_
           refine Sk [82, 83] 43 true 81 rfl ?_
           refine V 84 4 (p0 81 (.tmp 83) (.const (.bool false)) (.bool false) rfl) ?_
           refine V 0 4 (ma 84 (.bool false)) ?_
           obtain rfl := some_inj h98
           have hs99 : HS w0 F0 w51 F6 [] := hs52.drop 0
           exact RWP.nil ⟨rfl, F6, hs99, (Mem.le.refl _), rfl, rfl⟩
         ·have h100 := cond_f h76 hb77
          refine Sk [70, 71] 31 true 69 hb77 ?_
          refine V 72 4 (p0 69 (.tmp 71) (.const (.bool false)) (.bool false) hb77) ?_
          refine V 73 4 (mv 72 (.bool false)) ?_
          refine Sk [74, 75] 35 true 73 rfl ?_
          refine V 76 4 (p0 73 (.tmp 75) (.const (.bool false)) (.bool false) rfl) ?_
          refine V 77 4 (mv 76 (.bool false)) ?_
          refine Sk [78, 79] 39 true 77 rfl ?_
          refine V 80 4 (p0 77 (.tmp 79) (.const (.bool false)) (.bool false) rfl) ?_
          refine V 81 4 (mv 80 (.bool false)) ?_
          refine Sk [82, 83] 43 true 81 rfl ?_
          refine V 84 4 (p0 81 (.tmp 83) (.const (.bool false)) (.bool false) rfl) ?_
          refine V 0 4 (ma 84 (.bool false)) ?_
          obtain rfl := some_inj h100
          have hs101 : HS w0 F0 w51 F6 [] := hs52.drop 0
          exact RWP.nil ⟨rfl, F6, hs101, (Mem.le.refl _), rfl, rfl⟩
        ·have h102 := cond_f h74 hb75
         refine Sk [66, 67] 27 true 65 hb75 ?_
         refine V 68 4 (p0 65 (.tmp 67) (.const (.bool false)) (.bool false) hb75) ?_
         refine V 69 4 (mv 68 (.bool false)) ?_
         refine Sk [70, 71] 31 true 69 rfl ?_
         refine V 72 4 (p0 69 (.tmp 71) (.const (.bool false)) (.bool false) rfl) ?_
         refine V 73 4 (mv 72 (.bool false)) ?_
         refine Sk [74, 75] 35 true 73 rfl ?_
         refine V 76 4 (p0 73 (.tmp 75) (.const (.bool false)) (.bool false) rfl) ?_
         refine V 77 4 (mv 76 (.bool false)) ?_
         refine Sk [78, 79] 39 true 77 rfl ?_
         refine V 80 4 (p0 77 (.tmp 79) (.const (.bool false)) (.bool false) rfl) ?_
         refine V 81 4 (mv 80 (.bool false)) ?_
         refine Sk [82, 83] 43 true 81 rfl ?_
         refine V 84 4 (p0 81 (.tmp 83) (.const (.bool false)) (.bool false) rfl) ?_
         refine V 0 4 (ma 84 (.bool false)) ?_
         obtain rfl := some_inj h102
         have hs103 : HS w0 F0 w51 F6 [] := hs52.drop 0
         exact RWP.nil ⟨rfl, F6, hs103, (Mem.le.refl _), rfl, rfl⟩
       ·have h104 := cond_f h72 hb73
        refine Sk [62, 63] 23 true 61 hb73 ?_
        refine V 64 4 (p0 61 (.tmp 63) (.const (.bool false)) (.bool false) hb73) ?_
        refine V 65 4 (mv 64 (.bool false)) ?_
        refine Sk [66, 67] 27 true 65 rfl ?_
        refine V 68 4 (p0 65 (.tmp 67) (.const (.bool false)) (.bool false) rfl) ?_
        refine V 69 4 (mv 68 (.bool false)) ?_
        refine Sk [70, 71] 31 true 69 rfl ?_
        refine V 72 4 (p0 69 (.tmp 71) (.const (.bool false)) (.bool false) rfl) ?_
        refine V 73 4 (mv 72 (.bool false)) ?_
        refine Sk [74, 75] 35 true 73 rfl ?_
        refine V 76 4 (p0 73 (.tmp 75) (.const (.bool false)) (.bool false) rfl) ?_
        refine V 77 4 (mv 76 (.bool false)) ?_
        refine Sk [78, 79] 39 true 77 rfl ?_
        refine V 80 4 (p0 77 (.tmp 79) (.const (.bool false)) (.bool false) rfl) ?_
        refine V 81 4 (mv 80 (.bool false)) ?_
        refine Sk [82, 83] 43 true 81 rfl ?_
        refine V 84 4 (p0 81 (.tmp 83) (.const (.bool false)) (.bool false) rfl) ?_
        refine V 0 4 (ma 84 (.bool false)) ?_
        obtain rfl := some_inj h104
        have hs105 : HS w0 F0 w51 F6 [] := hs52.drop 0
        exact RWP.nil ⟨rfl, F6, hs105, (Mem.le.refl _), rfl, rfl⟩
      ·have h106 := cond_f h70 hb71
       refine Sk [58, 59] 19 true 57 hb71 ?_
       refine V 60 4 (p0 57 (.tmp 59) (.const (.bool false)) (.bool false) hb71) ?_
       refine V 61 4 (mv 60 (.bool false)) ?_
       refine Sk [62, 63] 23 true 61 rfl ?_
       refine V 64 4 (p0 61 (.tmp 63) (.const (.bool false)) (.bool false) rfl) ?_
       refine V 65 4 (mv 64 (.bool false)) ?_
       refine Sk [66, 67] 27 true 65 rfl ?_
       refine V 68 4 (p0 65 (.tmp 67) (.const (.bool false)) (.bool false) rfl) ?_
       refine V 69 4 (mv 68 (.bool false)) ?_
       refine Sk [70, 71] 31 true 69 rfl ?_
       refine V 72 4 (p0 69 (.tmp 71) (.const (.bool false)) (.bool false) rfl) ?_
       refine V 73 4 (mv 72 (.bool false)) ?_
       refine Sk [74, 75] 35 true 73 rfl ?_
       refine V 76 4 (p0 73 (.tmp 75) (.const (.bool false)) (.bool false) rfl) ?_
       refine V 77 4 (mv 76 (.bool false)) ?_
       refine Sk [78, 79] 39 true 77 rfl ?_
       refine V 80 4 (p0 77 (.tmp 79) (.const (.bool false)) (.bool false) rfl) ?_
       refine V 81 4 (mv 80 (.bool false)) ?_
       refine Sk [82, 83] 43 true 81 rfl ?_
       refine V 84 4 (p0 81 (.tmp 83) (.const (.bool false)) (.bool false) rfl) ?_
       refine V 0 4 (ma 84 (.bool false)) ?_
       obtain rfl := some_inj h106
       have hs107 : HS w0 F0 w51 F6 [] := hs52.drop 0
       exact RWP.nil ⟨rfl, F6, hs107, (Mem.le.refl _), rfl, rfl⟩
     ·have h108 := cond_f h68 hb69
      refine Sk [54, 55] 15 true 53 hb69 ?_
      refine V 56 4 (p0 53 (.tmp 55) (.const (.bool false)) (.bool false) hb69) ?_
      refine V 57 4 (mv 56 (.bool false)) ?_
      refine Sk [58, 59] 19 true 57 rfl ?_
      refine V 60 4 (p0 57 (.tmp 59) (.const (.bool false)) (.bool false) rfl) ?_
      refine V 61 4 (mv 60 (.bool false)) ?_
      refine Sk [62, 63] 23 true 61 rfl ?_
      refine V 64 4 (p0 61 (.tmp 63) (.const (.bool false)) (.bool false) rfl) ?_
      refine V 65 4 (mv 64 (.bool false)) ?_
      refine Sk [66, 67] 27 true 65 rfl ?_
      refine V 68 4 (p0 65 (.tmp 67) (.const (.bool false)) (.bool false) rfl) ?_
      refine V 69 4 (mv 68 (.bool false)) ?_
      refine Sk [70, 71] 31 true 69 rfl ?_
      refine V 72 4 (p0 69 (.tmp 71) (.const (.bool false)) (.bool false) rfl) ?_
      refine V 73 4 (mv 72 (.bool false)) ?_
      refine Sk [74, 75] 35 true 73 rfl ?_
      refine V 76 4 (p0 73 (.tmp 75) (.const (.bool false)) (.bool false) rfl) ?_
      refine V 77 4 (mv 76 (.bool false)) ?_
      refine Sk [78, 79] 39 true 77 rfl ?_
      refine V 80 4 (p0 77 (.tmp 79) (.const (.bool false)) (.bool false) rfl) ?_
      refine V 81 4 (mv 80 (.bool false)) ?_
      refine Sk [82, 83] 43 true 81 rfl ?_
      refine V 84 4 (p0 81 (.tmp 83) (.const (.bool false)) (.bool false) rfl) ?_
      refine V 0 4 (ma 84 (.bool false)) ?_
      obtain rfl := some_inj h108
      have hs109 : HS w0 F0 w51 F6 [] := hs52.drop 0
      exact RWP.nil ⟨rfl, F6, hs109, (Mem.le.refl _), rfl, rfl⟩
    ·have h110 := cond_f h66 hb67
     refine Sk [50, 51] 11 true 49 hb67 ?_
     refine V 52 4 (p0 49 (.tmp 51) (.const (.bool false)) (.bool false) hb67) ?_
     refine V 53 4 (mv 52 (.bool false)) ?_
     refine Sk [54, 55] 15 true 53 rfl ?_
     refine V 56 4 (p0 53 (.tmp 55) (.const (.bool false)) (.bool false) rfl) ?_
     refine V 57 4 (mv 56 (.bool false)) ?_
     refine Sk [58, 59] 19 true 57 rfl ?_
     refine V 60 4 (p0 57 (.tmp 59) (.const (.bool false)) (.bool false) rfl) ?_
     refine V 61 4 (mv 60 (.bool false)) ?_
     refine Sk [62, 63] 23 true 61 rfl ?_
     refine V 64 4 (p0 61 (.tmp 63) (.const (.bool false)) (.bool false) rfl) ?_
     refine V 65 4 (mv 64 (.bool false)) ?_
     refine Sk [66, 67] 27 true 65 rfl ?_
     refine V 68 4 (p0 65 (.tmp 67) (.const (.bool false)) (.bool false) rfl) ?_
     refine V 69 4 (mv 68 (.bool false)) ?_
     refine Sk [70, 71] 31 true 69 rfl ?_
     refine V 72 4 (p0 69 (.tmp 71) (.const (.bool false)) (.bool false) rfl) ?_
     refine V 73 4 (mv 72 (.bool false)) ?_
     refine Sk [74, 75] 35 true 73 rfl ?_
     refine V 76 4 (p0 73 (.tmp 75) (.const (.bool false)) (.bool false) rfl) ?_
     refine V 77 4 (mv 76 (.bool false)) ?_
     refine Sk [78, 79] 39 true 77 rfl ?_
     refine V 80 4 (p0 77 (.tmp 79) (.const (.bool false)) (.bool false) rfl) ?_
     refine V 81 4 (mv 80 (.bool false)) ?_
     refine Sk [82, 83] 43 true 81 rfl ?_
     refine V 84 4 (p0 81 (.tmp 83) (.const (.bool false)) (.bool false) rfl) ?_
     refine V 0 4 (ma 84 (.bool false)) ?_
     obtain rfl := some_inj h110
     have hs111 : HS w0 F0 w51 F6 [] := hs52.drop 0
     exact RWP.nil ⟨rfl, F6, hs111, (Mem.le.refl _), rfl, rfl⟩
   ·have h112 := cond_f h64 hb65
    refine Sk [46, 47] 7 true 45 hb65 ?_
    refine V 48 4 (p0 45 (.tmp 47) (.const (.bool false)) (.bool false) hb65) ?_
    refine V 49 4 (mv 48 (.bool false)) ?_
    refine Sk [50, 51] 11 true 49 rfl ?_
    refine V 52 4 (p0 49 (.tmp 51) (.const (.bool false)) (.bool false) rfl) ?_
    refine V 53 4 (mv 52 (.bool false)) ?_
    refine Sk [54, 55] 15 true 53 rfl ?_
    refine V 56 4 (p0 53 (.tmp 55) (.const (.bool false)) (.bool false) rfl) ?_
    refine V 57 4 (mv 56 (.bool false)) ?_
    refine Sk [58, 59] 19 true 57 rfl ?_
    refine V 60 4 (p0 57 (.tmp 59) (.const (.bool false)) (.bool false) rfl) ?_
    refine V 61 4 (mv 60 (.bool false)) ?_
    refine Sk [62, 63] 23 true 61 rfl ?_
    refine V 64 4 (p0 61 (.tmp 63) (.const (.bool false)) (.bool false) rfl) ?_
    refine V 65 4 (mv 64 (.bool false)) ?_
    refine Sk [66, 67] 27 true 65 rfl ?_
    refine V 68 4 (p0 65 (.tmp 67) (.const (.bool false)) (.bool false) rfl) ?_
    refine V 69 4 (mv 68 (.bool false)) ?_
    refine Sk [70, 71] 31 true 69 rfl ?_
    refine V 72 4 (p0 69 (.tmp 71) (.const (.bool false)) (.bool false) rfl) ?_
    refine V 73 4 (mv 72 (.bool false)) ?_
    refine Sk [74, 75] 35 true 73 rfl ?_
    refine V 76 4 (p0 73 (.tmp 75) (.const (.bool false)) (.bool false) rfl) ?_
    refine V 77 4 (mv 76 (.bool false)) ?_
    refine Sk [78, 79] 39 true 77 rfl ?_
    refine V 80 4 (p0 77 (.tmp 79) (.const (.bool false)) (.bool false) rfl) ?_
    refine V 81 4 (mv 80 (.bool false)) ?_
    refine Sk [82, 83] 43 true 81 rfl ?_
    refine V 84 4 (p0 81 (.tmp 83) (.const (.bool false)) (.bool false) rfl) ?_
    refine V 0 4 (ma 84 (.bool false)) ?_
    obtain rfl := some_inj h112
    have hs113 : HS w0 F0 w51 F6 [] := hs52.drop 0
    exact RWP.nil ⟨rfl, F6, hs113, (Mem.le.refl _), rfl, rfl⟩
  ·have h114 := cond_f hj61 hb63
   refine Sk [41, 42, 43] 2 true 40 hb63 ?_
   refine V 44 4 (p0 40 (.tmp 43) (.const (.bool false)) (.bool false) hb63) ?_
   refine V 45 4 (mv 44 (.bool false)) ?_
   refine Sk [46, 47] 7 true 45 rfl ?_
   refine V 48 4 (p0 45 (.tmp 47) (.const (.bool false)) (.bool false) rfl) ?_
   refine V 49 4 (mv 48 (.bool false)) ?_
   refine Sk [50, 51] 11 true 49 rfl ?_
   refine V 52 4 (p0 49 (.tmp 51) (.const (.bool false)) (.bool false) rfl) ?_
   refine V 53 4 (mv 52 (.bool false)) ?_
   refine Sk [54, 55] 15 true 53 rfl ?_
   refine V 56 4 (p0 53 (.tmp 55) (.const (.bool false)) (.bool false) rfl) ?_
   refine V 57 4 (mv 56 (.bool false)) ?_
   refine Sk [58, 59] 19 true 57 rfl ?_
   refine V 60 4 (p0 57 (.tmp 59) (.const (.bool false)) (.bool false) rfl) ?_
   refine V 61 4 (mv 60 (.bool false)) ?_
   refine Sk [62, 63] 23 true 61 rfl ?_
   refine V 64 4 (p0 61 (.tmp 63) (.const (.bool false)) (.bool false) rfl) ?_
   refine V 65 4 (mv 64 (.bool false)) ?_
   refine Sk [66, 67] 27 true 65 rfl ?_
   refine V 68 4 (p0 65 (.tmp 67) (.const (.bool false)) (.bool false) rfl) ?_
   refine V 69 4 (mv 68 (.bool false)) ?_
   refine Sk [70, 71] 31 true 69 rfl ?_
   refine V 72 4 (p0 69 (.tmp 71) (.const (.bool false)) (.bool false) rfl) ?_
   refine V 73 4 (mv 72 (.bool false)) ?_
   refine Sk [74, 75] 35 true 73 rfl ?_
   refine V 76 4 (p0 73 (.tmp 75) (.const (.bool false)) (.bool false) rfl) ?_
   refine V 77 4 (mv 76 (.bool false)) ?_
   refine Sk [78, 79] 39 true 77 rfl ?_
   refine V 80 4 (p0 77 (.tmp 79) (.const (.bool false)) (.bool false) rfl) ?_
   refine V 81 4 (mv 80 (.bool false)) ?_
   refine Sk [82, 83] 43 true 81 rfl ?_
   refine V 84 4 (p0 81 (.tmp 83) (.const (.bool false)) (.bool false) rfl) ?_
   refine V 0 4 (ma 84 (.bool false)) ?_
   obtain rfl := some_inj h114
   have hs115 : HS w0 F0 w51 F6 [] := hs52.drop 0
   exact RWP.nil ⟨rfl, F6, hs115, (Mem.le.refl _), rfl, rfl⟩
 ·rintro f w55 ⟨F7, hs56, le57, e59, e60⟩
  refine thenQ_nrm ?_
  refine CWP.ret (by kernel_rfl) ?_
  have hfin := some_inj h62
  subst hfin
  exact ⟨e59, (.bool j58), res_of (l := [.tmp 0]) (by kernel_rfl) (vs := [(.bool j58)]) ⟨e60, trivial⟩, (.bool j58), F7, rfl, hs56.clear, rfl⟩
end Go.Proofs.YtlddakefmfcblaaGreatDoor
namespace Go.Proofs.YtlddakefmfcblaaGreatDoor
open Go.Lib (decDigits)
theorem aw1 : splitS [71, 51, 47, 77, 48, 65, 66, 47, 80] = ({ Area := [71, 51], Prefix := [77, 48], Suffix := [65, 66], Stroke := [80] }, 0) := by rfl
theorem aw2 : prefixS [87, 49, 65, 87, 47, 52] = ([87, 52], 0) := by rfl
theorem aw3 : tText 1505 = [50, 32, 48, 49, 48, 53] := by
 unfold tText dP
 rw [show 1505 / 1440 + 1 = 2 from rfl, show 1505 / 60 % 24 = 1 from rfl, show 1505 % 60 = 5 from rfl, dd_small (by decide), dd_small (by decide), dd_small (by decide)]
 rfl
theorem aw4 : printT 1505 = ([50, 32, 48, 49, 48, 53], 0) := by
 unfold printT
 rw [if_pos (by decide)]
 show (tText 1505, (0 : Int)) = _
 rw [aw3]
theorem aw5 : parseT [50, 32, 48, 49, 48, 53] = (1505, 0) := by
 rw [← aw3, parse_text (by decide)]; rfl
theorem aw6 : validS [68, 76, 49, 65, 47, 87, 49, 65] = false := by rfl
theorem aw7 : nearestS [{ ID := 1, Lo := 1800, Hi := 2000 }, { ID := 2, Lo := 3500, Hi := 3800 }] 2750 = (1, 750, 0) := by decide
theorem awake_true {N : Nat} (hN : 4294967300 < N) : law01_awake N = some true := by
 unfold law01_awake
 rw [s_Split _ hN, aw1, Option.bind_some, s_PrefixOf _ hN, aw2, Option.bind_some, s_PrintTime, aw4, Option.bind_some, s_ParseTime _ (by simp) hN, aw5, Option.bind_some, s_Nearest (by simp) hN, aw7, Option.bind_some]
 simp only [s_Valid _ hN, aw6]
 rfl
end Go.Proofs.YtlddakefmfcblaaGreatDoor
namespace Go.Proofs.YtlddakefmfcblaaGreatDoor
open Go.Proofs
def air_parts (N : Nat) (x0 : Layout) (x1 : Exchange) : Option (List air_part) :=
 some [({ has_ := x0.Report, n_ := x1.Report, most_ := 599, digits_ := 1 } : air_part), ({ has_ := x0.Serial, n_ := x1.Serial, most_ := 99999, digits_ := 3 } : air_part), ({ has_ := x0.Zone, n_ := x1.Zone, most_ := 99, digits_ := 2 } : air_part)]
theorem co_air_parts : CallOk Tryz.prog 84 := fun _ _ => by kernel_rfl
set_option maxHeartbeats 4000000 in
set_option maxRecDepth 100000 in
theorem c_air_parts (N : Nat) (w0 : World) (F0 : Mem) (hF : ∀ b o, F0 b = some o → w0.heap[b]? = some o) (x0 : Layout) (x1 : Exchange) (r : (List air_part)) (h : air_parts N x0 x1 = some r) :
  Calls Tryz.prog 84 ([(.agg (kLayout x0)), (.agg (kExchange x1))] : List Value).toArray w0 (FRet w0 F0 fun F' v => ∃ (aq0_0 : Option Addr) (nq0_0 : Nat), v = (.slice aq0_0 r.length nq0_0) ∧ LC r.length nq0_0 ∧ SlA tair_part F' aq0_0 r) := by
 have hs0 := HS.start hF
 refine calls_of (n := 21) (c := bodyOf Tryz.f84) Tryz.func84 (by kernel_rfl) (by kernel_rfl) (by kernel_rfl) ?_
 refine Sq (Rg [0, 1, 2] ?_)
 refine Bx 2 0 0 52 (kLayout x0) hs0 (fun b1 w2 (hs3 : HS w0 F0 w2 F0 [(sb b1 (kLayout x0) 52)]) => ?_)
 refine Bx 3 0 1 54 (kExchange x1) hs3 (fun b4 w5 (hs6 : HS w0 F0 w5 F0 [(sb b4 (kExchange x1) 54), (sb b1 (kLayout x0) 52)]) => ?_)
 refine V 4 102 (mc (.slice none 0 0) (.slice none ([] : List air_part).length 0)) ?_
 refine Nss (Rg [0, 1, 2, 3, 4, 5, 6, 7, 8, 9, 10, 11, 12, 13, 14, 15, 16] ?_)
 refine V 5 0 (fa 52 2 0 0 1 b1 0 0) ?_
 refine V 6 4 (ld 4 5 b1 0 false 1 (.bool x0.Report) (hs6.ownAt (k := 1) rfl)) ?_
 refine V 7 0 (fa 54 3 0 0 1 b4 0 0) ?_
 refine V 8 3 (ld 3 7 b4 0 false 1 (vi x1.Report) (hs6.ownAt (k := 0) rfl)) ?_
 refine V 9 105 (run_build2 (t := 105) (parts := #[(0, (.tmp 6)), (1, (.tmp 8)), (2, (.const (vi 599))), (3, (.const (vi 1)))]) (vs := [(0, (.bool x0.Report)), (1, (vi x1.Report)), (2, (vi 599)), (3, (vi 1))]) (rfl) (cs := [(.bool x0.Report), (vi x1.Report), (vi 599), (vi 1)]) (by kernel_rfl)) ?_
 refine V 10 0 (fa 52 2 1 1 1 b1 0 1) ?_
 refine V 11 4 (ld 4 10 b1 1 false 1 (.bool x0.Serial) (hs6.ownAt (k := 1) rfl)) ?_
 refine V 12 0 (fa 54 3 1 1 1 b4 0 1) ?_
 refine V 13 3 (ld 3 12 b4 1 false 1 (vi x1.Serial) (hs6.ownAt (k := 0) rfl)) ?_
 refine V 14 105 (run_build2 (t := 105) (parts := #[(0, (.tmp 11)), (1, (.tmp 13)), (2, (.const (vi 99999))), (3, (.const (vi 3)))]) (vs := [(0, (.bool x0.Serial)), (1, (vi x1.Serial)), (2, (vi 99999)), (3, (vi 3))]) (rfl) (cs := [(.bool x0.Serial), (vi x1.Serial), (vi 99999), (vi 3)]) (by kernel_rfl)) ?_
 refine V 15 0 (fa 52 2 2 2 1 b1 0 2) ?_
 refine V 16 4 (ld 4 15 b1 2 false 1 (.bool x0.Zone) (hs6.ownAt (k := 1) rfl)) ?_
 refine V 17 0 (fa 54 3 2 2 1 b4 0 2) ?_
 refine V 18 3 (ld 3 17 b4 2 false 1 (vi x1.Zone) (hs6.ownAt (k := 0) rfl)) ?_
 refine V 19 105 (run_build2 (t := 105) (parts := #[(0, (.tmp 16)), (1, (.tmp 18)), (2, (.const (vi 99))), (3, (.const (vi 2)))]) (vs := [(0, (.bool x0.Zone)), (1, (vi x1.Zone)), (2, (vi 99)), (3, (vi 2))]) (rfl) (cs := [(.bool x0.Zone), (vi x1.Zone), (vi 99), (vi 2)]) (by kernel_rfl)) ?_
 refine RWP.buildSlice (dst := (some 20)) (ty := 102) (g := none) (by kernel_rfl) rfl (t := 102) (len := 3) (parts := #[(0, (.tmp 9)), (1, (.tmp 14)), (2, (.tmp 19))]) (vs := [(0, (.agg #[(.bool x0.Report), (vi x1.Report), (vi 599), (vi 1)])), (1, (.agg #[(.bool x0.Serial), (vi x1.Serial), (vi 99999), (vi 3)])), (2, (.agg #[(.bool x0.Zone), (vi x1.Zone), (vi 99), (vi 2)]))]) (rfl) (E := 105) (cs := [(.bool x0.Report), (vi x1.Report), (vi 599), (vi 1), (.bool x0.Serial), (vi x1.Serial), (vi 99999), (vi 3), (.bool x0.Zone), (vi x1.Zone), (vi 99), (vi 2)]) (by kernel_rfl) hs6 (fun b7 w8 (hs9 : HS w0 F0 w8 F0 [(some b7, .cells ([(.bool x0.Report), (vi x1.Report), (vi 599), (vi 1), (.bool x0.Serial), (vi x1.Serial), (vi 99999), (vi 3), (.bool x0.Zone), (vi x1.Zone), (vi 99), (vi 2)] : List Value).toArray 105 (0, 0)), (sb b4 (kExchange x1) 54), (sb b1 (kLayout x0) 52)]) => ?_)
 have hr11 : RowR tair_part 105 F0 (some ⟨b7, 0, none⟩) 3 [({ has_ := x0.Report, n_ := x1.Report, most_ := 599, digits_ := 1 } : air_part), ({ has_ := x0.Serial, n_ := x1.Serial, most_ := 99999, digits_ := 3 } : air_part), ({ has_ := x0.Zone, n_ := x1.Zone, most_ := 99, digits_ := 2 } : air_part)] (some b7, .cells ([(.bool x0.Report), (vi x1.Report), (vi 599), (vi 1), (.bool x0.Serial), (vi x1.Serial), (vi 99999), (vi 3), (.bool x0.Zone), (vi x1.Zone), (vi 99), (vi 2)] : List Value).toArray 105 (0, 0)) := RowR.lit ⟨rfl, ⟨rfl, ⟨rfl, rfl⟩⟩⟩ (by simp)
 refine V 4 102 (ma 20 (.slice (some ⟨b7, 0, none⟩) [({ has_ := x0.Report, n_ := x1.Report, most_ := 599, digits_ := 1 } : air_part), ({ has_ := x0.Serial, n_ := x1.Serial, most_ := 99999, digits_ := 3 } : air_part), ({ has_ := x0.Zone, n_ := x1.Zone, most_ := 99, digits_ := 2 } : air_part)].length 3)) ?_
 refine Nt ?_
 refine CWP.ret (by kernel_rfl) ?_
 have hb15 := RowR.bound hr11
 obtain ⟨F1, hs12, le13, hs14⟩ : ∃ Fq, HS w0 F0 w8 Fq [(sb b4 (kExchange x1) 54), (sb b1 (kLayout x0) 52)] ∧ Mem.le F0 Fq ∧ SlA tair_part Fq (some ⟨b7, 0, none⟩) [({ has_ := x0.Report, n_ := x1.Report, most_ := 599, digits_ := 1 } : air_part), ({ has_ := x0.Serial, n_ := x1.Serial, most_ := 99999, digits_ := 3 } : air_part), ({ has_ := x0.Zone, n_ := x1.Zone, most_ := 99, digits_ := 2 } : air_part)] := HS.freezeRow hs9 (k := 0) rfl hr11
 have hfin := some_inj h
 subst hfin
 exact ⟨rfl, (.slice (some ⟨b7, 0, none⟩) [({ has_ := x0.Report, n_ := x1.Report, most_ := 599, digits_ := 1 } : air_part), ({ has_ := x0.Serial, n_ := x1.Serial, most_ := 99999, digits_ := 3 } : air_part), ({ has_ := x0.Zone, n_ := x1.Zone, most_ := 99, digits_ := 2 } : air_part)].length 3), res_of (l := [.tmp 4]) (by kernel_rfl) (vs := [(.slice (some ⟨b7, 0, none⟩) [({ has_ := x0.Report, n_ := x1.Report, most_ := 599, digits_ := 1 } : air_part), ({ has_ := x0.Serial, n_ := x1.Serial, most_ := 99999, digits_ := 3 } : air_part), ({ has_ := x0.Zone, n_ := x1.Zone, most_ := 99, digits_ := 2 } : air_part)].length 3)]) ⟨rfl, trivial⟩, (.slice (some ⟨b7, 0, none⟩) [({ has_ := x0.Report, n_ := x1.Report, most_ := 599, digits_ := 1 } : air_part), ({ has_ := x0.Serial, n_ := x1.Serial, most_ := 99999, digits_ := 3 } : air_part), ({ has_ := x0.Zone, n_ := x1.Zone, most_ := 99, digits_ := 2 } : air_part)].length 3), F1, rfl, hs12.clear, ⟨(some ⟨b7, 0, none⟩), 3, rfl, hb15, hs14⟩⟩
end Go.Proofs.YtlddakefmfcblaaGreatDoor
namespace Go.Proofs.YtlddakefmfcblaaGreatDoor
open Go.Proofs
def slices_IndexFunc_air_part_air_part_L0 (N : Nat) (x0 : (List air_part)) (x1 : (air_part → Option Bool)) : Int → Option (Flow Int Int) := fun s4 =>
 (bif (decide (s4 < (x0.length : Int))) then ((idx x0 s4).bind fun x26 => ((x1 x26).bind fun r40 => (bif r40 then some (.ret s4) else some (.next (W64 (s4 + 1)))))) else some (.done s4))
def slices_IndexFunc_air_part_air_part (N : Nat) (x0 : (List air_part)) (x1 : (air_part → Option Bool)) : Option Int :=
 ((iter (slices_IndexFunc_air_part_air_part_L0 N x0 x1) N 0).bind fun o => o.k (fun r => some r) (fun s13 => some (-1)))
theorem co_slices_IndexFunc_air_part_air_part : CallOk Tryz.prog 121 := fun _ _ => by kernel_rfl
set_option maxHeartbeats 4000000 in
set_option maxRecDepth 100000 in
theorem c_slices_IndexFunc_air_part_air_part (N : Nat) (w0 : World) (F0 : Mem) (hF : ∀ b o, F0 b = some o → w0.heap[b]? = some o) (x0 : (List air_part)) (a0_0 : Option Addr) (n0_0 : Nat) (hb0_0 : LC x0.length n0_0) (hs0_0 : SlA tair_part F0 a0_0 x0) (gx1 : FuncId) (fx1 kx1 : List Value) (x1 : air_part → Option Bool) (hox1 : CallOk Tryz.prog gx1) (hpx1 : Fn113 F0 gx1 fx1 kx1 x1) (r : Int) (h : slices_IndexFunc_air_part_air_part N x0 x1 = some r) :
  Calls Tryz.prog 121 ([(.slice a0_0 x0.length n0_0), (.func (.func gx1) fx1.toArray kx1.toArray)] : List Value).toArray w0 (FRet w0 F0 fun F' v => v = (vi r)) := by
 have hs0 := HS.start hF
 refine calls_of (n := 19) (c := bodyOf Tryz.f121) Tryz.func121 (by kernel_rfl) (by kernel_rfl) (by kernel_rfl) ?_
 refine Sq (Rg [0] ?_)
 refine V 4 3 (mc (vi 0) (vi 0)) ?_
 refine Nss ?_
 refine Sq (Rg [0, 1, 2] ?_)
 refine V 6 102 (mv 0 (.slice a0_0 x0.length n0_0)) ?_
 refine V 7 3 (ln 6 102 a0_0 x0.length n0_0 105 4 32) ?_
 refine V 8 3 (run_move (x := (.const (vi 0))) (v := (vi 0)) rfl) ?_
 refine Nt ?_
 obtain ⟨o1, ho2, h3⟩ := bind_some h
 refine CWP.cut (fun f w => ∃ (s13 : Int) (F2 : Mem), o1 = .done s13 ∧ HS w0 F0 w F2 [] ∧ Mem.le F0 F2 ∧ f.d = []) ?_ ?_
 ·refine Bk ?_
  refine CWP.loop (by kernel_rfl) (fun m f w => ∃ (s4 : Int) (F1 : Mem), iter (slices_IndexFunc_air_part_air_part_L0 N x0 x1) m s4 = some o1 ∧ HS w0 F0 w F1 [] ∧ Mem.le F0 F1 ∧ f.d = [] ∧ f 0 = (.slice a0_0 x0.length n0_0) ∧ f 1 = (.func (.func gx1) fx1.toArray kx1.toArray) ∧ f 7 = (vi (x0.length : Int)) ∧ f 8 = (vi s4)) N ⟨0, F0, ho2, hs0, (Mem.le.refl _), rfl, rfl, rfl, rfl, rfl⟩ ?_
  rintro m18 f w5 ⟨s4, F1, hit19, hs6, le7, e8, e9, e10, e11, e12⟩
  obtain ⟨m20, fl21, rfl, hb22, hnx23⟩ := iter_step hit19
  refine Sq (Rg [0] ?_)
  refine V 9 0 (run_lss (t := 3) (t' := 3) (x := (.tmp 8)) (y := (.tmp 7)) (k := .i64) (a := s4) (b := (x0.length : Int)) e12 e11) ?_
  refine Nss ?_
  refine CWP.cond (t := (decide (s4 < (x0.length : Int)))) (by kernel_rfl) rfl (fun hb24 => ?_) (fun hb24 => ?_)
  ·have h25 := cond_t hb22 hb24
   refine Sc ?_
   refine thenQ_nrm ?_
   refine Sq ?_
   refine Bk ?_
   refine Sq (Rg [0, 1] ?_)
   refine V 10 3 (mv 8 (vi s4) e12) ?_
   refine V 5 3 (ma 10 (vi s4)) ?_
   refine Nss (Rg [0, 1, 2, 3, 4, 5] ?_)
   refine V 11 113 (mv 1 (.func (.func gx1) fx1.toArray kx1.toArray) e10) ?_
   refine V 12 102 (mv 0 (.slice a0_0 x0.length n0_0) e9) ?_
   refine V 13 3 (mv 5 (vi s4)) ?_
   obtain ⟨x26, hx27, h29⟩ := bind_some h25
   obtain ⟨hi28, hx27'⟩ := idx_spec hx27
   obtain ⟨b30, o31, C32, E33, fz34, rfl, hF36, hE37⟩ := SlA.open (SlA.mono hs0_0 le7) hx27'
   have hc39 := hE37 _ _ hx27'
   refine V 14 0 (ix 102 12 13 b30 o31 105 4 32 hi28) ?_
   refine V 15 105 (lx 105 14 0 4 true 4 (.agg (kair_part x26)) (hs6.pers _ _ hF36) hc39) ?_
   obtain ⟨r40, hr41, h42⟩ := bind_some h29
   refine RWP.call (dst := (some 16)) (ty := 4) (g := none) (by kernel_rfl) rfl (f0 := (.tmp 11)) (aos := #[(.tmp 15)]) (ats := #[105]) (fid := gx1) (first := fx1.toArray) (cap := kx1.toArray) (args := (fx1 ++ (([(.agg (kair_part x26))] : List Value) ++ kx1))) rfl hox1 (app_args2 (l := [(.agg (kair_part x26))]) (fi := fx1) (k := kx1) (rfl)) hs6 (hpx1 w5 F1 (x26) _ le7 hs6.pers hr41) ?_
   intro v43 F3 w44 hs45 le46 hp47
   obtain rfl := hp47
   refine Nt ?_
   refine CWP.cond (t := r40) (by kernel_rfl) rfl (fun hb48 => ?_) (fun hb48 => ?_)
   ·have h49 := cond_t h42 hb48
    refine Sq (Rg [0, 1] ?_)
    refine V 17 3 (mv 5 (vi s4)) ?_
    refine V 4 3 (ma 17 (vi s4)) ?_
    refine Nt ?_
    refine CWP.ret (by kernel_rfl) ?_
    refine blockQ_ret ?_
    refine thenQ_ret ?_
    refine thenQ_ret ?_
    refine blockQ_ret ?_
    have hret := iter_ret h49 hnx23
    subst hret
    refine .inr ?_
    refine thenQ_ret ?_
    have hfin := some_inj h3
    subst hfin
    exact ⟨e8, (vi s4), res_of (l := [.tmp 4]) (by kernel_rfl) (vs := [(vi s4)]) ⟨rfl, trivial⟩, (vi s4), F3, rfl, hs45.clear, rfl⟩
   ·have h50 := cond_f h42 hb48
    refine Sc ?_
    refine blockQ_nrm ?_
    refine thenQ_nrm ?_
    refine Rg [0, 1] ?_
    refine V 18 3 (run_add (t := 3) (t' := 3) (x := (.tmp 8)) (y := (.const (vi 1))) (k := .i64) (a := s4) (b := 1) e12 rfl) ?_
    refine V 8 3 (mv 18 (vi (W64 (s4 + 1)))) ?_
    refine RWP.nil ?_
    have hn51 := iter_next h50 hnx23
    exact ⟨m20, Nat.lt_succ_self _, (W64 (s4 + 1)), F3, hn51, hs45, (le7.trans le46), e8, e9, e10, e11, rfl⟩
  ·have h52 := cond_f hb22 hb24
   refine CWP.exit (by kernel_rfl) ?_
   refine thenQ_ex ?_
   refine thenQ_ex ?_
   refine blockQ_hit rfl ?_
   have ho53 := iter_done h52 hnx23
   exact .inl ⟨rfl, s4, F1, ho53, hs6, le7, e8⟩
 ·rintro f w14 ⟨s13, F2, rfl, hs15, le16, e17⟩
  have h54 := k_done h3
  refine thenQ_nrm ?_
  refine Sq (Rg [0] ?_)
  refine V 4 3 (mc (vi (-1)) (vi (-1))) ?_
  refine Nt ?_
  refine CWP.ret (by kernel_rfl) ?_
  have hfin := some_inj h54
  subst hfin
  exact ⟨e17, (vi (-1)), res_of (l := [.tmp 4]) (by kernel_rfl) (vs := [(vi (-1))]) ⟨rfl, trivial⟩, (vi (-1)), F2, rfl, hs15.clear, rfl⟩
end Go.Proofs.YtlddakefmfcblaaGreatDoor
namespace Go.Proofs.YtlddakefmfcblaaGreatDoor
open Go.Proofs
def slices_ContainsFunc_air_part_air_part (N : Nat) (x0 : (List air_part)) (x1 : (air_part → Option Bool)) : Option Bool :=
 ((slices_IndexFunc_air_part_air_part N x0 x1).bind fun r1 => some (decide (r1 ≥ 0)))
theorem co_slices_ContainsFunc_air_part_air_part : CallOk Tryz.prog 89 := fun _ _ => by kernel_rfl
set_option maxHeartbeats 4000000 in
set_option maxRecDepth 100000 in
theorem c_slices_ContainsFunc_air_part_air_part (N : Nat) (w0 : World) (F0 : Mem) (hF : ∀ b o, F0 b = some o → w0.heap[b]? = some o) (x0 : (List air_part)) (a0_0 : Option Addr) (n0_0 : Nat) (hb0_0 : LC x0.length n0_0) (hs0_0 : SlA tair_part F0 a0_0 x0) (gx1 : FuncId) (fx1 kx1 : List Value) (x1 : air_part → Option Bool) (hox1 : CallOk Tryz.prog gx1) (hpx1 : Fn113 F0 gx1 fx1 kx1 x1) (r : Bool) (h : slices_ContainsFunc_air_part_air_part N x0 x1 = some r) :
  Calls Tryz.prog 89 ([(.slice a0_0 x0.length n0_0), (.func (.func gx1) fx1.toArray kx1.toArray)] : List Value).toArray w0 (FRet w0 F0 fun F' v => v = (.bool r)) := by
 have hs0 := HS.start hF
 refine calls_of (n := 9) (c := bodyOf Tryz.f89) Tryz.func89 (by kernel_rfl) (by kernel_rfl) (by kernel_rfl) ?_
 refine Sq (Rg [0] ?_)
 refine V 4 4 (mc (.bool false) (.bool false)) ?_
 refine Nss (Rg [0, 1, 2, 3, 4] ?_)
 refine V 5 102 (mv 0 (.slice a0_0 x0.length n0_0)) ?_
 refine V 6 113 (mv 1 (.func (.func gx1) fx1.toArray kx1.toArray)) ?_
 obtain ⟨r1, hr2, h3⟩ := bind_some h
 refine Cl 7 3 121 #[(.tmp 5), (.tmp 6)] #[102, 113] co_slices_IndexFunc_air_part_air_part hs0 (c_slices_IndexFunc_air_part_air_part N w0 F0 hs0.pers (x0) a0_0 n0_0 hb0_0 hs0_0 gx1 fx1 kx1 x1 hox1 (fun w1 F1 y0 r le1 pe1 hr1 => hpx1 w1 F1 y0 r (le1) pe1 hr1) _ hr2) ?_
 intro v4 F1 w5 hs6 le7 hp8
 obtain rfl := hp8
 refine V 8 4 (run_geq (t := 3) (t' := 3) (x := (.tmp 7)) (y := (.const (vi 0))) (k := .i64) (a := r1) (b := 0) rfl rfl) ?_
 refine V 4 4 (ma 8 (.bool (decide (r1 ≥ 0)))) ?_
 refine Nt ?_
 refine CWP.ret (by kernel_rfl) ?_
 have hfin := some_inj h3
 subst hfin
 exact ⟨rfl, (.bool (decide (r1 ≥ 0))), res_of (l := [.tmp 4]) (by kernel_rfl) (vs := [(.bool (decide (r1 ≥ 0)))]) ⟨rfl, trivial⟩, (.bool (decide (r1 ≥ 0))), F1, rfl, hs6.clear, rfl⟩
end Go.Proofs.YtlddakefmfcblaaGreatDoor
namespace Go.Proofs.YtlddakefmfcblaaGreatDoor
open Go.Proofs
def air_ValidExchange_1 (N : Nat) (x0 : air_part) : Option Bool :=
 (((air_within N x0.n_ 1 x0.most_).bind fun r14 => (bif (!(x0.has_ == r14)) then some true else (bif (!x0.has_) then some (x0.n_ != 0) else some false))).bind fun j9 => some j9)
theorem co_air_ValidExchange_1 : CallOk Tryz.prog 90 := fun _ _ => by kernel_rfl
set_option maxHeartbeats 4000000 in
set_option maxRecDepth 100000 in
theorem c_air_ValidExchange_1 (N : Nat) (w0 : World) (F0 : Mem) (hF : ∀ b o, F0 b = some o → w0.heap[b]? = some o) (x0 : air_part) (r : Bool) (h : air_ValidExchange_1 N x0 = some r) :
  Calls Tryz.prog 90 ([(.agg (kair_part x0))] : List Value).toArray w0 (FRet w0 F0 fun F' v => v = (.bool r)) := by
 have hs0 := HS.start hF
 refine calls_of (n := 21) (c := bodyOf Tryz.f90) Tryz.func90 (by kernel_rfl) (by kernel_rfl) (by kernel_rfl) ?_
 refine Sq (Rg [0, 1] ?_)
 refine Bx 1 0 0 105 (kair_part x0) hs0 (fun b1 w2 (hs3 : HS w0 F0 w2 F0 [(sb b1 (kair_part x0) 105)]) => ?_)
 refine V 2 4 (mc (.bool false) (.bool false)) ?_
 refine Nss ?_
 obtain ⟨j9, hj12, h13⟩ := bind_some h
 refine CWP.regionD (by kernel_rfl) (by kernel_rfl) (by kernel_rfl) (by kernel_rfl) (z := 19) (F := F0) (Lc := [(sb b1 (kair_part x0) 105)]) (Lz := []) (l := [false, false, false, false, false, false, false, false, false, false, false, false, false, false, false, false, false, false, false]) (fuel := 19) (by kernel_rfl) (by kernel_rfl) hs3 (by simp) (by simp) (fun f w => ∃ (F1 : Mem), HS w0 F0 w F1 [] ∧ Mem.le F0 F1 ∧ f.d = [] ∧ f 2 = (.bool j9)) (fun wd4 hw5 => ?_) ?_
 ·refine Dtl 0 3 0 (.pointer (some ⟨b1, 0, none⟩)) [tt, ff, ff, ff, ff, ff, ff, ff, ff, ff, ff, ff, ff, ff, ff, ff, ff, ff, ff] (fun _ hq => fa 105 1 0 0 1 b1 0 0) ?_
  refine Dtl 1 4 4 _ [tt, tt, ff, ff, ff, ff, ff, ff, ff, ff, ff, ff, ff, ff, ff, ff, ff, ff, ff] (fun _ hq => ld 4 3 b1 0 false 1 (.bool x0.has_) (hq.1.2 0 _ _ rfl)) ?_
  refine Dtl 2 5 0 (.pointer (some ⟨b1, 1, none⟩)) [tt, tt, tt, ff, ff, ff, ff, ff, ff, ff, ff, ff, ff, ff, ff, ff, ff, ff, ff] (fun _ hq => fa 105 1 1 1 1 b1 0 1) ?_
  refine Dtl 3 6 3 _ [tt, tt, tt, tt, ff, ff, ff, ff, ff, ff, ff, ff, ff, ff, ff, ff, ff, ff, ff] (fun _ hq => ld 3 5 b1 1 false 1 (vi x0.n_) (hq.1.2 0 _ _ rfl)) ?_
  refine Dtl 4 7 0 (.pointer (some ⟨b1, 2, none⟩)) [tt, tt, tt, tt, tt, ff, ff, ff, ff, ff, ff, ff, ff, ff, ff, ff, ff, ff, ff] (fun _ hq => fa 105 1 2 2 1 b1 0 2) ?_
  refine Dtl 5 8 3 _ [tt, tt, tt, tt, tt, tt, ff, ff, ff, ff, ff, ff, ff, ff, ff, ff, ff, ff, ff] (fun _ hq => ld 3 7 b1 2 false 1 (vi x0.most_) (hq.1.2 0 _ _ rfl)) ?_
  refine DWP.one (i := 6) (by kernel_rfl) ?_
  obtain ⟨r14, hr15, h16⟩ := bind_some hj12
  refine DStep.call (l' := [true, true, true, true, true, true, true, false, false, false, false, false, false, false, false, false, false, false, false]) (zd := true) (by kernel_rfl) (by kernel_rfl) (by kernel_rfl) (dst := (some 9)) (ty := 4) (g := none) (by kernel_rfl) rfl (f0 := (.func 73)) (aos := #[(.tmp 6), (.const (vi 1)), (.tmp 8)]) (ats := #[3, 3, 3]) (fid := 73) (first := #[]) (cap := #[]) (args := [(vi x0.n_), (vi 1), (vi x0.most_)]) rfl co_air_within (rfl) hw5 (c_air_within N wd4 F0 hw5.pers (x0.n_) (1) (x0.most_) _ hr15) ?_
  intro v17 F2 w18 hs19 le20 hp21
  obtain rfl := hp21
  refine Dtl 7 10 4 (.bool (!(x0.has_ == r14))) [tt, tt, tt, tt, tt, tt, tt, tt, ff, ff, ff, ff, ff, ff, ff, ff, ff, ff, ff] (fun _ hq => run_neb (t := 4) (t' := 4) (x := (.tmp 4)) (y := (.tmp 9)) (a := x0.has_) (b := r14) rfl rfl (by kernel_rfl)) ?_
  refine Dtl 8 11 4 _ [tt, tt, tt, tt, tt, tt, tt, tt, tt, ff, ff, ff, ff, ff, ff, ff, ff, ff, ff] (fun _ hq => mv 10 (.bool (!(x0.has_ == r14)))) ?_
  refine DWP.split (!(x0.has_ == r14)) (fun hb22 => ?_) (fun hb22 => ?_)
  ·have h23 := cond_t h16 hb22
   refine Dkl [(9, 12), (10, 13), (11, 14), (12, 15)] 8 false 11 hb22 [tt, tt, tt, tt, tt, tt, tt, tt, tt, tt, tt, tt, tt, ff, ff, ff, ff, ff, ff] ?_
   refine Dul [(13, 16), (14, 17), (15, 18)] 12 true 15 [tt, tt, tt, tt, tt, tt, tt, tt, tt, tt, tt, tt, tt, tt, tt, tt, ff, ff, ff] ?_
   refine Dkl [(16, 19)] 8 false 11 hb22 [tt, tt, tt, tt, tt, tt, tt, tt, tt, tt, tt, tt, tt, tt, tt, tt, tt, ff, ff] ?_
   refine Dtl 17 20 4 _ [tt, tt, tt, tt, tt, tt, tt, tt, tt, tt, tt, tt, tt, tt, tt, tt, tt, tt, ff] (fun _ hq => p1 11 (.const (.bool true)) (.tmp 19) (.bool true) hb22) ?_
   refine Dtl 18 2 4 _ [tt, tt, tt, tt, tt, tt, tt, tt, tt, tt, tt, tt, tt, tt, tt, tt, tt, tt, tt] (fun _ hq => ma 20 (.bool true)) ?_
   obtain rfl := some_inj h23
   have hs24 : HS w0 F0 w18 F2 [] := hs19.drop 0
   exact DWP.done (by kernel_rfl) ⟨F2, hs24, le20, rfl, rfl⟩
  ·have h25 := cond_f h16 hb22
   refine Dgl 9 12 0 (.pointer (some ⟨b1, 0, none⟩)) [tt, tt, tt, tt, tt, tt, tt, tt, tt, tt, ff, ff, ff, ff, ff, ff, ff, ff, ff] 8 false 11 hb22 (fun _ hq => fa 105 1 0 0 1 b1 0 0) ?_
   refine Dgl 10 13 4 _ [tt, tt, tt, tt, tt, tt, tt, tt, tt, tt, tt, ff, ff, ff, ff, ff, ff, ff, ff] 8 false 11 hb22 (fun _ hq => ld 4 12 b1 0 false 1 (.bool x0.has_) (hq.1.2 0 _ _ rfl)) ?_
   refine Dgl 11 14 4 (.bool (!x0.has_)) [tt, tt, tt, tt, tt, tt, tt, tt, tt, tt, tt, tt, ff, ff, ff, ff, ff, ff, ff] 8 false 11 hb22 (fun _ hq => run_not (t := 4) (x := (.tmp 13)) (a := x0.has_) rfl) ?_
   refine Dgl 12 15 4 _ [tt, tt, tt, tt, tt, tt, tt, tt, tt, tt, tt, tt, tt, ff, ff, ff, ff, ff, ff] 8 false 11 hb22 (fun _ hq => mv 14 (.bool (!x0.has_))) ?_
   refine DWP.split (!x0.has_) (fun hb26 => ?_) (fun hb26 => ?_)
   ·have h27 := cond_t h25 hb26
    refine Dgl 13 16 0 (.pointer (some ⟨b1, 1, none⟩)) [tt, tt, tt, tt, tt, tt, tt, tt, tt, tt, tt, tt, tt, tt, ff, ff, ff, ff, ff] 12 true 15 hb26 (fun _ hq => fa 105 1 1 1 1 b1 0 1) ?_
    refine Dgl 14 17 3 _ [tt, tt, tt, tt, tt, tt, tt, tt, tt, tt, tt, tt, tt, tt, tt, ff, ff, ff, ff] 12 true 15 hb26 (fun _ hq => ld 3 16 b1 1 false 1 (vi x0.n_) (hq.1.2 0 _ _ rfl)) ?_
    refine Dgl 15 18 4 (.bool (x0.n_ != 0)) [tt, tt, tt, tt, tt, tt, tt, tt, tt, tt, tt, tt, tt, tt, tt, tt, ff, ff, ff] 12 true 15 hb26 (fun _ hq => run_neq (t := 3) (t' := 3) (x := (.tmp 17)) (y := (.const (vi 0))) (k := .i64) (a := x0.n_) (b := 0) rfl rfl) ?_
    refine Dgl 16 19 4 _ [tt, tt, tt, tt, tt, tt, tt, tt, tt, tt, tt, tt, tt, tt, tt, tt, tt, ff, ff] 8 false 11 hb22 (fun _ hq => p1 15 (.tmp 18) (.const (.bool false)) (.bool (x0.n_ != 0)) hb26) ?_
    refine Dtl 17 20 4 _ [tt, tt, tt, tt, tt, tt, tt, tt, tt, tt, tt, tt, tt, tt, tt, tt, tt, tt, ff] (fun _ hq => p0 11 (.const (.bool true)) (.tmp 19) (.bool (x0.n_ != 0)) hb22) ?_
    refine Dtl 18 2 4 _ [tt, tt, tt, tt, tt, tt, tt, tt, tt, tt, tt, tt, tt, tt, tt, tt, tt, tt, tt] (fun _ hq => ma 20 (.bool (x0.n_ != 0))) ?_
    obtain rfl := some_inj h27
    have hs28 : HS w0 F0 w18 F2 [] := hs19.drop 0
    exact DWP.done (by kernel_rfl) ⟨F2, hs28, le20, rfl, rfl⟩
   ·have h29 := cond_f h25 hb26
    refine Dkl [(13, 16), (14, 17), (15, 18)] 12 true 15 hb26 [tt, tt, tt, tt, tt, tt, tt, tt, tt, tt, tt, tt, tt, tt, tt, tt, ff, ff, ff] ?_
    refine Dgl 16 19 4 _ [tt, tt, tt, tt, tt, tt, tt, tt, tt, tt, tt, tt, tt, tt, tt, tt, tt, ff, ff] 8 false 11 hb22 (fun _ hq => p0 15 (.tmp 18) (.const (.bool false)) (.bool false) hb26) ?_
    refine Dtl 17 20 4 _ [tt, tt, tt, tt, tt, tt, tt, tt, tt, tt, tt, tt, tt, tt, tt, tt, tt, tt, ff] (fun _ hq => p0 11 (.const (.bool true)) (.tmp 19) (.bool false) hb22) ?_
    refine Dtl 18 2 4 _ [tt, tt, tt, tt, tt, tt, tt, tt, tt, tt, tt, tt, tt, tt, tt, tt, tt, tt, tt] (fun _ hq => ma 20 (.bool false)) ?_
    obtain rfl := some_inj h29
    have hs30 : HS w0 F0 w18 F2 [] := hs19.drop 0
    exact DWP.done (by kernel_rfl) ⟨F2, hs30, le20, rfl, rfl⟩
 ·rintro f w6 ⟨F1, hs7, le8, e10, e11⟩
  refine thenQ_nrm ?_
  refine CWP.ret (by kernel_rfl) ?_
  have hfin := some_inj h13
  subst hfin
  exact ⟨e10, (.bool j9), res_of (l := [.tmp 2]) (by kernel_rfl) (vs := [(.bool j9)]) ⟨e11, trivial⟩, (.bool j9), F1, rfl, hs7.clear, rfl⟩
end Go.Proofs.YtlddakefmfcblaaGreatDoor
namespace Go.Proofs.YtlddakefmfcblaaGreatDoor
open Go.Proofs
def air_ValidExchange (N : Nat) (x0 : Layout) (x1 : Exchange) : Option Bool :=
 ((air_parts N ({ Report := x0.Report, Serial := x0.Serial, Zone := x0.Zone } : Layout) ({ Report := x1.Report, Serial := x1.Serial, Zone := x1.Zone } : Exchange)).bind fun r7 => ((slices_ContainsFunc_air_part_air_part N r7 (fun y0 => air_ValidExchange_1 N y0)).bind fun r15 => some (!r15)))
theorem co_air_ValidExchange : CallOk Tryz.prog 48 := fun _ _ => by kernel_rfl
set_option maxHeartbeats 4000000 in
set_option maxRecDepth 100000 in
theorem c_air_ValidExchange (N : Nat) (w0 : World) (F0 : Mem) (hF : ∀ b o, F0 b = some o → w0.heap[b]? = some o) (x0 : Layout) (x1 : Exchange) (r : Bool) (h : air_ValidExchange N x0 x1 = some r) :
  Calls Tryz.prog 48 ([(.agg (kLayout x0)), (.agg (kExchange x1))] : List Value).toArray w0 (FRet w0 F0 fun F' v => v = (.bool r)) := by
 have hs0 := HS.start hF
 refine calls_of (n := 10) (c := bodyOf Tryz.f48) Tryz.func48 (by kernel_rfl) (by kernel_rfl) (by kernel_rfl) ?_
 refine Sq (Rg [0, 1, 2] ?_)
 refine Bx 2 0 0 52 (kLayout x0) hs0 (fun b1 w2 (hs3 : HS w0 F0 w2 F0 [(sb b1 (kLayout x0) 52)]) => ?_)
 refine Bx 3 0 1 54 (kExchange x1) hs3 (fun b4 w5 (hs6 : HS w0 F0 w5 F0 [(sb b4 (kExchange x1) 54), (sb b1 (kLayout x0) 52)]) => ?_)
 refine V 4 4 (mc (.bool false) (.bool false)) ?_
 refine Nss (Rg [0, 1, 2, 3, 4, 5] ?_)
 refine V 5 52 (ld 52 2 b1 0 true 3 (.agg (kLayout x0)) (hs6.ownAt (k := 1) rfl)) ?_
 refine V 6 54 (ld 54 3 b4 0 true 3 (.agg (kExchange x1)) (hs6.ownAt (k := 0) rfl)) ?_
 obtain ⟨r7, hr8, h9⟩ := bind_some h
 refine Cl 7 102 84 #[(.tmp 5), (.tmp 6)] #[52, 54] co_air_parts hs6 (c_air_parts N w5 F0 hs6.pers (({ Report := x0.Report, Serial := x0.Serial, Zone := x0.Zone } : Layout)) (({ Report := x1.Report, Serial := x1.Serial, Zone := x1.Zone } : Exchange)) _ hr8) ?_
 intro v10 F1 w11 hs12 le13 hp14
 obtain ⟨ar7_0_0, nr7_0_0, rfl, hbr7_0_0, hsr7_0_0⟩ := hp14
 obtain ⟨r15, hr16, h17⟩ := bind_some h9
 refine Cl 8 4 89 #[(.tmp 7), (.func 90)] #[102, 113] co_slices_ContainsFunc_air_part_air_part hs12 (c_slices_ContainsFunc_air_part_air_part N w11 F1 hs12.pers (r7) ar7_0_0 nr7_0_0 hbr7_0_0 hsr7_0_0 90 [] [] (fun y0 => air_ValidExchange_1 N y0) co_air_ValidExchange_1 (fun w1 F1 y0 r le1 pe1 hr1 => c_air_ValidExchange_1 N w1 F1 pe1  y0  r hr1) _ hr16) ?_
 intro v18 F2 w19 hs20 le21 hp22
 obtain rfl := hp22
 refine V 9 4 (run_not (t := 4) (x := (.tmp 8)) (a := r15) rfl) ?_
 refine V 4 4 (ma 9 (.bool (!r15))) ?_
 refine Nt ?_
 refine CWP.ret (by kernel_rfl) ?_
 have hfin := some_inj h17
 subst hfin
 exact ⟨rfl, (.bool (!r15)), res_of (l := [.tmp 4]) (by kernel_rfl) (vs := [(.bool (!r15))]) ⟨rfl, trivial⟩, (.bool (!r15)), F2, rfl, hs20.clear, rfl⟩
end Go.Proofs.YtlddakefmfcblaaGreatDoor
namespace Go.Proofs.YtlddakefmfcblaaGreatDoor
open Go.Proofs
def cmp_Or_string_L0 (N : Nat) (x0 : (List (List UInt8))) : Int → Option (Flow (List UInt8) Int) := fun s4 =>
 (bif (decide (s4 < (x0.length : Int))) then ((idx x0 s4).bind fun x27 => (bif (x27 != ([] : List UInt8)) then some (.ret x27) else some (.next (W64 (s4 + 1))))) else some (.done s4))
def cmp_Or_string (N : Nat) (x0 : (List (List UInt8))) : Option (List UInt8) :=
 ((iter (cmp_Or_string_L0 N x0) N 0).bind fun o => o.k (fun r => some r) (fun s13 => some ([] : List UInt8)))
theorem co_cmp_Or_string : CallOk Tryz.prog 85 := fun _ _ => by kernel_rfl
set_option maxHeartbeats 4000000 in
set_option maxRecDepth 100000 in
theorem c_cmp_Or_string (N : Nat) (w0 : World) (F0 : Mem) (hF : ∀ b o, F0 b = some o → w0.heap[b]? = some o) (x0 : (List (List UInt8))) (a0_0 : Option Addr) (n0_0 : Nat) (hb0_0 : LC x0.length n0_0) (hs0_0 : SlA tStr F0 a0_0 x0) (r : (List UInt8)) (h : cmp_Or_string N x0 = some r) :
  Calls Tryz.prog 85 ([(.slice a0_0 x0.length n0_0)] : List Value).toArray w0 (FRet w0 F0 fun F' v => v = (.string ⟨(r).toArray⟩)) := by
 have hs0 := HS.start hF
 refine calls_of (n := 18) (c := bodyOf Tryz.f85) Tryz.func85 (by kernel_rfl) (by kernel_rfl) (by kernel_rfl) ?_
 refine Sq (Rg [0] ?_)
 refine V 2 9 (mc (.string ⟨([] : List UInt8).toArray⟩) (.string ⟨(([] : List UInt8)).toArray⟩)) ?_
 refine Nss (Rg [0] ?_)
 refine V 3 9 (mc (.string ⟨([] : List UInt8).toArray⟩) (.string ⟨(([] : List UInt8)).toArray⟩)) ?_
 refine Nss ?_
 refine Sq (Rg [0, 1, 2] ?_)
 refine V 6 80 (mv 0 (.slice a0_0 x0.length n0_0)) ?_
 refine V 7 3 (ln 6 80 a0_0 x0.length n0_0 9 1 16) ?_
 refine V 8 3 (run_move (x := (.const (vi 0))) (v := (vi 0)) rfl) ?_
 refine Nt ?_
 obtain ⟨o1, ho2, h3⟩ := bind_some h
 refine CWP.cut (fun f w => ∃ (s13 : Int) (F2 : Mem), o1 = .done s13 ∧ HS w0 F0 w F2 [] ∧ Mem.le F0 F2 ∧ f.d = [] ∧ f 3 = (.string ⟨(([] : List UInt8)).toArray⟩)) ?_ ?_
 ·refine Bk ?_
  refine CWP.loop (by kernel_rfl) (fun m f w => ∃ (s4 : Int) (F1 : Mem), iter (cmp_Or_string_L0 N x0) m s4 = some o1 ∧ HS w0 F0 w F1 [] ∧ Mem.le F0 F1 ∧ f.d = [] ∧ f 3 = (.string ⟨(([] : List UInt8)).toArray⟩) ∧ f 6 = (.slice a0_0 x0.length n0_0) ∧ f 7 = (vi (x0.length : Int)) ∧ f 8 = (vi s4)) N ⟨0, F0, ho2, hs0, (Mem.le.refl _), rfl, rfl, rfl, rfl, rfl⟩ ?_
  rintro m19 f w5 ⟨s4, F1, hit20, hs6, le7, e8, e9, e10, e11, e12⟩
  obtain ⟨m21, fl22, rfl, hb23, hnx24⟩ := iter_step hit20
  refine Sq (Rg [0] ?_)
  refine V 9 0 (run_lss (t := 3) (t' := 3) (x := (.tmp 8)) (y := (.tmp 7)) (k := .i64) (a := s4) (b := (x0.length : Int)) e12 e11) ?_
  refine Nss ?_
  refine CWP.cond (t := (decide (s4 < (x0.length : Int)))) (by kernel_rfl) rfl (fun hb25 => ?_) (fun hb25 => ?_)
  ·have h26 := cond_t hb23 hb25
   refine Sc ?_
   refine thenQ_nrm ?_
   refine Sq ?_
   refine Bk ?_
   refine Sq (Rg [0, 1, 2] ?_)
   obtain ⟨x27, hx28, h30⟩ := bind_some h26
   obtain ⟨hi29, hx28'⟩ := idx_spec hx28
   obtain ⟨b31, o32, C33, E34, fz35, rfl, hF37, hE38⟩ := SlA.open (SlA.mono hs0_0 le7) hx28'
   have hc40 := hE38 _ _ hx28'
   refine V 10 0 (run_index (t := 80) (x := (.tmp 6)) (y := (.tmp 8)) (b := b31) (o := o32) (E := 9) (s := 1) (by_ := 16) e10 e12 (by kernel_rfl) hi29) ?_
   refine V 11 9 (lx 9 10 0 1 false 1 (.string ⟨(x27).toArray⟩) (hs6.pers _ _ hF37) hc40) ?_
   refine V 5 9 (ma 11 (.string ⟨(x27).toArray⟩)) ?_
   refine Nss (Rg [0, 1, 2] ?_)
   refine V 12 9 (mv 5 (.string ⟨(x27).toArray⟩)) ?_
   refine V 13 9 (mv 3 (.string ⟨(([] : List UInt8)).toArray⟩) e9) ?_
   refine V 14 4 (run_scmp (t := 9) (t' := 9) (x := (.tmp 12)) (y := (.tmp 13)) (op := .neq) (a := x27) (b := ([] : List UInt8)) (v := (x27 != ([] : List UInt8))) rfl rfl rfl) ?_
   refine Nt ?_
   refine CWP.cond (t := (x27 != ([] : List UInt8))) (by kernel_rfl) rfl (fun hb41 => ?_) (fun hb41 => ?_)
   ·have h42 := cond_t h30 hb41
    refine Sq (Rg [0, 1] ?_)
    refine V 15 9 (mv 5 (.string ⟨(x27).toArray⟩)) ?_
    refine V 2 9 (ma 15 (.string ⟨(x27).toArray⟩)) ?_
    refine Nt ?_
    refine CWP.ret (by kernel_rfl) ?_
    refine blockQ_ret ?_
    refine thenQ_ret ?_
    refine thenQ_ret ?_
    refine blockQ_ret ?_
    have hret := iter_ret h42 hnx24
    subst hret
    refine .inr ?_
    refine thenQ_ret ?_
    have hfin := some_inj h3
    subst hfin
    exact ⟨e8, (.string ⟨(x27).toArray⟩), res_of (l := [.tmp 2]) (by kernel_rfl) (vs := [(.string ⟨(x27).toArray⟩)]) ⟨rfl, trivial⟩, (.string ⟨(x27).toArray⟩), F1, rfl, hs6.clear, rfl⟩
   ·have h43 := cond_f h30 hb41
    refine Sc ?_
    refine blockQ_nrm ?_
    refine thenQ_nrm ?_
    refine Rg [0, 1] ?_
    refine V 16 3 (run_add (t := 3) (t' := 3) (x := (.tmp 8)) (y := (.const (vi 1))) (k := .i64) (a := s4) (b := 1) e12 rfl) ?_
    refine V 8 3 (mv 16 (vi (W64 (s4 + 1)))) ?_
    refine RWP.nil ?_
    have hn44 := iter_next h43 hnx24
    exact ⟨m21, Nat.lt_succ_self _, (W64 (s4 + 1)), F1, hn44, hs6, le7, e8, e9, e10, e11, rfl⟩
  ·have h45 := cond_f hb23 hb25
   refine CWP.exit (by kernel_rfl) ?_
   refine thenQ_ex ?_
   refine thenQ_ex ?_
   refine blockQ_hit rfl ?_
   have ho46 := iter_done h45 hnx24
   exact .inl ⟨rfl, s4, F1, ho46, hs6, le7, e8, e9⟩
 ·rintro f w14 ⟨s13, F2, rfl, hs15, le16, e17, e18⟩
  have h47 := k_done h3
  refine thenQ_nrm ?_
  refine Sq (Rg [0, 1] ?_)
  refine V 17 9 (mv 3 (.string ⟨(([] : List UInt8)).toArray⟩) e18) ?_
  refine V 2 9 (ma 17 (.string ⟨(([] : List UInt8)).toArray⟩)) ?_
  refine Nt ?_
  refine CWP.ret (by kernel_rfl) ?_
  have hfin := some_inj h47
  subst hfin
  exact ⟨e17, (.string ⟨(([] : List UInt8)).toArray⟩), res_of (l := [.tmp 2]) (by kernel_rfl) (vs := [(.string ⟨(([] : List UInt8)).toArray⟩)]) ⟨rfl, trivial⟩, (.string ⟨(([] : List UInt8)).toArray⟩), F2, rfl, hs15.clear, rfl⟩
end Go.Proofs.YtlddakefmfcblaaGreatDoor
namespace Go.Proofs.YtlddakefmfcblaaGreatDoor
open Go.Proofs
def air_PrintExchange_L0 (N : Nat) (x0 : Layout) (x1 : Exchange) (r7 : Bool) (r18 : (List air_part)) : (List (List UInt8) × Int) → Option (Flow ((List UInt8) × Int) (List (List UInt8) × Int)) := fun s33 =>
 (bif (decide (s33.2 < (r18.length : Int))) then ((idx r18 s33.2).bind fun x56 => ((bif x56.has_ then ((air_padded N x56.n_ x56.digits_).bind fun r88 => ((apnd s33.1 [r88]).bind fun r101 => some r101)) else some s33.1).bind fun j78 => some (.next (j78, (W64 (s33.2 + 1)))))) else some (.done (s33.1, s33.2)))
def air_PrintExchange (N : Nat) (x0 : Layout) (x1 : Exchange) : Option ((List UInt8) × Int) :=
 ((air_ValidExchange N ({ Report := x0.Report, Serial := x0.Serial, Zone := x0.Zone } : Layout) ({ Report := x1.Report, Serial := x1.Serial, Zone := x1.Zone } : Exchange)).bind fun r7 => (bif (!r7) then some (([] : List UInt8), 1) else ((air_parts N ({ Report := x0.Report, Serial := x0.Serial, Zone := x0.Zone } : Layout) ({ Report := x1.Report, Serial := x1.Serial, Zone := x1.Zone } : Exchange)).bind fun r18 => ((iter (air_PrintExchange_L0 N x0 x1 r7 r18) N (([] : List (List UInt8)), 0)).bind fun o => o.k (fun r => some r) (fun s42 => ((strings_Join N s42.1 ([32] : List UInt8)).bind fun r122 => ((cmp_Or_string N ([r122, ([45] : List UInt8)])).bind fun r139 => some (r139, 0))))))))
theorem co_air_PrintExchange : CallOk Tryz.prog 44 := fun _ _ => by kernel_rfl
set_option maxHeartbeats 4000000 in
set_option maxRecDepth 100000 in
theorem c_air_PrintExchange (N : Nat) (w0 : World) (F0 : Mem) (hF : ∀ b o, F0 b = some o → w0.heap[b]? = some o) (hG : Glob F0) (x0 : Layout) (x1 : Exchange) (r : ((List UInt8) × Int)) (h : air_PrintExchange N x0 x1 = some r) :
  Calls Tryz.prog 44 ([(.agg (kLayout x0)), (.agg (kExchange x1))] : List Value).toArray w0 (FRet w0 F0 fun F' v => v = (.tuple #[(.string ⟨(r.1).toArray⟩), (vi r.2)])) := by
 have hs0 := HS.start hF
 refine calls_of (n := 36) (c := bodyOf Tryz.f44) Tryz.func44 (by kernel_rfl) (by kernel_rfl) (by kernel_rfl) ?_
 refine Sq (Rg [0, 1, 2, 3] ?_)
 refine Bx 2 0 0 52 (kLayout x0) hs0 (fun b1 w2 (hs3 : HS w0 F0 w2 F0 [(sb b1 (kLayout x0) 52)]) => ?_)
 refine Bx 3 0 1 54 (kExchange x1) hs3 (fun b4 w5 (hs6 : HS w0 F0 w5 F0 [(sb b4 (kExchange x1) 54), (sb b1 (kLayout x0) 52)]) => ?_)
 refine V 4 9 (mc (.string ⟨([] : List UInt8).toArray⟩) (.string ⟨(([] : List UInt8)).toArray⟩)) ?_
 refine V 5 23 (mc (vi 0) (vi 0)) ?_
 refine Nss ?_
 refine Sq (Rg [0, 1, 2, 3] ?_)
 refine V 9 52 (ld 52 2 b1 0 true 3 (.agg (kLayout x0)) (hs6.ownAt (k := 1) rfl)) ?_
 refine V 10 54 (ld 54 3 b4 0 true 3 (.agg (kExchange x1)) (hs6.ownAt (k := 0) rfl)) ?_
 obtain ⟨r7, hr8, h9⟩ := bind_some h
 refine Cl 11 4 48 #[(.tmp 9), (.tmp 10)] #[52, 54] co_air_ValidExchange hs6 (c_air_ValidExchange N w5 F0 hs6.pers (({ Report := x0.Report, Serial := x0.Serial, Zone := x0.Zone } : Layout)) (({ Report := x1.Report, Serial := x1.Serial, Zone := x1.Zone } : Exchange)) _ hr8) ?_
 intro v10 F1 w11 hs12 le13 hp14
 obtain rfl := hp14
 refine V 12 4 (run_not (t := 4) (x := (.tmp 11)) (a := r7) rfl) ?_
 refine Nt ?_
 refine CWP.cond (t := (!r7)) (by kernel_rfl) rfl (fun hb15 => ?_) (fun hb15 => ?_)
 ·have h16 := cond_t h9 hb15
  refine Sq (Rg [0, 1] ?_)
  refine V 4 9 (mc (.string ⟨([] : List UInt8).toArray⟩) (.string ⟨(([] : List UInt8)).toArray⟩)) ?_
  refine V 5 23 (mc (vi 1) (vi 1)) ?_
  refine Nt ?_
  refine CWP.ret (by kernel_rfl) ?_
  refine thenQ_ret ?_
  have hfin := some_inj h16
  subst hfin
  exact ⟨rfl, (.tuple #[(.string ⟨(([] : List UInt8)).toArray⟩), (vi 1)]), res_of (l := [.tmp 4, .tmp 5]) (by kernel_rfl) (vs := [(.string ⟨(([] : List UInt8)).toArray⟩), (vi 1)]) ⟨rfl, ⟨rfl, trivial⟩⟩, (.tuple #[(.string ⟨(([] : List UInt8)).toArray⟩), (vi 1)]), F1, rfl, hs12.clear, rfl⟩
 ·have h17 := cond_f h9 hb15
  refine Sc ?_
  refine thenQ_nrm ?_
  refine Sq (Rg [0] ?_)
  refine V 6 80 (mc (.slice none 0 0) (.slice none ([] : List (List UInt8)).length 0)) ?_
  refine Nss ?_
  refine Sq (Rg [0, 1, 2, 3, 4] ?_)
  refine V 13 52 (ld 52 2 b1 0 true 3 (.agg (kLayout x0)) (hs12.ownAt (k := 1) rfl)) ?_
  refine V 14 54 (ld 54 3 b4 0 true 3 (.agg (kExchange x1)) (hs12.ownAt (k := 0) rfl)) ?_
  obtain ⟨r18, hr19, h20⟩ := bind_some h17
  refine Cl 15 102 84 #[(.tmp 13), (.tmp 14)] #[52, 54] co_air_parts hs12 (c_air_parts N w11 F1 hs12.pers (({ Report := x0.Report, Serial := x0.Serial, Zone := x0.Zone } : Layout)) (({ Report := x1.Report, Serial := x1.Serial, Zone := x1.Zone } : Exchange)) _ hr19) ?_
  intro v21 F2 w22 hs23 le24 hp25
  obtain ⟨ar18_0_0, nr18_0_0, rfl, hbr18_0_0, hsr18_0_0⟩ := hp25
  refine V 16 3 (ln 15 102 ar18_0_0 r18.length nr18_0_0 105 4 32) ?_
  refine V 17 3 (run_move (x := (.const (vi 0))) (v := (vi 0)) rfl) ?_
  refine Nt ?_
  have hs26 : HS w0 F0 w22 F2 [(sb b1 (kLayout x0) 52)] := hs23.drop 0
  have hs27 : HS w0 F0 w22 F2 [] := hs26.drop 0
  have hs28 : HS w0 F0 w22 F2 [(none, .cells #[] 0 (0, 0))] := hs27.dummy _
  obtain ⟨o30, ho31, h32⟩ := bind_some h20
  refine CWP.cut (fun f w => ∃ (s42 : (List (List UInt8) × Int)) (F4 : Mem) (as42_0 : Option Addr) (ns42_0 : Nat) (es42_0 : Option Nat × Obj), o30 = .done s42 ∧ HS w0 F0 w F4 [es42_0] ∧ Mem.le F2 F4 ∧ f.d = [] ∧ f 6 = (.slice as42_0 s42.1.length ns42_0) ∧ RowR tStr 9 F4 as42_0 ns42_0 s42.1 es42_0) ?_ ?_
  ·refine Bk ?_
   refine CWP.loop (by kernel_rfl) (fun m f w => ∃ (s33 : (List (List UInt8) × Int)) (F3 : Mem) (as33_0 : Option Addr) (ns33_0 : Nat) (es33_0 : Option Nat × Obj), iter (air_PrintExchange_L0 N x0 x1 r7 r18) m s33 = some o30 ∧ HS w0 F0 w F3 [es33_0] ∧ Mem.le F2 F3 ∧ f.d = [] ∧ f 6 = (.slice as33_0 s33.1.length ns33_0) ∧ f 15 = (.slice ar18_0_0 r18.length nr18_0_0) ∧ f 16 = (vi (r18.length : Int)) ∧ f 17 = (vi s33.2) ∧ RowR tStr 9 F3 as33_0 ns33_0 s33.1 es33_0) N ⟨(([] : List (List UInt8)), 0), F2, none, 0, (none, .cells #[] 0 (0, 0)), ho31, hs28, (Mem.le.refl _), rfl, rfl, rfl, rfl, rfl, (RowR.nil tStr 9 F2 _)⟩ ?_
   rintro m48 f w34 ⟨s33, F3, as33_0, ns33_0, es33_0, hit49, hs35, le36, e37, e38, e39, e40, e41, hrs33_0⟩
   obtain ⟨m50, fl51, rfl, hb52, hnx53⟩ := iter_step hit49
   refine Sq (Rg [0] ?_)
   refine V 18 0 (run_lss (t := 3) (t' := 3) (x := (.tmp 17)) (y := (.tmp 16)) (k := .i64) (a := s33.2) (b := (r18.length : Int)) e41 e40) ?_
   refine Nss ?_
   refine CWP.cond (t := (decide (s33.2 < (r18.length : Int)))) (by kernel_rfl) rfl (fun hb54 => ?_) (fun hb54 => ?_)
   ·have h55 := cond_t hb52 hb54
    refine Sc ?_
    refine thenQ_nrm ?_
    refine Sq ?_
    refine Bk ?_
    refine Sq (Rg [0, 1, 2, 3] ?_)
    obtain ⟨x56, hx57, h59⟩ := bind_some h55
    obtain ⟨hi58, hx57'⟩ := idx_spec hx57
    obtain ⟨b60, o61, C62, E63, fz64, rfl, hF66, hE67⟩ := SlA.open (SlA.mono hsr18_0_0 le36) hx57'
    have hc69 := hE67 _ _ hx57'
    refine V 19 0 (run_index (t := 102) (x := (.tmp 15)) (y := (.tmp 17)) (b := b60) (o := o61) (E := 105) (s := 4) (by_ := 32) e39 e41 (by kernel_rfl) hi58) ?_
    refine V 20 105 (lx 105 19 0 4 true 4 (.agg (kair_part x56)) (hs35.pers _ _ hF66) hc69) ?_
    refine Al 8 0 105 #[(.bool false), (vi 0), (vi 0), (vi 0)] hs35 (fun b70 w71 (hs72 : HS w0 F0 w71 F3 [(sb b70 #[(.bool false), (vi 0), (vi 0), (vi 0)] 105), es33_0]) => ?_)
    refine RWP.store (ty := 0) (g := none) (by kernel_rfl) rfl (x := (.tmp 8)) (y := (.tmp 20)) (t := 105) (gg := true) (s := 4) (v := (.agg (kair_part x56))) (b := b70) (o := 0) (C := #[(.bool false), (vi 0), (vi 0), (vi 0)]) rfl rfl (by kernel_rfl) hs72 (k := 0) rfl rfl rfl rfl (C' := (kair_part x56)) rfl (fun w73 (hs74 : HS w0 F0 w73 F3 [(sb b70 (kair_part x56) 105), es33_0]) => ?_)
    refine Nss (Rg [0, 1] ?_)
    refine V 21 0 (fa 105 8 0 0 1 b70 0 0) ?_
    refine V 22 4 (ld 4 21 b70 0 false 1 (.bool x56.has_) (hs74.ownAt (k := 0) rfl)) ?_
    refine Nt ?_
    obtain ⟨j78, hj84, h85⟩ := bind_some h59
    refine CWP.cut (fun f w => ∃ (F5 : Mem) (aj78_0 : Option Addr) (nj78_0 : Nat) (ej78_0 : Option Nat × Obj), HS w0 F0 w F5 [ej78_0] ∧ Mem.le F3 F5 ∧ f.d = [] ∧ f 6 = (.slice aj78_0 j78.length nj78_0) ∧ f 15 = (.slice (some ⟨b60, o61, none⟩) r18.length nr18_0_0) ∧ f 16 = (vi (r18.length : Int)) ∧ f 17 = (vi s33.2) ∧ RowR tStr 9 F5 aj78_0 nj78_0 j78 ej78_0) ?_ ?_
    ·refine CWP.cond (t := x56.has_) (by kernel_rfl) rfl (fun hb86 => ?_) (fun hb86 => ?_)
     ·have h87 := cond_t hj84 hb86
      refine Rg [0, 1, 2, 3, 4, 5, 6, 7, 8] ?_
      refine V 23 80 (mv 6 (.slice as33_0 s33.1.length ns33_0) e38) ?_
      refine V 24 0 (fa 105 8 1 1 1 b70 0 1) ?_
      refine V 25 3 (ld 3 24 b70 1 false 1 (vi x56.n_) (hs74.ownAt (k := 0) rfl)) ?_
      refine V 26 0 (fa 105 8 3 3 1 b70 0 3) ?_
      refine V 27 3 (ld 3 26 b70 3 false 1 (vi x56.digits_) (hs74.ownAt (k := 0) rfl)) ?_
      obtain ⟨r88, hr89, h90⟩ := bind_some h87
      refine Cl 28 9 75 #[(.tmp 25), (.tmp 27)] #[3, 3] co_air_padded hs74 (c_air_padded N w73 F3 hs74.pers (hG.mono ((le13.trans le24).trans le36)) (x56.n_) (x56.digits_) _ hr89) ?_
      intro v91 F6 w92 hs93 le94 hp95
      obtain rfl := hp95
      refine RWP.buildSlice (dst := (some 29)) (ty := 80) (g := none) (by kernel_rfl) rfl (t := 80) (len := 1) (parts := #[(0, (.tmp 28))]) (vs := [(0, (.string ⟨(r88).toArray⟩))]) (rfl) (E := 9) (cs := [(.string ⟨(r88).toArray⟩)]) (by kernel_rfl) hs93 (fun b96 w97 (hs98 : HS w0 F0 w97 F6 [(some b96, .cells ([(.string ⟨(r88).toArray⟩)] : List Value).toArray 9 (0, 0)), (sb b70 (kair_part x56) 105), es33_0]) => ?_)
      have hr100 : RowR tStr 9 F6 (some ⟨b96, 0, none⟩) 1 [r88] (some b96, .cells ([(.string ⟨(r88).toArray⟩)] : List Value).toArray 9 (0, 0)) := RowR.lit ⟨rfl, rfl⟩ (by simp)
      obtain ⟨r101, hap102, h103⟩ := bind_some h90
      refine RWP.append (dst := (some 30)) (ty := 80) (g := none) (by kernel_rfl) rfl (x := (.tmp 23)) (y := (.tmp 29)) (t := 80) (t2 := 80) (by_ := 16) (z := (.string ⟨(([] : List UInt8)).toArray⟩)) (a2 := (some ⟨b96, 0, none⟩)) (c2 := 1) (m := [r88]) (T := tStr) (E := 9) (a := as33_0) (cap := ns33_0) (l := s33.1) rfl rfl (by kernel_rfl) (by decide) (by kernel_rfl) (by kernel_rfl) rfl oStr hs98 (k := 2) rfl (hrs33_0.mono le94) (RowR.rd hs98 (k := 0) rfl hr100) (r := r101) hap102 (fun a104 n105 e106 w107 (hs108 : HS w0 F0 w107 F6 [(some b96, .cells ([(.string ⟨(r88).toArray⟩)] : List Value).toArray 9 (0, 0)), (sb b70 (kair_part x56) 105), e106]) hr109 => ?_)
      refine V 6 80 (ma 30 (.slice a104 r101.length n105)) ?_
      refine RWP.nil ?_
      obtain rfl := some_inj h103
      have hs110 : HS w0 F0 w107 F6 [(sb b70 (kair_part x56) 105), e106] := hs108.drop 0
      have hs111 : HS w0 F0 w107 F6 [e106] := hs110.drop 0
      exact .inl ⟨rfl, F6, a104, n105, e106, hs111, le94, e37, rfl, e39, e40, e41, hr109⟩
     ·have h112 := cond_f hj84 hb86
      refine Sc ?_
      obtain rfl := some_inj h112
      have hs113 : HS w0 F0 w73 F3 [es33_0] := hs74.drop 0
      exact .inl ⟨rfl, F3, as33_0, ns33_0, es33_0, hs113, (Mem.le.refl _), e37, e38, e39, e40, e41, hrs33_0⟩
    ·rintro f w75 ⟨F5, aj78_0, nj78_0, ej78_0, hs76, le77, e79, e80, e81, e82, e83, hrj78_0⟩
     refine blockQ_nrm ?_
     refine thenQ_nrm ?_
     refine Rg [0, 1] ?_
     refine V 31 3 (run_add (t := 3) (t' := 3) (x := (.tmp 17)) (y := (.const (vi 1))) (k := .i64) (a := s33.2) (b := 1) e83 rfl) ?_
     refine V 17 3 (mv 31 (vi (W64 (s33.2 + 1)))) ?_
     refine RWP.nil ?_
     have hn114 := iter_next h85 hnx53
     exact ⟨m50, Nat.lt_succ_self _, (j78, (W64 (s33.2 + 1))), F5, aj78_0, nj78_0, ej78_0, hn114, hs76, (le36.trans le77), e79, e80, e81, e82, rfl, hrj78_0⟩
   ·have h115 := cond_f hb52 hb54
    refine CWP.exit (by kernel_rfl) ?_
    refine thenQ_ex ?_
    refine thenQ_ex ?_
    refine blockQ_hit rfl ?_
    have ho116 := iter_done h115 hnx53
    exact .inl ⟨rfl, (s33.1, s33.2), F3, as33_0, ns33_0, es33_0, ho116, hs35, le36, e37, e38, hrs33_0⟩
  ·rintro f w43 ⟨s42, F4, as42_0, ns42_0, es42_0, rfl, hs44, le45, e46, e47, hrs42_0⟩
   have h117 := k_done h32
   refine thenQ_nrm ?_
   refine Sq (Rg [0, 1, 2, 3, 4, 5] ?_)
   refine V 32 80 (mv 6 (.slice as42_0 s42.1.length ns42_0) e47) ?_
   have hb121 := RowR.bound hrs42_0
   obtain ⟨F7, hs118, le119, hs120⟩ : ∃ Fq, HS w0 F0 w43 Fq [] ∧ Mem.le F4 Fq ∧ SlA tStr Fq as42_0 s42.1 := HS.freezeRow hs44 (k := 0) rfl hrs42_0
   obtain ⟨r122, hr123, h124⟩ := bind_some h117
   refine Cl 33 9 86 #[(.tmp 32), (.const (.string ⟨([32] : List UInt8).toArray⟩))] #[80, 9] co_strings_Join hs118 (c_strings_Join N w43 F7 hs118.pers (s42.1) as42_0 ns42_0 hb121 hs120 (([32] : List UInt8)) _ hr123) ?_
   intro v125 F8 w126 hs127 le128 hp129
   obtain rfl := hp129
   refine RWP.buildSlice (dst := (some 34)) (ty := 80) (g := none) (by kernel_rfl) rfl (t := 80) (len := 2) (parts := #[(0, (.tmp 33)), (1, (.const (.string ⟨([45] : List UInt8).toArray⟩)))]) (vs := [(0, (.string ⟨(r122).toArray⟩)), (1, (.string ⟨(([45] : List UInt8)).toArray⟩))]) (rfl) (E := 9) (cs := [(.string ⟨(r122).toArray⟩), (.string ⟨(([45] : List UInt8)).toArray⟩)]) (by kernel_rfl) hs127 (fun b130 w131 (hs132 : HS w0 F0 w131 F8 [(some b130, .cells ([(.string ⟨(r122).toArray⟩), (.string ⟨(([45] : List UInt8)).toArray⟩)] : List Value).toArray 9 (0, 0))]) => ?_)
   have hr134 : RowR tStr 9 F8 (some ⟨b130, 0, none⟩) 2 [r122, ([45] : List UInt8)] (some b130, .cells ([(.string ⟨(r122).toArray⟩), (.string ⟨(([45] : List UInt8)).toArray⟩)] : List Value).toArray 9 (0, 0)) := RowR.lit ⟨rfl, ⟨rfl, rfl⟩⟩ (by simp)
   have hb138 := RowR.bound hr134
   obtain ⟨F9, hs135, le136, hs137⟩ : ∃ Fq, HS w0 F0 w131 Fq [] ∧ Mem.le F8 Fq ∧ SlA tStr Fq (some ⟨b130, 0, none⟩) [r122, ([45] : List UInt8)] := HS.freezeRow hs132 (k := 0) rfl hr134
   obtain ⟨r139, hr140, h141⟩ := bind_some h124
   refine Cl 35 9 85 #[(.tmp 34)] #[80] co_cmp_Or_string hs135 (c_cmp_Or_string N w131 F9 hs135.pers ([r122, ([45] : List UInt8)]) (some ⟨b130, 0, none⟩) 2 hb138 hs137 _ hr140) ?_
   intro v142 F10 w143 hs144 le145 hp146
   obtain rfl := hp146
   refine V 4 9 (ma 35 (.string ⟨(r139).toArray⟩)) ?_
   refine V 5 23 (mc (vi 0) (vi 0)) ?_
   refine Nt ?_
   refine CWP.ret (by kernel_rfl) ?_
   have hfin := some_inj h141
   subst hfin
   exact ⟨e46, (.tuple #[(.string ⟨(r139).toArray⟩), (vi 0)]), res_of (l := [.tmp 4, .tmp 5]) (by kernel_rfl) (vs := [(.string ⟨(r139).toArray⟩), (vi 0)]) ⟨rfl, ⟨rfl, trivial⟩⟩, (.tuple #[(.string ⟨(r139).toArray⟩), (vi 0)]), F10, rfl, hs144.clear, rfl⟩
end Go.Proofs.YtlddakefmfcblaaGreatDoor
namespace Go.Proofs.YtlddakefmfcblaaGreatDoor
open Go.Proofs
end Go.Proofs.YtlddakefmfcblaaGreatDoor
namespace Go.Proofs.YtlddakefmfcblaaGreatDoor
open Go.Proofs
end Go.Proofs.YtlddakefmfcblaaGreatDoor
namespace Go.Proofs.YtlddakefmfcblaaGreatDoor
open Go.Proofs
end Go.Proofs.YtlddakefmfcblaaGreatDoor
namespace Go.Proofs.YtlddakefmfcblaaGreatDoor
open Go.Proofs
end Go.Proofs.YtlddakefmfcblaaGreatDoor
namespace Go.Proofs.YtlddakefmfcblaaGreatDoor
open Go.Proofs
def air_ParseExchange (N : Nat) (x0 : Layout) (x1 : (List UInt8)) : Option (Exchange × Int) :=
 ((strings_Split N x1 ([32] : List UInt8)).bind fun r7 => (((air_parts N ({ Report := x0.Report, Serial := x0.Serial, Zone := x0.Zone } : Layout) ({ Report := 0, Serial := 0, Zone := 0 } : Exchange)).bind fun r38 => ((idx r38 0).bind fun x46 => (bif x46.has_ then some (decide ((r7.length : Int) > 0)) else some false))).bind fun j24 => ((bif j24 then ((idx r7 0).bind fun x80 => ((air_number N x80).bind fun r94 => ((sub r7 1 (r7.length : Int)).bind fun r104 => some (r104, r94)))) else some (r7, 0)).bind fun j66 => (((air_parts N ({ Report := x0.Report, Serial := x0.Serial, Zone := x0.Zone } : Layout) ({ Report := j66.2, Serial := 0, Zone := 0 } : Exchange)).bind fun r130 => ((idx r130 1).bind fun x138 => (bif x138.has_ then some (decide ((j66.1.length : Int) > 0)) else some false))).bind fun j116 => ((bif j116 then ((idx j66.1 0).bind fun x172 => ((air_number N x172).bind fun r186 => ((sub j66.1 1 (j66.1.length : Int)).bind fun r196 => some (r196, r186)))) else some (j66.1, 0)).bind fun j158 => (((air_parts N ({ Report := x0.Report, Serial := x0.Serial, Zone := x0.Zone } : Layout) ({ Report := j66.2, Serial := j158.2, Zone := 0 } : Exchange)).bind fun r222 => ((idx r222 2).bind fun x230 => (bif x230.has_ then some (decide ((j158.1.length : Int) > 0)) else some false))).bind fun j208 => ((bif j208 then ((idx j158.1 0).bind fun x264 => ((air_number N x264).bind fun r278 => ((sub j158.1 1 (j158.1.length : Int)).bind fun r288 => some (r288, r278)))) else some (j158.1, 0)).bind fun j250 => ((air_PrintExchange N ({ Report := x0.Report, Serial := x0.Serial, Zone := x0.Zone } : Layout) ({ Report := j66.2, Serial := j158.2, Zone := j250.2 } : Exchange)).bind fun r297 => (bif ((r297.2 != 0) || (r297.1 != x1)) then some (({ Report := 0, Serial := 0, Zone := 0 } : Exchange), 1) else some (({ Report := j66.2, Serial := j158.2, Zone := j250.2 } : Exchange), 0))))))))))
theorem co_air_ParseExchange : CallOk Tryz.prog 46 := fun _ _ => by kernel_rfl
set_option maxHeartbeats 4000000 in
set_option maxRecDepth 100000 in
theorem c_air_ParseExchange (N : Nat) (w0 : World) (F0 : Mem) (hF : ∀ b o, F0 b = some o → w0.heap[b]? = some o) (hG : Glob F0) (x0 : Layout) (x1 : (List UInt8)) (r : (Exchange × Int)) (h : air_ParseExchange N x0 x1 = some r) :
  Calls Tryz.prog 46 ([(.agg (kLayout x0)), (.string ⟨(x1).toArray⟩)] : List Value).toArray w0 (FRet w0 F0 fun F' v => v = (.tuple #[(.agg (kExchange r.1)), (vi r.2)])) := by
 have hs0 := HS.start hF
 refine calls_of (n := 60) (c := bodyOf Tryz.f46) Tryz.func46 (by kernel_rfl) (by kernel_rfl) (by kernel_rfl) ?_
 refine Sq (Rg [0, 1, 2] ?_)
 refine Bx 2 0 0 52 (kLayout x0) hs0 (fun b1 w2 (hs3 : HS w0 F0 w2 F0 [(sb b1 (kLayout x0) 52)]) => ?_)
 refine Al 4 0 54 #[(vi 0), (vi 0), (vi 0)] hs3 (fun b4 w5 (hs6 : HS w0 F0 w5 F0 [(sb b4 #[(vi 0), (vi 0), (vi 0)] 54), (sb b1 (kLayout x0) 52)]) => ?_)
 refine V 5 23 (mc (vi 0) (vi 0)) ?_
 refine Nss (Rg [0, 1, 2] ?_)
 refine V 12 9 (mv 1 (.string ⟨(x1).toArray⟩)) ?_
 obtain ⟨r7, hr8, h9⟩ := bind_some h
 refine Cl 13 80 88 #[(.tmp 12), (.const (.string ⟨([32] : List UInt8).toArray⟩))] #[9, 9] co_strings_Split hs6 (c_strings_Split N w5 F0 hs6.pers hG (x1) (([32] : List UInt8)) _ hr8) ?_
 intro v10 F1 w11 hs12 le13 hp14
 obtain ⟨ar7_0_0, nr7_0_0, rfl, hbr7_0_0, hsr7_0_0⟩ := hp14
 refine V 6 80 (ma 13 (.slice ar7_0_0 r7.length nr7_0_0)) ?_
 refine Nss (Rg [0] ?_)
 refine Al 7 0 54 #[(vi 0), (vi 0), (vi 0)] hs12 (fun b15 w16 (hs17 : HS w0 F0 w16 F1 [(sb b15 #[(vi 0), (vi 0), (vi 0)] 54), (sb b4 #[(vi 0), (vi 0), (vi 0)] 54), (sb b1 (kLayout x0) 52)]) => ?_)
 refine Nss ?_
 refine Sq (Rg [0, 1, 2, 3, 4, 5] ?_)
 refine V 14 0 (fa 54 7 0 0 1 b15 0 0) ?_
 refine V 15 0 (fa 54 7 1 1 1 b15 0 1) ?_
 refine V 16 0 (fa 54 7 2 2 1 b15 0 2) ?_
 refine RWP.buildSlice (dst := (some 17)) (ty := 111) (g := none) (by kernel_rfl) rfl (t := 111) (len := 3) (parts := #[(0, (.tmp 14)), (1, (.tmp 15)), (2, (.tmp 16))]) (vs := [(0, (.pointer (some ⟨b15, 0, none⟩))), (1, (.pointer (some ⟨b15, 1, none⟩))), (2, (.pointer (some ⟨b15, 2, none⟩)))]) (rfl) (E := 110) (cs := [(.pointer (some ⟨b15, 0, none⟩)), (.pointer (some ⟨b15, 1, none⟩)), (.pointer (some ⟨b15, 2, none⟩))]) (by kernel_rfl) hs17 (fun b18 w19 (hs20 : HS w0 F0 w19 F1 [(sb b18 #[(.pointer (some ⟨b15, 0, none⟩)), (.pointer (some ⟨b15, 1, none⟩)), (.pointer (some ⟨b15, 2, none⟩))] 110), (sb b15 #[(vi 0), (vi 0), (vi 0)] 54), (sb b4 #[(vi 0), (vi 0), (vi 0)] 54), (sb b1 (kLayout x0) 52)]) => ?_)
 refine V 18 3 (runv (v1 := (vi 3)) (by rfl) (run_len_slice' (x := (.tmp 17)) (ats := #[111]) (a := some ⟨b18, 0, none⟩) (n := 3) (c := 3) (E := 110) (s := 1) (by_ := 8) rfl rfl (by kernel_rfl))) ?_
 refine V 19 3 (run_move (x := (.const (vi 0))) (v := (vi 0)) rfl) ?_
 refine Nt ?_
 refine Bk ?_
 refine CWP.unroll (by kernel_rfl) 4 ?_
 refine URL.step ?_
 refine Sq (Rg [0] ?_)
 refine V 20 0 (runv (v1 := (.bool true)) (by rfl) (run_lss (t := 3) (t' := 3) (x := (.tmp 19)) (y := (.tmp 18)) (k := .i64) (a := 0) (b := 3) rfl rfl)) ?_
 refine Nss ?_
 refine CWP.cond1 (t := true) (by kernel_rfl) rfl rfl ?_
 refine Sc ?_
 refine thenQ_nrm ?_
 refine Sq ?_
 refine Bk ?_
 refine Sq (Rg [0, 1, 2, 3, 4] ?_)
 refine V 21 3 (mv 19 (vi 0)) ?_
 refine V 22 0 (runv (v1 := (.pointer (some ⟨b18, 0, none⟩))) (by rfl) (run_index0 (t := 111) (x := (.tmp 17)) (y := (.tmp 19)) (b := b18) (nn := 3) (c := 3) (E := 110) (s := 1) (by_ := 8) (j := 0) rfl rfl (by kernel_rfl) (by decide))) ?_
 refine V 23 110 (ld 110 22 b18 0 false 1 (.pointer (some ⟨b15, 0, none⟩)) (hs20.ownAt (k := 0) rfl)) ?_
 refine V 8 3 (ma 21 (vi 0)) ?_
 refine V 9 110 (ma 23 (.pointer (some ⟨b15, 0, none⟩))) ?_
 refine Nss (Rg [0, 1, 2, 3, 4, 5, 6, 7, 8, 9, 10, 11] ?_)
 obtain ⟨j24, hj36, h37⟩ := bind_some h9
 refine RWP.cut (fun f w => ∃ (F2 : Mem), HS w0 F0 w F2 [(sb b18 #[(.pointer (some ⟨b15, 0, none⟩)), (.pointer (some ⟨b15, 1, none⟩)), (.pointer (some ⟨b15, 2, none⟩))] 110), (sb b15 #[(vi 0), (vi 0), (vi 0)] 54), (sb b4 #[(vi 0), (vi 0), (vi 0)] 54), (sb b1 (kLayout x0) 52)] ∧ Mem.le F1 F2 ∧ f.d = [] ∧ f 1 = (.string ⟨(x1).toArray⟩) ∧ f 2 = (.pointer (some ⟨b1, 0, none⟩)) ∧ f 4 = (.pointer (some ⟨b4, 0, none⟩)) ∧ f 6 = (.slice ar7_0_0 r7.length nr7_0_0) ∧ f 7 = (.pointer (some ⟨b15, 0, none⟩)) ∧ f 9 = (.pointer (some ⟨b15, 0, none⟩)) ∧ f 17 = (.slice (some ⟨b18, 0, none⟩) 3 3) ∧ f 18 = (vi 3) ∧ f 19 = (vi 0) ∧ f 35 = (.bool j24)) ?_ ?_
 ·refine V 24 52 (ld 52 2 b1 0 true 3 (.agg (kLayout x0)) (hs20.ownAt (k := 3) rfl)) ?_
  refine V 25 54 (ld 54 7 b15 0 true 3 (.agg #[(vi 0), (vi 0), (vi 0)]) (hs20.ownAt (k := 1) rfl)) ?_
  obtain ⟨r38, hr39, h40⟩ := bind_some hj36
  refine Cl 26 102 84 #[(.tmp 24), (.tmp 25)] #[52, 54] co_air_parts hs20 (c_air_parts N w19 F1 hs20.pers (({ Report := x0.Report, Serial := x0.Serial, Zone := x0.Zone } : Layout)) (({ Report := 0, Serial := 0, Zone := 0 } : Exchange)) _ hr39) ?_
  intro v41 F3 w42 hs43 le44 hp45
  obtain ⟨ar38_0_0, nr38_0_0, rfl, hbr38_0_0, hsr38_0_0⟩ := hp45
  refine V 27 3 (mv 8 (vi 0)) ?_
  obtain ⟨x46, hx47, h49⟩ := bind_some h40
  obtain ⟨hi48, hx47'⟩ := idx_spec hx47
  obtain ⟨b50, o51, C52, E53, fz54, rfl, hF56, hE57⟩ := SlA.open hsr38_0_0 hx47'
  have hc59 := hE57 _ _ hx47'
  refine V 28 0 (ix 102 26 27 b50 o51 105 4 32 hi48) ?_
  refine V 29 0 (fa 105 28 0 0 1 b50 (o51 + (0 : Int).toNat * 4) (o51 + (0 : Int).toNat * 4)) ?_
  refine V 30 4 (lx 4 29 0 4 false 1 (.bool x46.has_) (hs43.pers _ _ hF56) hc59) ?_
  refine V 31 4 (mv 30 (.bool x46.has_)) ?_
  refine RWP.split x46.has_ (fun hb60 => ?_) (fun hb60 => ?_)
  ·have h61 := cond_t h49 hb60
   refine Vg 32 80 7 true 31 hb60 (mv 6 (.slice ar7_0_0 r7.length nr7_0_0)) ?_
   refine Vg 33 3 7 true 31 hb60 (ln 32 80 ar7_0_0 r7.length nr7_0_0 9 1 16) ?_
   refine Vg 34 4 7 true 31 hb60 (run_gtr (t := 3) (t' := 3) (x := (.tmp 33)) (y := (.const (vi 0))) (k := .i64) (a := (r7.length : Int)) (b := 0) rfl rfl) ?_
   refine V 35 4 (p1 31 (.tmp 34) (.const (.bool false)) (.bool (decide ((r7.length : Int) > 0))) hb60) ?_
   obtain rfl := some_inj h61
   exact RWP.nil ⟨rfl, F3, hs43, le44, rfl, rfl, rfl, rfl, rfl, rfl, rfl, rfl, rfl, rfl, rfl⟩
  ·have h62 := cond_f h49 hb60
   refine Sk [32, 33, 34] 7 true 31 hb60 ?_
   refine V 35 4 (p0 31 (.tmp 34) (.const (.bool false)) (.bool false) hb60) ?_
   obtain rfl := some_inj h62
   exact RWP.nil ⟨rfl, F3, hs43, le44, rfl, rfl, rfl, rfl, rfl, rfl, rfl, rfl, rfl, rfl, rfl⟩
 ·rintro f w21 ⟨F2, hs22, le23, e25, e26, e27, e28, e29, e30, e31, e32, e33, e34, e35⟩
  refine thenQ_nrm ?_
  obtain ⟨j66, hj76, h77⟩ := bind_some h37
  refine CWP.cut (fun f w => ∃ (F4 : Mem) (aj66_0 : Option Addr) (nj66_0 : Nat), HS w0 F0 w F4 [(sb b18 #[(.pointer (some ⟨b15, 0, none⟩)), (.pointer (some ⟨b15, 1, none⟩)), (.pointer (some ⟨b15, 2, none⟩))] 110), (sb b15 #[(vi j66.2), (vi 0), (vi 0)] 54), (sb b4 #[(vi 0), (vi 0), (vi 0)] 54), (sb b1 (kLayout x0) 52)] ∧ Mem.le F2 F4 ∧ f.d = [] ∧ f 1 = (.string ⟨(x1).toArray⟩) ∧ f 2 = (.pointer (some ⟨b1, 0, none⟩)) ∧ f 4 = (.pointer (some ⟨b4, 0, none⟩)) ∧ f 6 = (.slice aj66_0 j66.1.length nj66_0) ∧ f 7 = (.pointer (some ⟨b15, 0, none⟩)) ∧ f 17 = (.slice (some ⟨b18, 0, none⟩) 3 3) ∧ f 18 = (vi 3) ∧ f 19 = (vi 0) ∧ LC j66.1.length nj66_0 ∧ SlA tStr F4 aj66_0 j66.1) ?_ ?_
  ·refine CWP.cond (t := j24) (by kernel_rfl) e35 (fun hb78 => ?_) (fun hb78 => ?_)
   ·have h79 := cond_t hj76 hb78
    refine Sq (Rg [0, 1, 2, 3, 4, 5, 6] ?_)
    refine V 36 110 (mv 9 (.pointer (some ⟨b15, 0, none⟩)) e31) ?_
    refine V 37 80 (mv 6 (.slice ar7_0_0 r7.length nr7_0_0) e29) ?_
    obtain ⟨x80, hx81, h83⟩ := bind_some h79
    obtain ⟨hi82, hx81'⟩ := idx_spec hx81
    obtain ⟨b84, o85, C86, E87, fz88, rfl, hF90, hE91⟩ := SlA.open (SlA.mono hsr7_0_0 le23) hx81'
    have hc93 := hE91 _ _ hx81'
    refine V 38 0 (run_index (t := 80) (x := (.tmp 37)) (y := (.const (vi 0))) (b := b84) (o := o85) (E := 9) (s := 1) (by_ := 16) rfl rfl (by kernel_rfl) hi82) ?_
    refine V 39 9 (lx 9 38 0 1 false 1 (.string ⟨(x80).toArray⟩) (hs22.pers _ _ hF90) hc93) ?_
    obtain ⟨r94, hr95, h96⟩ := bind_some h83
    refine Cl 40 3 78 #[(.tmp 39)] #[9] co_air_number hs22 (c_air_number N w21 F2 hs22.pers (x80) _ hr95) ?_
    intro v97 F5 w98 hs99 le100 hp101
    obtain rfl := hp101
    refine V 41 0 (run_nilCheck (x := (.tmp 36)) (a := ⟨b15, 0, none⟩) rfl) ?_
    refine RWP.store (ty := 0) (g := none) (by kernel_rfl) rfl (x := (.tmp 41)) (y := (.tmp 40)) (t := 3) (gg := false) (s := 1) (v := (vi r94)) (b := b15) (o := 0) (C := #[(vi 0), (vi 0), (vi 0)]) rfl rfl (by kernel_rfl) hs99 (k := 1) rfl rfl rfl rfl (C' := #[(vi r94), (vi 0), (vi 0)]) rfl (fun w102 (hs103 : HS w0 F0 w102 F5 [(sb b18 #[(.pointer (some ⟨b15, 0, none⟩)), (.pointer (some ⟨b15, 1, none⟩)), (.pointer (some ⟨b15, 2, none⟩))] 110), (sb b15 #[(vi r94), (vi 0), (vi 0)] 54), (sb b4 #[(vi 0), (vi 0), (vi 0)] 54), (sb b1 (kLayout x0) 52)]) => ?_)
    refine Nt ?_
    refine Rg [0, 1, 2] ?_
    refine V 42 80 (mv 6 (.slice (some ⟨b84, o85, none⟩) r7.length nr7_0_0) e29) ?_
    obtain ⟨r104, hr105, h106⟩ := bind_some h96
    obtain ⟨a107, n108, hb109, hs110, hrun111⟩ := part_val (P := Tryz.prog) (T := tStr) (lo := (some (.const (vi 1)))) (hi := none) (mx := none) (t := 80) (E := 9) (by_ := 16) (c := nr7_0_0) (a := (some ⟨b84, o85, none⟩)) (l := r7) (r := r104) (il := 1) (ih := (r7.length : Int)) (im := 0) (by kernel_rfl) (by kernel_rfl) hbr7_0_0 (SlA.mono hsr7_0_0 (le23.trans le100)) (fun h => by first | rfl | cases h) hr105
    refine V 43 80 (hrun111 (x := (.tmp 42)) rfl rfl rfl trivial) ?_
    refine V 6 80 (ma 43 (.slice a107 r104.length n108)) ?_
    refine RWP.nil ?_
    obtain rfl := some_inj h106
    exact .inl ⟨rfl, F5, a107, n108, hs103, le100, e25, e26, e27, e28, rfl, e30, e32, e33, e34, hb109, hs110⟩
   ·have h112 := cond_f hj76 hb78
    refine Sc ?_
    obtain rfl := some_inj h112
    exact .inl ⟨rfl, F2, ar7_0_0, nr7_0_0, hs22, (Mem.le.refl _), e25, e26, e27, e28, e29, e30, e32, e33, e34, hbr7_0_0, (SlA.mono hsr7_0_0 le23)⟩
  ·rintro f w63 ⟨F4, aj66_0, nj66_0, hs64, le65, e67, e68, e69, e70, e71, e72, e73, e74, e75, hbj66_0, hsj66_0⟩
   refine blockQ_nrm ?_
   refine thenQ_nrm ?_
   refine Rg [0, 1] ?_
   refine V 44 3 (runv (v1 := (vi 1)) (by rfl) (run_add (t := 3) (t' := 3) (x := (.tmp 19)) (y := (.const (vi 1))) (k := .i64) (a := 0) (b := 1) e75 rfl)) ?_
   refine V 19 3 (mv 44 (vi 1)) ?_
   refine Nt ?_
   refine URL.step ?_
   refine Sq (Rg [0] ?_)
   refine V 20 0 (runv (v1 := (.bool true)) (by rfl) (run_lss (t := 3) (t' := 3) (x := (.tmp 19)) (y := (.tmp 18)) (k := .i64) (a := 1) (b := 3) rfl e74)) ?_
   refine Nss ?_
   refine CWP.cond1 (t := true) (by kernel_rfl) rfl rfl ?_
   refine Sc ?_
   refine thenQ_nrm ?_
   refine Sq ?_
   refine Bk ?_
   refine Sq (Rg [0, 1, 2, 3, 4] ?_)
   refine V 21 3 (mv 19 (vi 1)) ?_
   refine V 22 0 (runv (v1 := (.pointer (some ⟨b18, 1, none⟩))) (by rfl) (run_index0 (t := 111) (x := (.tmp 17)) (y := (.tmp 19)) (b := b18) (nn := 3) (c := 3) (E := 110) (s := 1) (by_ := 8) (j := 1) e73 rfl (by kernel_rfl) (by decide))) ?_
   refine V 23 110 (ld 110 22 b18 1 false 1 (.pointer (some ⟨b15, 1, none⟩)) (hs64.ownAt (k := 0) rfl)) ?_
   refine V 8 3 (ma 21 (vi 1)) ?_
   refine V 9 110 (ma 23 (.pointer (some ⟨b15, 1, none⟩))) ?_
   refine Nss (Rg [0, 1, 2, 3, 4, 5, 6, 7, 8, 9, 10, 11] ?_)
   obtain ⟨j116, hj128, h129⟩ := bind_some h77
   refine RWP.cut (fun f w => ∃ (F6 : Mem), HS w0 F0 w F6 [(sb b18 #[(.pointer (some ⟨b15, 0, none⟩)), (.pointer (some ⟨b15, 1, none⟩)), (.pointer (some ⟨b15, 2, none⟩))] 110), (sb b15 #[(vi j66.2), (vi 0), (vi 0)] 54), (sb b4 #[(vi 0), (vi 0), (vi 0)] 54), (sb b1 (kLayout x0) 52)] ∧ Mem.le F4 F6 ∧ f.d = [] ∧ f 1 = (.string ⟨(x1).toArray⟩) ∧ f 2 = (.pointer (some ⟨b1, 0, none⟩)) ∧ f 4 = (.pointer (some ⟨b4, 0, none⟩)) ∧ f 6 = (.slice aj66_0 j66.1.length nj66_0) ∧ f 7 = (.pointer (some ⟨b15, 0, none⟩)) ∧ f 9 = (.pointer (some ⟨b15, 1, none⟩)) ∧ f 17 = (.slice (some ⟨b18, 0, none⟩) 3 3) ∧ f 18 = (vi 3) ∧ f 19 = (vi 1) ∧ f 35 = (.bool j116)) ?_ ?_
   ·refine V 24 52 (ld 52 2 b1 0 true 3 (.agg (kLayout x0)) (hs64.ownAt (k := 3) rfl) e69) ?_
    refine V 25 54 (ld 54 7 b15 0 true 3 (.agg #[(vi j66.2), (vi 0), (vi 0)]) (hs64.ownAt (k := 1) rfl) e72) ?_
    obtain ⟨r130, hr131, h132⟩ := bind_some hj128
    refine Cl 26 102 84 #[(.tmp 24), (.tmp 25)] #[52, 54] co_air_parts hs64 (c_air_parts N w63 F4 hs64.pers (({ Report := x0.Report, Serial := x0.Serial, Zone := x0.Zone } : Layout)) (({ Report := j66.2, Serial := 0, Zone := 0 } : Exchange)) _ hr131) ?_
    intro v133 F7 w134 hs135 le136 hp137
    obtain ⟨ar130_0_0, nr130_0_0, rfl, hbr130_0_0, hsr130_0_0⟩ := hp137
    refine V 27 3 (mv 8 (vi 1)) ?_
    obtain ⟨x138, hx139, h141⟩ := bind_some h132
    obtain ⟨hi140, hx139'⟩ := idx_spec hx139
    obtain ⟨b142, o143, C144, E145, fz146, rfl, hF148, hE149⟩ := SlA.open hsr130_0_0 hx139'
    have hc151 := hE149 _ _ hx139'
    refine V 28 0 (ix 102 26 27 b142 o143 105 4 32 hi140) ?_
    refine V 29 0 (fa 105 28 0 0 1 b142 (o143 + (1 : Int).toNat * 4) (o143 + (1 : Int).toNat * 4)) ?_
    refine V 30 4 (lx 4 29 0 4 false 1 (.bool x138.has_) (hs135.pers _ _ hF148) hc151) ?_
    refine V 31 4 (mv 30 (.bool x138.has_)) ?_
    refine RWP.split x138.has_ (fun hb152 => ?_) (fun hb152 => ?_)
    ·have h153 := cond_t h141 hb152
     refine Vg 32 80 7 true 31 hb152 (mv 6 (.slice aj66_0 j66.1.length nj66_0) e71) ?_
     refine Vg 33 3 7 true 31 hb152 (ln 32 80 aj66_0 j66.1.length nj66_0 9 1 16) ?_
     refine Vg 34 4 7 true 31 hb152 (run_gtr (t := 3) (t' := 3) (x := (.tmp 33)) (y := (.const (vi 0))) (k := .i64) (a := (j66.1.length : Int)) (b := 0) rfl rfl) ?_
     refine V 35 4 (p1 31 (.tmp 34) (.const (.bool false)) (.bool (decide ((j66.1.length : Int) > 0))) hb152) ?_
     obtain rfl := some_inj h153
     exact RWP.nil ⟨rfl, F7, hs135, le136, e67, e68, e69, e70, e71, e72, rfl, e73, e74, rfl, rfl⟩
    ·have h154 := cond_f h141 hb152
     refine Sk [32, 33, 34] 7 true 31 hb152 ?_
     refine V 35 4 (p0 31 (.tmp 34) (.const (.bool false)) (.bool false) hb152) ?_
     obtain rfl := some_inj h154
     exact RWP.nil ⟨rfl, F7, hs135, le136, e67, e68, e69, e70, e71, e72, rfl, e73, e74, rfl, rfl⟩
   ·rintro f w113 ⟨F6, hs114, le115, e117, e118, e119, e120, e121, e122, e123, e124, e125, e126, e127⟩
    refine thenQ_nrm ?_
    obtain ⟨j158, hj168, h169⟩ := bind_some h129
    refine CWP.cut (fun f w => ∃ (F8 : Mem) (aj158_0 : Option Addr) (nj158_0 : Nat), HS w0 F0 w F8 [(sb b18 #[(.pointer (some ⟨b15, 0, none⟩)), (.pointer (some ⟨b15, 1, none⟩)), (.pointer (some ⟨b15, 2, none⟩))] 110), (sb b15 #[(vi j66.2), (vi j158.2), (vi 0)] 54), (sb b4 #[(vi 0), (vi 0), (vi 0)] 54), (sb b1 (kLayout x0) 52)] ∧ Mem.le F6 F8 ∧ f.d = [] ∧ f 1 = (.string ⟨(x1).toArray⟩) ∧ f 2 = (.pointer (some ⟨b1, 0, none⟩)) ∧ f 4 = (.pointer (some ⟨b4, 0, none⟩)) ∧ f 6 = (.slice aj158_0 j158.1.length nj158_0) ∧ f 7 = (.pointer (some ⟨b15, 0, none⟩)) ∧ f 17 = (.slice (some ⟨b18, 0, none⟩) 3 3) ∧ f 18 = (vi 3) ∧ f 19 = (vi 1) ∧ LC j158.1.length nj158_0 ∧ SlA tStr F8 aj158_0 j158.1) ?_ ?_
    ·refine CWP.cond (t := j116) (by kernel_rfl) e127 (fun hb170 => ?_) (fun hb170 => ?_)
     ·have h171 := cond_t hj168 hb170
      refine Sq (Rg [0, 1, 2, 3, 4, 5, 6] ?_)
      refine V 36 110 (mv 9 (.pointer (some ⟨b15, 1, none⟩)) e123) ?_
      refine V 37 80 (mv 6 (.slice aj66_0 j66.1.length nj66_0) e121) ?_
      obtain ⟨x172, hx173, h175⟩ := bind_some h171
      obtain ⟨hi174, hx173'⟩ := idx_spec hx173
      obtain ⟨b176, o177, C178, E179, fz180, rfl, hF182, hE183⟩ := SlA.open (SlA.mono hsj66_0 le115) hx173'
      have hc185 := hE183 _ _ hx173'
      refine V 38 0 (run_index (t := 80) (x := (.tmp 37)) (y := (.const (vi 0))) (b := b176) (o := o177) (E := 9) (s := 1) (by_ := 16) rfl rfl (by kernel_rfl) hi174) ?_
      refine V 39 9 (lx 9 38 0 1 false 1 (.string ⟨(x172).toArray⟩) (hs114.pers _ _ hF182) hc185) ?_
      obtain ⟨r186, hr187, h188⟩ := bind_some h175
      refine Cl 40 3 78 #[(.tmp 39)] #[9] co_air_number hs114 (c_air_number N w113 F6 hs114.pers (x172) _ hr187) ?_
      intro v189 F9 w190 hs191 le192 hp193
      obtain rfl := hp193
      refine V 41 0 (run_nilCheck (x := (.tmp 36)) (a := ⟨b15, 1, none⟩) rfl) ?_
      refine RWP.store (ty := 0) (g := none) (by kernel_rfl) rfl (x := (.tmp 41)) (y := (.tmp 40)) (t := 3) (gg := false) (s := 1) (v := (vi r186)) (b := b15) (o := 1) (C := #[(vi j66.2), (vi 0), (vi 0)]) rfl rfl (by kernel_rfl) hs191 (k := 1) rfl rfl rfl rfl (C' := #[(vi j66.2), (vi r186), (vi 0)]) rfl (fun w194 (hs195 : HS w0 F0 w194 F9 [(sb b18 #[(.pointer (some ⟨b15, 0, none⟩)), (.pointer (some ⟨b15, 1, none⟩)), (.pointer (some ⟨b15, 2, none⟩))] 110), (sb b15 #[(vi j66.2), (vi r186), (vi 0)] 54), (sb b4 #[(vi 0), (vi 0), (vi 0)] 54), (sb b1 (kLayout x0) 52)]) => ?_)
      refine Nt ?_
      refine Rg [0, 1, 2] ?_
      refine V 42 80 (mv 6 (.slice (some ⟨b176, o177, none⟩) j66.1.length nj66_0) e121) ?_
      obtain ⟨r196, hr197, h198⟩ := bind_some h188
      obtain ⟨a199, n200, hb201, hs202, hrun203⟩ := part_val (P := Tryz.prog) (T := tStr) (lo := (some (.const (vi 1)))) (hi := none) (mx := none) (t := 80) (E := 9) (by_ := 16) (c := nj66_0) (a := (some ⟨b176, o177, none⟩)) (l := j66.1) (r := r196) (il := 1) (ih := (j66.1.length : Int)) (im := 0) (by kernel_rfl) (by kernel_rfl) hbj66_0 (SlA.mono hsj66_0 (le115.trans le192)) (fun h => by first | rfl | cases h) hr197
      refine V 43 80 (hrun203 (x := (.tmp 42)) rfl rfl rfl trivial) ?_
      refine V 6 80 (ma 43 (.slice a199 r196.length n200)) ?_
      refine RWP.nil ?_
      obtain rfl := some_inj h198
      exact .inl ⟨rfl, F9, a199, n200, hs195, le192, e117, e118, e119, e120, rfl, e122, e124, e125, e126, hb201, hs202⟩
     ·have h204 := cond_f hj168 hb170
      refine Sc ?_
      obtain rfl := some_inj h204
      exact .inl ⟨rfl, F6, aj66_0, nj66_0, hs114, (Mem.le.refl _), e117, e118, e119, e120, e121, e122, e124, e125, e126, hbj66_0, (SlA.mono hsj66_0 le115)⟩
    ·rintro f w155 ⟨F8, aj158_0, nj158_0, hs156, le157, e159, e160, e161, e162, e163, e164, e165, e166, e167, hbj158_0, hsj158_0⟩
     refine blockQ_nrm ?_
     refine thenQ_nrm ?_
     refine Rg [0, 1] ?_
     refine V 44 3 (runv (v1 := (vi 2)) (by rfl) (run_add (t := 3) (t' := 3) (x := (.tmp 19)) (y := (.const (vi 1))) (k := .i64) (a := 1) (b := 1) e167 rfl)) ?_
     refine V 19 3 (mv 44 (vi 2)) ?_
     refine Nt ?_
     refine URL.step ?_
     refine Sq (Rg [0] ?_)
     refine V 20 0 (runv (v1 := (.bool true)) (by rfl) (run_lss (t := 3) (t' := 3) (x := (.tmp 19)) (y := (.tmp 18)) (k := .i64) (a := 2) (b := 3) rfl e166)) ?_
     refine Nss ?_
     refine CWP.cond1 (t := true) (by kernel_rfl) rfl rfl ?_
     refine Sc ?_
     refine thenQ_nrm ?_
     refine Sq ?_
     refine Bk ?_
     refine Sq (Rg [0, 1, 2, 3, 4] ?_)
     refine V 21 3 (mv 19 (vi 2)) ?_
     refine V 22 0 (runv (v1 := (.pointer (some ⟨b18, 2, none⟩))) (by rfl) (run_index0 (t := 111) (x := (.tmp 17)) (y := (.tmp 19)) (b := b18) (nn := 3) (c := 3) (E := 110) (s := 1) (by_ := 8) (j := 2) e165 rfl (by kernel_rfl) (by decide))) ?_
     refine V 23 110 (ld 110 22 b18 2 false 1 (.pointer (some ⟨b15, 2, none⟩)) (hs156.ownAt (k := 0) rfl)) ?_
     refine V 8 3 (ma 21 (vi 2)) ?_
     refine V 9 110 (ma 23 (.pointer (some ⟨b15, 2, none⟩))) ?_
     refine Nss (Rg [0, 1, 2, 3, 4, 5, 6, 7, 8, 9, 10, 11] ?_)
     obtain ⟨j208, hj220, h221⟩ := bind_some h169
     refine RWP.cut (fun f w => ∃ (F10 : Mem), HS w0 F0 w F10 [(sb b18 #[(.pointer (some ⟨b15, 0, none⟩)), (.pointer (some ⟨b15, 1, none⟩)), (.pointer (some ⟨b15, 2, none⟩))] 110), (sb b15 #[(vi j66.2), (vi j158.2), (vi 0)] 54), (sb b4 #[(vi 0), (vi 0), (vi 0)] 54), (sb b1 (kLayout x0) 52)] ∧ Mem.le F8 F10 ∧ f.d = [] ∧ f 1 = (.string ⟨(x1).toArray⟩) ∧ f 2 = (.pointer (some ⟨b1, 0, none⟩)) ∧ f 4 = (.pointer (some ⟨b4, 0, none⟩)) ∧ f 6 = (.slice aj158_0 j158.1.length nj158_0) ∧ f 7 = (.pointer (some ⟨b15, 0, none⟩)) ∧ f 9 = (.pointer (some ⟨b15, 2, none⟩)) ∧ f 17 = (.slice (some ⟨b18, 0, none⟩) 3 3) ∧ f 18 = (vi 3) ∧ f 19 = (vi 2) ∧ f 35 = (.bool j208)) ?_ ?_
     ·refine V 24 52 (ld 52 2 b1 0 true 3 (.agg (kLayout x0)) (hs156.ownAt (k := 3) rfl) e161) ?_
      refine V 25 54 (ld 54 7 b15 0 true 3 (.agg #[(vi j66.2), (vi j158.2), (vi 0)]) (hs156.ownAt (k := 1) rfl) e164) ?_
      obtain ⟨r222, hr223, h224⟩ := bind_some hj220
      refine Cl 26 102 84 #[(.tmp 24), (.tmp 25)] #[52, 54] co_air_parts hs156 (c_air_parts N w155 F8 hs156.pers (({ Report := x0.Report, Serial := x0.Serial, Zone := x0.Zone } : Layout)) (({ Report := j66.2, Serial := j158.2, Zone := 0 } : Exchange)) _ hr223) ?_
      intro v225 F11 w226 hs227 le228 hp229
      obtain ⟨ar222_0_0, nr222_0_0, rfl, hbr222_0_0, hsr222_0_0⟩ := hp229
      refine V 27 3 (mv 8 (vi 2)) ?_
      obtain ⟨x230, hx231, h233⟩ := bind_some h224
      obtain ⟨hi232, hx231'⟩ := idx_spec hx231
      obtain ⟨b234, o235, C236, E237, fz238, rfl, hF240, hE241⟩ := SlA.open hsr222_0_0 hx231'
      have hc243 := hE241 _ _ hx231'
      refine V 28 0 (ix 102 26 27 b234 o235 105 4 32 hi232) ?_
      refine V 29 0 (fa 105 28 0 0 1 b234 (o235 + (2 : Int).toNat * 4) (o235 + (2 : Int).toNat * 4)) ?_
      refine V 30 4 (lx 4 29 0 4 false 1 (.bool x230.has_) (hs227.pers _ _ hF240) hc243) ?_
      refine V 31 4 (mv 30 (.bool x230.has_)) ?_
      refine RWP.split x230.has_ (fun hb244 => ?_) (fun hb244 => ?_)
      ·have h245 := cond_t h233 hb244
       refine Vg 32 80 7 true 31 hb244 (mv 6 (.slice aj158_0 j158.1.length nj158_0) e163) ?_
       refine Vg 33 3 7 true 31 hb244 (ln 32 80 aj158_0 j158.1.length nj158_0 9 1 16) ?_
       refine Vg 34 4 7 true 31 hb244 (run_gtr (t := 3) (t' := 3) (x := (.tmp 33)) (y := (.const (vi 0))) (k := .i64) (a := (j158.1.length : Int)) (b := 0) rfl rfl) ?_
       refine V 35 4 (p1 31 (.tmp 34) (.const (.bool false)) (.bool (decide ((j158.1.length : Int) > 0))) hb244) ?_
       obtain rfl := some_inj h245
       exact RWP.nil ⟨rfl, F11, hs227, le228, e159, e160, e161, e162, e163, e164, rfl, e165, e166, rfl, rfl⟩
      ·have h246 := cond_f h233 hb244
       refine Sk [32, 33, 34] 7 true 31 hb244 ?_
       refine V 35 4 (p0 31 (.tmp 34) (.const (.bool false)) (.bool false) hb244) ?_
       obtain rfl := some_inj h246
       exact RWP.nil ⟨rfl, F11, hs227, le228, e159, e160, e161, e162, e163, e164, rfl, e165, e166, rfl, rfl⟩
     ·rintro f w205 ⟨F10, hs206, le207, e209, e210, e211, e212, e213, e214, e215, e216, e217, e218, e219⟩
      refine thenQ_nrm ?_
      obtain ⟨j250, hj260, h261⟩ := bind_some h221
      refine CWP.cut (fun f w => ∃ (F12 : Mem) (aj250_0 : Option Addr) (nj250_0 : Nat), HS w0 F0 w F12 [(sb b18 #[(.pointer (some ⟨b15, 0, none⟩)), (.pointer (some ⟨b15, 1, none⟩)), (.pointer (some ⟨b15, 2, none⟩))] 110), (sb b15 #[(vi j66.2), (vi j158.2), (vi j250.2)] 54), (sb b4 #[(vi 0), (vi 0), (vi 0)] 54), (sb b1 (kLayout x0) 52)] ∧ Mem.le F10 F12 ∧ f.d = [] ∧ f 1 = (.string ⟨(x1).toArray⟩) ∧ f 2 = (.pointer (some ⟨b1, 0, none⟩)) ∧ f 4 = (.pointer (some ⟨b4, 0, none⟩)) ∧ f 6 = (.slice aj250_0 j250.1.length nj250_0) ∧ f 7 = (.pointer (some ⟨b15, 0, none⟩)) ∧ f 17 = (.slice (some ⟨b18, 0, none⟩) 3 3) ∧ f 18 = (vi 3) ∧ f 19 = (vi 2) ∧ LC j250.1.length nj250_0 ∧ SlA tStr F12 aj250_0 j250.1) ?_ ?_
      ·refine CWP.cond (t := j208) (by kernel_rfl) e219 (fun hb262 => ?_) (fun hb262 => ?_)
       ·have h263 := cond_t hj260 hb262
        refine Sq (Rg [0, 1, 2, 3, 4, 5, 6] ?_)
        refine V 36 110 (mv 9 (.pointer (some ⟨b15, 2, none⟩)) e215) ?_
        refine V 37 80 (mv 6 (.slice aj158_0 j158.1.length nj158_0) e213) ?_
        obtain ⟨x264, hx265, h267⟩ := bind_some h263
        obtain ⟨hi266, hx265'⟩ := idx_spec hx265
        obtain ⟨b268, o269, C270, E271, fz272, rfl, hF274, hE275⟩ := SlA.open (SlA.mono hsj158_0 le207) hx265'
        have hc277 := hE275 _ _ hx265'
        refine V 38 0 (run_index (t := 80) (x := (.tmp 37)) (y := (.const (vi 0))) (b := b268) (o := o269) (E := 9) (s := 1) (by_ := 16) rfl rfl (by kernel_rfl) hi266) ?_
        refine V 39 9 (lx 9 38 0 1 false 1 (.string ⟨(x264).toArray⟩) (hs206.pers _ _ hF274) hc277) ?_
        obtain ⟨r278, hr279, h280⟩ := bind_some h267
        refine Cl 40 3 78 #[(.tmp 39)] #[9] co_air_number hs206 (c_air_number N w205 F10 hs206.pers (x264) _ hr279) ?_
        intro v281 F13 w282 hs283 le284 hp285
        obtain rfl := hp285
        refine V 41 0 (run_nilCheck (x := (.tmp 36)) (a := ⟨b15, 2, none⟩) rfl) ?_
        refine RWP.store (ty := 0) (g := none) (by kernel_rfl) rfl (x := (.tmp 41)) (y := (.tmp 40)) (t := 3) (gg := false) (s := 1) (v := (vi r278)) (b := b15) (o := 2) (C := #[(vi j66.2), (vi j158.2), (vi 0)]) rfl rfl (by kernel_rfl) hs283 (k := 1) rfl rfl rfl rfl (C' := #[(vi j66.2), (vi j158.2), (vi r278)]) rfl (fun w286 (hs287 : HS w0 F0 w286 F13 [(sb b18 #[(.pointer (some ⟨b15, 0, none⟩)), (.pointer (some ⟨b15, 1, none⟩)), (.pointer (some ⟨b15, 2, none⟩))] 110), (sb b15 #[(vi j66.2), (vi j158.2), (vi r278)] 54), (sb b4 #[(vi 0), (vi 0), (vi 0)] 54), (sb b1 (kLayout x0) 52)]) => ?_)
        refine Nt ?_
        refine Rg [0, 1, 2] ?_
        refine V 42 80 (mv 6 (.slice (some ⟨b268, o269, none⟩) j158.1.length nj158_0) e213) ?_
        obtain ⟨r288, hr289, h290⟩ := bind_some h280
        obtain ⟨a291, n292, hb293, hs294, hrun295⟩ := part_val (P := Tryz.prog) (T := tStr) (lo := (some (.const (vi 1)))) (hi := none) (mx := none) (t := 80) (E := 9) (by_ := 16) (c := nj158_0) (a := (some ⟨b268, o269, none⟩)) (l := j158.1) (r := r288) (il := 1) (ih := (j158.1.length : Int)) (im := 0) (by kernel_rfl) (by kernel_rfl) hbj158_0 (SlA.mono hsj158_0 (le207.trans le284)) (fun h => by first | rfl | cases h) hr289
        refine V 43 80 (hrun295 (x := (.tmp 42)) rfl rfl rfl trivial) ?_
        refine V 6 80 (ma 43 (.slice a291 r288.length n292)) ?_
        refine RWP.nil ?_
        obtain rfl := some_inj h290
        exact .inl ⟨rfl, F13, a291, n292, hs287, le284, e209, e210, e211, e212, rfl, e214, e216, e217, e218, hb293, hs294⟩
       ·have h296 := cond_f hj260 hb262
        refine Sc ?_
        obtain rfl := some_inj h296
        exact .inl ⟨rfl, F10, aj158_0, nj158_0, hs206, (Mem.le.refl _), e209, e210, e211, e212, e213, e214, e216, e217, e218, hbj158_0, (SlA.mono hsj158_0 le207)⟩
      ·rintro f w247 ⟨F12, aj250_0, nj250_0, hs248, le249, e251, e252, e253, e254, e255, e256, e257, e258, e259, hbj250_0, hsj250_0⟩
       refine blockQ_nrm ?_
       refine thenQ_nrm ?_
       refine Rg [0, 1] ?_
       refine V 44 3 (runv (v1 := (vi 3)) (by rfl) (run_add (t := 3) (t' := 3) (x := (.tmp 19)) (y := (.const (vi 1))) (k := .i64) (a := 2) (b := 1) e259 rfl)) ?_
       refine V 19 3 (mv 44 (vi 3)) ?_
       refine Nt ?_
       refine URL.step ?_
       refine Sq (Rg [0] ?_)
       refine V 20 0 (runv (v1 := (.bool false)) (by rfl) (run_lss (t := 3) (t' := 3) (x := (.tmp 19)) (y := (.tmp 18)) (k := .i64) (a := 3) (b := 3) rfl e258)) ?_
       refine Nss ?_
       refine CWP.cond0 (t := false) (by kernel_rfl) rfl rfl ?_
       refine CWP.exit (by kernel_rfl) ?_
       refine thenQ_ex ?_
       refine thenQ_ex ?_
       refine blockQ_hit rfl ?_
       refine thenQ_nrm ?_
       refine Sq ?_
       refine Sq (Rg [0, 1, 2, 3, 4, 5, 6, 7] ?_)
       refine V 46 52 (ld 52 2 b1 0 true 3 (.agg (kLayout x0)) (hs248.ownAt (k := 3) rfl) e253) ?_
       refine V 47 54 (ld 54 7 b15 0 true 3 (.agg #[(vi j66.2), (vi j158.2), (vi j250.2)]) (hs248.ownAt (k := 1) rfl) e256) ?_
       obtain ⟨r297, hr298, h299⟩ := bind_some h261
       refine Cl 48 24 44 #[(.tmp 46), (.tmp 47)] #[52, 54] co_air_PrintExchange hs248 (c_air_PrintExchange N w247 F12 hs248.pers (hG.mono ((((((le13.trans le23).trans le65).trans le115).trans le157).trans le207).trans le249)) (({ Report := x0.Report, Serial := x0.Serial, Zone := x0.Zone } : Layout)) (({ Report := j66.2, Serial := j158.2, Zone := j250.2 } : Exchange)) _ hr298) ?_
       intro v300 F14 w301 hs302 le303 hp304
       obtain rfl := hp304
       refine V 45 24 (mv 48 (.tuple #[(.string ⟨(r297.1).toArray⟩), (vi r297.2)])) ?_
       refine V 49 9 (ex 45 0 (.string ⟨(r297.1).toArray⟩) (vs := #[(.string ⟨(r297.1).toArray⟩), (vi r297.2)])) ?_
       refine V 50 23 (ex 45 1 (vi r297.2) (vs := #[(.string ⟨(r297.1).toArray⟩), (vi r297.2)])) ?_
       refine V 10 9 (ma 49 (.string ⟨(r297.1).toArray⟩)) ?_
       refine V 11 23 (ma 50 (vi r297.2)) ?_
       refine Nss (Rg [0, 1, 2, 3, 4, 5, 6] ?_)
       refine RWP.cut (fun f w => ∃ (F15 : Mem), HS w0 F0 w F15 [(sb b15 #[(vi j66.2), (vi j158.2), (vi j250.2)] 54), (sb b4 #[(vi 0), (vi 0), (vi 0)] 54)] ∧ Mem.le F14 F15 ∧ f.d = [] ∧ f 4 = (.pointer (some ⟨b4, 0, none⟩)) ∧ f 7 = (.pointer (some ⟨b15, 0, none⟩)) ∧ f 57 = (.bool ((r297.2 != 0) || (r297.1 != x1)))) ?_ ?_
       ·refine V 51 23 (mv 11 (vi r297.2)) ?_
        refine V 52 4 (run_neq (t := 23) (t' := 23) (x := (.tmp 51)) (y := (.const (vi 0))) (k := .i64) (a := r297.2) (b := 0) rfl rfl) ?_
        refine V 53 4 (mv 52 (.bool (r297.2 != 0))) ?_
        refine RWP.split (r297.2 != 0) (fun hb312 => ?_) (fun hb312 => ?_)
        ·refine Sk [54, 55, 56] 2 false 53 hb312 ?_
         refine V 57 4 (p1 53 (.const (.bool true)) (.tmp 56) (.bool true) hb312) ?_
         have hs313 : HS w0 F0 w301 F14 [(sb b15 #[(vi j66.2), (vi j158.2), (vi j250.2)] 54), (sb b4 #[(vi 0), (vi 0), (vi 0)] 54), (sb b1 (kLayout x0) 52)] := hs302.drop 0
         have hs314 : HS w0 F0 w301 F14 [(sb b15 #[(vi j66.2), (vi j158.2), (vi j250.2)] 54), (sb b4 #[(vi 0), (vi 0), (vi 0)] 54)] := hs313.drop 2
         exact RWP.nil ⟨rfl, F14, hs314, (Mem.le.refl _), e251, e254, e256, (congrArg Value.bool (or_t hb312 (rfl)))⟩
        ·refine Vg 54 9 2 false 53 hb312 (mv 10 (.string ⟨(r297.1).toArray⟩)) ?_
         refine Vg 55 9 2 false 53 hb312 (mv 1 (.string ⟨(x1).toArray⟩) e252) ?_
         refine Vg 56 4 2 false 53 hb312 (run_scmp (t := 9) (t' := 9) (x := (.tmp 54)) (y := (.tmp 55)) (op := .neq) (a := r297.1) (b := x1) (v := (r297.1 != x1)) rfl rfl rfl) ?_
         refine V 57 4 (p0 53 (.const (.bool true)) (.tmp 56) (.bool (r297.1 != x1)) hb312) ?_
         have hs315 : HS w0 F0 w301 F14 [(sb b15 #[(vi j66.2), (vi j158.2), (vi j250.2)] 54), (sb b4 #[(vi 0), (vi 0), (vi 0)] 54), (sb b1 (kLayout x0) 52)] := hs302.drop 0
         have hs316 : HS w0 F0 w301 F14 [(sb b15 #[(vi j66.2), (vi j158.2), (vi j250.2)] 54), (sb b4 #[(vi 0), (vi 0), (vi 0)] 54)] := hs315.drop 2
         exact RWP.nil ⟨rfl, F14, hs316, (Mem.le.refl _), e251, e254, e256, (congrArg Value.bool (or_f hb312 (rfl)))⟩
       ·rintro f w305 ⟨F15, hs306, le307, e308, e309, e310, e311⟩
        refine thenQ_nrm ?_
        refine CWP.cond (t := ((r297.2 != 0) || (r297.1 != x1))) (by kernel_rfl) e311 (fun hb317 => ?_) (fun hb317 => ?_)
        ·have h318 := cond_t h299 hb317
         refine Sq (Rg [0, 1, 2] ?_)
         refine V 58 54 (run_build2 (t := 54) (parts := #[]) (vs := []) (rfl) (cs := [(vi 0), (vi 0), (vi 0)]) (by kernel_rfl)) ?_
         refine RWP.store (ty := 0) (g := none) (by kernel_rfl) rfl (x := (.tmp 4)) (y := (.tmp 58)) (t := 54) (gg := true) (s := 3) (v := (.agg #[(vi 0), (vi 0), (vi 0)])) (b := b4) (o := 0) (C := #[(vi 0), (vi 0), (vi 0)]) e309 rfl (by kernel_rfl) hs306 (k := 1) rfl rfl rfl rfl (C' := #[(vi 0), (vi 0), (vi 0)]) rfl (fun w319 (hs320 : HS w0 F0 w319 F15 [(sb b15 #[(vi j66.2), (vi j158.2), (vi j250.2)] 54), (sb b4 #[(vi 0), (vi 0), (vi 0)] 54)]) => ?_)
         refine V 5 23 (mc (vi 1) (vi 1)) ?_
         refine Nt ?_
         refine CWP.ret (by kernel_rfl) ?_
         refine thenQ_ret ?_
         have hfin := some_inj h318
         subst hfin
         exact ⟨e308, (.tuple #[(.agg #[(vi 0), (vi 0), (vi 0)]), (vi 1)]), res_of (l := [.cell 4 54, .tmp 5]) (by kernel_rfl) (vs := [(.agg #[(vi 0), (vi 0), (vi 0)]), (vi 1)]) ⟨b4, 0, e309, run_loadVar' (t := 54) (g := true) (s := 3) (by kernel_rfl) (hs320.ownAt (k := 1) rfl) rfl (by decide), ⟨rfl, trivial⟩⟩, (.tuple #[(.agg #[(vi 0), (vi 0), (vi 0)]), (vi 1)]), F15, rfl, hs320.clear, rfl⟩
        ·have h321 := cond_f h299 hb317
         refine Sc ?_
         refine thenQ_nrm ?_
         refine Sq (Rg [0, 1, 2] ?_)
         refine V 59 54 (ld 54 7 b15 0 true 3 (.agg #[(vi j66.2), (vi j158.2), (vi j250.2)]) (hs306.ownAt (k := 0) rfl) e310) ?_
         refine RWP.store (ty := 0) (g := none) (by kernel_rfl) rfl (x := (.tmp 4)) (y := (.tmp 59)) (t := 54) (gg := true) (s := 3) (v := (.agg #[(vi j66.2), (vi j158.2), (vi j250.2)])) (b := b4) (o := 0) (C := #[(vi 0), (vi 0), (vi 0)]) e309 rfl (by kernel_rfl) hs306 (k := 1) rfl rfl rfl rfl (C' := #[(vi j66.2), (vi j158.2), (vi j250.2)]) rfl (fun w322 (hs323 : HS w0 F0 w322 F15 [(sb b15 #[(vi j66.2), (vi j158.2), (vi j250.2)] 54), (sb b4 #[(vi j66.2), (vi j158.2), (vi j250.2)] 54)]) => ?_)
         refine V 5 23 (mc (vi 0) (vi 0)) ?_
         refine Nt ?_
         refine CWP.ret (by kernel_rfl) ?_
         have hfin := some_inj h321
         subst hfin
         exact ⟨e308, (.tuple #[(.agg #[(vi j66.2), (vi j158.2), (vi j250.2)]), (vi 0)]), res_of (l := [.cell 4 54, .tmp 5]) (by kernel_rfl) (vs := [(.agg #[(vi j66.2), (vi j158.2), (vi j250.2)]), (vi 0)]) ⟨b4, 0, e309, run_loadVar' (t := 54) (g := true) (s := 3) (by kernel_rfl) (hs323.ownAt (k := 1) rfl) rfl (by decide), ⟨rfl, trivial⟩⟩, (.tuple #[(.agg #[(vi j66.2), (vi j158.2), (vi j250.2)]), (vi 0)]), F15, rfl, hs323.clear, rfl⟩
end Go.Proofs.YtlddakefmfcblaaGreatDoor
namespace Go.Proofs.YtlddakefmfcblaaGreatDoor
open Go.Proofs
end Go.Proofs.YtlddakefmfcblaaGreatDoor
namespace Go.Proofs.YtlddakefmfcblaaGreatDoor
open Go.Lib (decDigits)
theorem ne_decB (s : List UInt8) : (s != []) = !decide (s = []) := by
 cases s <;> rfl
def jn (l : List (List UInt8)) : List UInt8 := Go.Lib.join l [32]
theorem jn_nil : jn [] = [] := rfl
theorem jn_one (x : List UInt8) : jn [x] = x := Go.Lib.join_one x [32]
theorem pcs_jn : ∀ (r : List (List UInt8)) (x : List UInt8), (32 : UInt8) ∉ x → (∀ y, y ∈ r → (32 : UInt8) ∉ y) → pcs 32 (jn (x :: r)) = x :: r
 | [], x, hx, _ => by rw [jn_one, pcs_none hx]
 | y :: r, x, hx, hr => by
  have ih := pcs_jn r y (hr y (by simp)) (fun z hz => hr z (by simp [hz]))
  have : jn (x :: y :: r) = x ++ 32 :: jn (y :: r) := by
   unfold jn
   rw [Go.Lib.join_cons, Go.Lib.join_cons]
   unfold Go.Lib.joinTail
   simp
  rw [this, pcs_app hx, ih]
section
variable {N : Nat}
theorem m_or2 (a b : List UInt8) (hN : 4294967300 < N) : cmp_Or_string N [a, b] = some (if a = [] then b else a) := by
 obtain ⟨M, rfl⟩ : ∃ M, N = M + 3 := ⟨N - 3, by omega⟩
 unfold cmp_Or_string
 by_cases ha : a = []
 ·rw [if_pos ha]
  by_cases hb : b = []
  ·subst ha; subst hb; rfl
  ·have e1 : cmp_Or_string_L0 (M + 3) [a, b] 0 = some (.next 1) := by subst ha; rfl
   have e2 : cmp_Or_string_L0 (M + 3) [a, b] 1 = some (.ret b) := by
    show (bif (b != ([] : List UInt8)) then some (.ret b) else some (.next (W64 (1 + 1)))) = some (Flow.ret b)
    rw [ne_decB, decide_eq_false hb]; rfl
   rw [iter, e1]
   simp only
   rw [iter, e2]
   rfl
 ·rw [if_neg ha]
  have e1 : cmp_Or_string_L0 (M + 3) [a, b] 0 = some (.ret a) := by
   show (bif (a != ([] : List UInt8)) then some (.ret a) else some (.next (W64 (0 + 1)))) = some (Flow.ret a)
   rw [ne_decB, decide_eq_false ha]; rfl
  rw [iter, e1]
  rfl
theorem m_contains_part {l : List air_part} {p : air_part → Option Bool} (F : air_part → Bool) (hp : ∀ x, x ∈ l → p x = some (F x)) (hl : l.length < 4000000000) (hN : 4294967300 < N) : slices_ContainsFunc_air_part_air_part N l p = some (l.any F) := by
 unfold slices_ContainsFunc_air_part_air_part slices_IndexFunc_air_part_air_part
 rcases iter_check2 (body := slices_IndexFunc_air_part_air_part_L0 N l p) (n := l.length) (fun i => !((l[i]?.map F).getD false)) (fun i => (i : Int)) (by
   intro i hi
   unfold slices_IndexFunc_air_part_air_part_L0
   rw [lt_dec hi, cond_true, idx_nat hi, Option.bind_some, hp _ (List.getElem_mem hi), Option.bind_some, w64s i (by omega), List.getElem?_eq_getElem hi]
   simp only [Option.map_some, Option.getD_some]
   cases F l[i] <;> rfl) (by
   unfold slices_IndexFunc_air_part_air_part_L0
   rw [lt_dec', cond_false]) (N := N) (by omega) with ⟨g1, g2⟩ | ⟨i, hi, g1, _, g2⟩
 ·rw [g2]
  have : l.any F = false := by
   rw [List.any_eq_false]
   intro x hx
   obtain ⟨i, hi, rfl⟩ := List.getElem_of_mem hx
   have := g1 i hi
   rw [List.getElem?_eq_getElem hi] at this
   simpa using this
  rw [this]; rfl
 ·rw [g2]
  have : l.any F = true := by
   rw [List.any_eq_true]
   rw [List.getElem?_eq_getElem hi] at g1
   exact ⟨l[i], List.getElem_mem hi, by simpa using g1⟩
  rw [this]
  show some (decide ((i : Int) ≥ 0)) = some true
  rw [decide_eq_true (by omega)]
def hasB (h : Bool) (n m : Int) : Bool := bif h then (decide (1 ≤ n) && decide (n ≤ m)) else n == 0
def validE (L : Layout) (E : Exchange) : Bool := hasB L.Report E.Report 599 && (hasB L.Serial E.Serial 99999 && hasB L.Zone E.Zone 99)
theorem m_part (P : air_part) : air_ValidExchange_1 N P = some (!hasB P.has_ P.n_ P.most_) := by
 unfold air_ValidExchange_1 hasB
 rw [m_within, Option.bind_some]
 obtain ⟨h, n, m, d⟩ := P
 simp only
 cases h with
 | true => cases (decide (1 ≤ n) && decide (n ≤ m)) <;> rfl
 | false =>
  by_cases hn : n = 0
  ·subst hn
   rw [show (decide ((1 : Int) ≤ 0) && decide (0 ≤ m)) = false by rw [decide_eq_false (by omega)]; rfl]
   rfl
  ·have e1 : (n != 0) = true := by simpa using hn
   have e2 : (n == 0) = false := by simpa using hn
   rw [e1, e2]
   cases (decide (1 ≤ n) && decide (n ≤ m)) <;> rfl
theorem s_ValidX (L : Layout) (E : Exchange) (hN : 4294967300 < N) : air_ValidExchange N L E = some (validE L E) := by
 unfold air_ValidExchange
 unfold air_parts
 rw [Option.bind_some, m_contains_part (fun P => !hasB P.has_ P.n_ P.most_) (fun x _ => m_part x) (by simp) hN, Option.bind_some]
 unfold validE
 simp
def fs (L : Layout) (E : Exchange) : List (List UInt8) := (if L.Report = true then [dP 1 E.Report.toNat] else []) ++ ((if L.Serial = true then [dP 3 E.Serial.toNat] else []) ++ (if L.Zone = true then [dP 2 E.Zone.toNat] else []))
def xText (L : Layout) (E : Exchange) : List UInt8 := if fs L E = [] then [45] else jn (fs L E)
def printX (L : Layout) (E : Exchange) : List UInt8 × Int := if validE L E = true then (xText L E, 0) else ([], 1)
structure OkE (L : Layout) (E : Exchange) : Prop where
 r : if L.Report = true then 1 ≤ E.Report ∧ E.Report ≤ 599 else E.Report = 0
 s : if L.Serial = true then 1 ≤ E.Serial ∧ E.Serial ≤ 99999 else E.Serial = 0
 z : if L.Zone = true then 1 ≤ E.Zone ∧ E.Zone ≤ 99 else E.Zone = 0
theorem okE {L : Layout} {E : Exchange} (h : validE L E = true) : OkE L E := by
 unfold validE hasB at h
 simp only [Bool.and_eq_true] at h
 obtain ⟨h1, h2, h3⟩ := h
 constructor
 ·cases hL : L.Report <;> rw [hL] at h1 <;> simpa using h1
 ·cases hL : L.Serial <;> rw [hL] at h2 <;> simpa using h2
 ·cases hL : L.Zone <;> rw [hL] at h3 <;> simpa using h3
theorem OkE.le {L : Layout} {E : Exchange} (h : OkE L E) : (0 ≤ E.Report ∧ E.Report ≤ 599) ∧ (0 ≤ E.Serial ∧ E.Serial ≤ 99999) ∧ 0 ≤ E.Zone ∧ E.Zone ≤ 99 := by
 obtain ⟨h1, h2, h3⟩ := h
 refine ⟨?_, ?_, ?_⟩
 ·split at h1 <;> omega
 ·split at h2 <;> omega
 ·split at h3 <;> omega
theorem fs_word {L : Layout} {E : Exchange} (h : OkE L E) : ∀ w, w ∈ fs L E → w.length ≤ 5 ∧ w.all isD = true ∧ 1 ≤ w.length := by
 obtain ⟨h1, h2, h3⟩ := h.le
 intro w hw
 unfold fs at hw
 simp only [List.mem_append] at hw
 have l1 := dP_lenle (k := 1) (j := 2) (u := E.Report.toNat) (by omega)
 have l2 := dP_lenle (k := 3) (j := 4) (u := E.Serial.toNat) (by omega)
 have l3 := dP_lenle (k := 2) (j := 1) (u := E.Zone.toNat) (by omega)
 rcases hw with hw | hw | hw
 ·split at hw
  ·simp at hw; subst hw; exact ⟨by omega, dP_all _ _, (dP_len _ _).2⟩
  ·cases hw
 ·split at hw
  ·simp at hw; subst hw; exact ⟨by omega, dP_all _ _, (dP_len _ _).2⟩
  ·cases hw
 ·split at hw
  ·simp at hw; subst hw; exact ⟨by omega, dP_all _ _, (dP_len _ _).2⟩
  ·cases hw
theorem fs_len (L : Layout) (E : Exchange) : (fs L E).length ≤ 3 := by
 unfold fs
 split <;> split <;> split <;> simp
theorem jn_len : ∀ l : List (List UInt8), (∀ w, w ∈ l → w.length ≤ 5) → (jn l).length ≤ l.length * 6
 | [], _ => by simp [jn_nil]
 | [x], h => by rw [jn_one]; have := h x (by simp); simp; omega
 | x :: y :: r, h => by
  have ih := jn_len (y :: r) (fun w hw => h w (List.mem_cons_of_mem _ hw))
  have hx := h x (by simp)
  have : jn (x :: y :: r) = x ++ 32 :: jn (y :: r) := by
   unfold jn
   rw [Go.Lib.join_cons, Go.Lib.join_cons]
   unfold Go.Lib.joinTail
   simp
  rw [this, List.length_append, List.length_cons, List.length_cons (a := x)]
  omega
theorem fs_jn {L : Layout} {E : Exchange} (h : OkE L E) : (jn (fs L E)).length ≤ 18 := by
 have := jn_len (fs L E) (fun w hw => (fs_word h w hw).1)
 have := fs_len L E
 omega
theorem jn_ne {l : List (List UInt8)} (h : ∀ w, w ∈ l → 1 ≤ w.length) : jn l = [] ↔ l = [] := by
 constructor
 ·intro hj
  match l, h, hj with
  | [], _, _ => rfl
  | x :: r, h, hj =>
   exfalso
   unfold jn at hj
   rw [Go.Lib.join_cons] at hj
   have := h x (by simp)
   rw [List.append_eq_nil_iff] at hj
   rw [hj.1] at this
   exact absurd this (by decide)
 ·rintro rfl; rfl
theorem padI {n : Int} {k : Nat} (h0 : 0 ≤ n) (h1 : n ≤ 1000000000) (hk : k ≤ 100) : air_padded N n (k : Int) = some (dP k n.toNat) := by
 obtain ⟨u, rfl⟩ : ∃ u : Nat, n = u := ⟨n.toNat, by omega⟩
 exact m_padded u k (by omega) hk
def fsAt (L : Layout) (E : Exchange) (i : Nat) : List (List UInt8) := if i = 0 then (if L.Report = true then [dP 1 E.Report.toNat] else []) else if i = 1 then (if L.Serial = true then [dP 3 E.Serial.toNat] else []) else (if L.Zone = true then [dP 2 E.Zone.toNat] else [])
theorem fs_cat (L : Layout) (E : Exchange) : cat 3 (fsAt L E) = fs L E := by
 rw [cat_succ, cat_succ, cat_succ]
 unfold fs
 rw [← List.append_assoc]
 rfl
theorem fsAt_len (L : Layout) (E : Exchange) (i : Nat) : (fsAt L E i).length ≤ 1 := by
 unfold fsAt
 split
 ·split <;> simp
 ·split <;> split <;> simp
theorem s_PrintX (L : Layout) (E : Exchange) (hN : 4294967300 < N) : air_PrintExchange N L E = some (printX L E) := by
 unfold air_PrintExchange printX
 rw [s_ValidX L E hN, Option.bind_some]
 cases hv : validE L E with
 | false => rfl
 | true =>
  have ok := okE hv
  obtain ⟨h1, h2, h3⟩ := ok.le
  rw [Bool.not_true, cond_false, if_pos rfl]
  unfold air_parts
  rw [Option.bind_some]
  generalize hP : ([_, _, _] : List air_part) = P
  have hstep : ∀ (i : Nat) (s : List (List UInt8)), i < 3 → s.length + 1 ≤ 0 + 3 * 1 → air_PrintExchange_L0 N L E true P (s, (i : Int)) = some (.next (s ++ fsAt L E i, ((i + 1 : Nat) : Int))) := by
   intro i s hi hs
   have p1 : air_padded N E.Report 1 = some (dP 1 E.Report.toNat) := padI (k := 1) h1.1 (by omega) (by omega)
   have p2 : air_padded N E.Serial 3 = some (dP 3 E.Serial.toNat) := padI (k := 3) h2.1 (by omega) (by omega)
   have p3 : air_padded N E.Zone 2 = some (dP 2 E.Zone.toNat) := padI (k := 2) h3.1 (by omega) (by omega)
   have ha : ∀ w : List UInt8, apnd s [w] = some (s ++ [w]) := fun w => apnd_ok (by simp; omega)
   unfold air_PrintExchange_L0
   subst hP
   simp only
   rw [w64s i (by omega)]
   match i, hi with
   | 0, _ =>
    show ((bif L.Report then ((air_padded N E.Report 1).bind fun r88 => ((apnd s [r88]).bind fun r101 => some r101)) else some s).bind fun j78 => some (Flow.next (j78, _))) = _
    rw [p1, Option.bind_some, ha]
    unfold fsAt
    cases L.Report <;> simp
   | 1, _ =>
    show ((bif L.Serial then ((air_padded N E.Serial 3).bind fun r88 => ((apnd s [r88]).bind fun r101 => some r101)) else some s).bind fun j78 => some (Flow.next (j78, _))) = _
    rw [p2, Option.bind_some, ha]
    unfold fsAt
    cases L.Serial <;> simp
   | 2, _ =>
    show ((bif L.Zone then ((air_padded N E.Zone 2).bind fun r88 => ((apnd s [r88]).bind fun r101 => some r101)) else some s).bind fun j78 => some (Flow.next (j78, _))) = _
    rw [p3, Option.bind_some, ha]
    unfold fsAt
    cases L.Zone <;> simp
  have hend : ∀ s : List (List UInt8), air_PrintExchange_L0 N L E true P (s, ((3 : Nat) : Int)) = some (.done (s, ((3 : Nat) : Int))) := by
   intro s
   subst hP
   rfl
  rw [iter_cat' (n := 3) 1 (fsAt L E) (fun i _ => fsAt_len L E i) (s0 := []) hstep hend (by omega), fs_cat]
  simp only [List.nil_append, Option.bind_some, Flow.k]
  have hj := fs_jn ok
  have hl := fs_len L E
  have e1 : strings_Join N (fs L E) [32] = some (jn (fs L E)) := by
   unfold strings_Join
   exact if_pos ⟨by omega, by unfold jn at hj; omega⟩
  rw [e1, Option.bind_some, m_or2 _ _ hN, Option.bind_some]
  unfold xText
  have := jn_ne (fun w hw => (fs_word ok w hw).2.2)
  by_cases hf : fs L E = []
  ·rw [if_pos hf, if_pos (this.2 hf)]
  ·rw [if_neg hf, if_neg (fun h => hf (this.1 h))]
def take1 (h : Bool) (ws : List (List UInt8)) : List (List UInt8) × Int := match h, ws with
 | true, w :: r => (r, numS w)
 | _, _ => (ws, 0)
def parseW (L : Layout) (ws : List (List UInt8)) : Exchange := { Report := (take1 L.Report ws).2, Serial := (take1 L.Serial (take1 L.Report ws).1).2, Zone := (take1 L.Zone (take1 L.Serial (take1 L.Report ws).1).1).2 }
def parseX (L : Layout) (s : List UInt8) : Exchange × Int := if printX L (parseW L (pcs 32 s)) = (s, 0) then (parseW L (pcs 32 s), 0) else ({ Report := 0, Serial := 0, Zone := 0 }, 1)
theorem take1_sub (h : Bool) (ws : List (List UInt8)) : ∀ w, w ∈ (take1 h ws).1 → w ∈ ws := by
 intro w hw
 match h, ws, hw with
 | true, x :: r, hw => exact List.mem_cons_of_mem _ hw
 | true, [], hw => exact hw
 | false, _, hw => exact hw
theorem take_air (h : Bool) (ws : List (List UInt8)) (hl : ∀ w, w ∈ ws → w.length < N) : (bif (h && decide ((ws.length : Int) > 0)) then ((idx ws 0).bind fun x80 => ((air_number N x80).bind fun r94 => ((sub ws 1 (ws.length : Int)).bind fun r104 => some (r104, r94)))) else some (ws, (0 : Int))) = some (take1 h ws) := by
 match h, ws, hl with
 | false, _, _ => rfl
 | true, [], _ => rfl
 | true, w :: r, hl =>
  have e0 : idx (w :: r) 0 = some w := rfl
  have e1 : sub (w :: r) 1 ((w :: r).length : Int) = some r := by
   unfold sub
   rw [if_pos ⟨by omega, by simp only [List.length_cons]; omega, by omega⟩]
   simp
  rw [decide_eq_true (by simp only [List.length_cons]; omega), e0, e1, Option.bind_some, m_number (hl w (by simp))]
  rfl
theorem s_ParseX (L : Layout) (s : List UInt8) (hs : s.length < 4294967281) (hN : 4294967300 < N) : air_ParseExchange N L s = some (parseX L s) := by
 unfold air_ParseExchange parseX
 rw [m_Split 32 hs, Option.bind_some]
 have hle := pcs_le 32 s
 generalize pcs 32 s = ws at hle
 have hn : ∀ w, w ∈ ws → w.length < N := fun w hw => by have := hle w hw; omega
 have c0 : ∀ (E : Exchange) (b : Bool), ((air_parts N L E).bind fun r38 => ((idx r38 0).bind fun x46 => (bif x46.has_ then some b else some false))) = some (L.Report && b) := by
  intro E b
  show (bif L.Report then some b else some false) = _
  cases L.Report <;> rfl
 have c1 : ∀ (E : Exchange) (b : Bool), ((air_parts N L E).bind fun r38 => ((idx r38 1).bind fun x46 => (bif x46.has_ then some b else some false))) = some (L.Serial && b) := by
  intro E b
  show (bif L.Serial then some b else some false) = _
  cases L.Serial <;> rfl
 have c2 : ∀ (E : Exchange) (b : Bool), ((air_parts N L E).bind fun r38 => ((idx r38 2).bind fun x46 => (bif x46.has_ then some b else some false))) = some (L.Zone && b) := by
  intro E b
  show (bif L.Zone then some b else some false) = _
  cases L.Zone <;> rfl
 rw [c0, Option.bind_some, take_air L.Report ws hn, Option.bind_some, c1, Option.bind_some]
 have hn1 : ∀ w, w ∈ (take1 L.Report ws).1 → w.length < N := fun w hw => hn w (take1_sub _ _ w hw)
 rw [take_air L.Serial _ hn1, Option.bind_some, c2, Option.bind_some]
 have hn2 : ∀ w, w ∈ (take1 L.Serial (take1 L.Report ws).1).1 → w.length < N := fun w hw => hn1 w (take1_sub _ _ w hw)
 rw [take_air L.Zone _ hn2, Option.bind_some]
 show ((air_PrintExchange N L (parseW L ws)).bind _) = _
 rw [s_PrintX L _ hN, Option.bind_some, ok_dec]
 show (bif (!decide (printX L (parseW L ws) = (s, 0))) then _ else some (parseW L ws, (0 : Int))) = _
 by_cases h : printX L (parseW L ws) = (s, 0)
 ·rw [decide_eq_true h, if_pos h]; rfl
 ·rw [decide_eq_false h, if_neg h]; rfl
theorem printX_len {L : Layout} {E : Exchange} {s : List UInt8} (h : printX L E = (s, 0)) : s.length ≤ 18 ∧ validE L E = true := by
 unfold printX at h
 by_cases hv : validE L E = true
 ·rw [if_pos hv] at h
  injection h with h _
  refine ⟨?_, hv⟩
  rw [← h]
  unfold xText
  split
  ·simp
  ·exact fs_jn (okE hv)
 ·rw [if_neg hv] at h
  injection h with _ h
  exact absurd h (by decide)
end
theorem numS_dP {k u : Nat} (hk : k ≤ 9) (hu : u < 100000) : numS (dP k u) = (u : Int) := by
 have h1 := dP_lenle (k := k) (j := 4) (u := u) (by omega)
 have h2 := dP_len k u
 have : numB (dP k u) = true := by
  unfold numB wiB
  rw [dP_all]
  simp
  omega
 unfold numS
 rw [if_pos this, dP_num]
theorem parseX_text {L : Layout} {E : Exchange} (h : validE L E = true) : parseX L (xText L E) = (E, 0) := by
 have ok := okE h
 obtain ⟨h1, h2, h3⟩ := ok.le
 have hw : parseW L (pcs 32 (xText L E)) = E := by
  have n1 := numS_dP (k := 1) (u := E.Report.toNat) (by omega) (by omega)
  have n2 := numS_dP (k := 3) (u := E.Serial.toNat) (by omega) (by omega)
  have n3 := numS_dP (k := 2) (u := E.Zone.toNat) (by omega) (by omega)
  have hp : fs L E ≠ [] → pcs 32 (xText L E) = fs L E := by
   intro hf
   unfold xText
   rw [if_neg hf]
   have hno := fun w hw => no32 (fs_word ok w hw).2.1
   revert hf hno
   generalize fs L E = l
   intro hf hno
   match l, hf, hno with
   | x :: r, _, hno => exact pcs_jn r x (hno x (by simp)) (fun y hy => hno y (by simp [hy]))
  obtain ⟨R, S, Z⟩ := L
  obtain ⟨a, b, c⟩ := E
  obtain ⟨o1, o2, o3⟩ := ok
  simp only at o1 o2 o3 h1 h2 h3 n1 n2 n3
  rw [Int.toNat_of_nonneg h1.1] at n1
  rw [Int.toNat_of_nonneg h2.1] at n2
  rw [Int.toNat_of_nonneg h3.1] at n3
  unfold parseW
  cases R <;> cases S <;> cases Z <;> simp only [Bool.false_eq_true, if_false, if_true] at o1 o2 o3
  ·subst o1; subst o2; subst o3; rfl
  all_goals
   rw [hp (by unfold fs; simp)]
   unfold fs
   simp [take1, n1, n2, n3, *]
 unfold parseX
 rw [hw]
 have : printX L E = (xText L E, 0) := by unfold printX; rw [if_pos h]
 rw [if_pos this]
theorem parseX_back {L : Layout} {s : List UInt8} {E : Exchange} (h : parseX L s = (E, 0)) : printX L E = (s, 0) := by
 unfold parseX at h
 split at h
 ·rename_i hc
  injection h with h _
  rw [← h]; exact hc
 ·injection h with _ h; exact absurd h (by decide)
end Go.Proofs.YtlddakefmfcblaaGreatDoor
namespace Go.Proofs.YtlddakefmfcblaaGreatDoor
open Go.Proofs
end Go.Proofs.YtlddakefmfcblaaGreatDoor
