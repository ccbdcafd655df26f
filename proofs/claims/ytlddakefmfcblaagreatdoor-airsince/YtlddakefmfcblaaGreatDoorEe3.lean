/- Lemmas of the claim AirSince, printed by a program of the claimant and by hand. No statement of the seat is proved here. -/
import Derived.Test.YtlddakefmfcblaaGreatDoorEe2
set_option linter.unusedVariables false
set_option linter.unusedSimpArgs false
set_option linter.unusedSectionVars false
namespace Go.Proofs.YtlddakefmfcblaaGreatDoor
open Go.Proofs
def air_ValidBands_L0 (N : Nat) (x0 : (List Band)) : Int → Option (Flow Bool Int) := fun s4 =>
 (bif (decide (s4 < (x0.length : Int))) then ((idx x0 s4).bind fun x27 => (((air_within N x27.ID 1 65535).bind fun r60 => (bif (!r60) then some true else ((air_within N x27.Lo 1 x27.Hi).bind fun r72 => (bif (!r72) then some true else (bif (decide (x27.Hi > 10000000)) then some true else (bif (decide (s4 > 0)) then ((idx x0 (W64 (s4 - 1))).bind fun x90 => (bif (decide (x27.ID ≤ x90.ID)) then some true else ((idx x0 (W64 (s4 - 1))).bind fun x100 => some (decide (x27.Lo ≤ x100.Hi))))) else some false)))))).bind fun j51 => (bif j51 then some (.ret false) else some (.next (W64 (s4 + 1)))))) else some (.done s4))
def air_ValidBands (N : Nat) (x0 : (List Band)) : Option Bool :=
 ((iter (air_ValidBands_L0 N x0) N 0).bind fun o => o.k (fun r => some r) (fun s13 => some (decide ((x0.length : Int) ≤ 16))))
theorem co_air_ValidBands : CallOk Tryz.prog 26 := fun _ _ => by kernel_rfl
set_option maxHeartbeats 4000000 in
set_option maxRecDepth 100000 in
theorem c_air_ValidBands (N : Nat) (w0 : World) (F0 : Mem) (hF : ∀ b o, F0 b = some o → w0.heap[b]? = some o) (x0 : (List Band)) (a0_0 : Option Addr) (n0_0 : Nat) (hb0_0 : LC x0.length n0_0) (hs0_0 : SlA tBand F0 a0_0 x0) (r : Bool) (h : air_ValidBands N x0 = some r) :
  Calls Tryz.prog 26 ([(.slice a0_0 x0.length n0_0)] : List Value).toArray w0 (FRet w0 F0 fun F' v => v = (.bool r)) := by
 have hs0 := HS.start hF
 refine calls_of (n := 59) (c := bodyOf Tryz.f26) Tryz.func26 (by kernel_rfl) (by kernel_rfl) (by kernel_rfl) ?_
 refine Sq (Rg [0] ?_)
 refine V 2 4 (mc (.bool false) (.bool false)) ?_
 refine Nss ?_
 refine Sq (Rg [0, 1, 2] ?_)
 refine V 5 32 (mv 0 (.slice a0_0 x0.length n0_0)) ?_
 refine V 6 3 (ln 5 32 a0_0 x0.length n0_0 40 3 24) ?_
 refine V 7 3 (run_move (x := (.const (vi 0))) (v := (vi 0)) rfl) ?_
 refine Nt ?_
 obtain ⟨o1, ho2, h3⟩ := bind_some h
 refine CWP.cut (fun f w => ∃ (s13 : Int) (F2 : Mem), o1 = .done s13 ∧ HS w0 F0 w F2 [] ∧ Mem.le F0 F2 ∧ f.d = [] ∧ f 0 = (.slice a0_0 x0.length n0_0)) ?_ ?_
 ·refine Bk ?_
  refine CWP.loop (by kernel_rfl) (fun m f w => ∃ (s4 : Int) (F1 : Mem), iter (air_ValidBands_L0 N x0) m s4 = some o1 ∧ HS w0 F0 w F1 [] ∧ Mem.le F0 F1 ∧ f.d = [] ∧ f 0 = (.slice a0_0 x0.length n0_0) ∧ f 5 = (.slice a0_0 x0.length n0_0) ∧ f 6 = (vi (x0.length : Int)) ∧ f 7 = (vi s4)) N ⟨0, F0, ho2, hs0, (Mem.le.refl _), rfl, rfl, rfl, rfl, rfl⟩ ?_
  rintro m19 f w5 ⟨s4, F1, hit20, hs6, le7, e8, e9, e10, e11, e12⟩
  obtain ⟨m21, fl22, rfl, hb23, hnx24⟩ := iter_step hit20
  refine Sq (Rg [0] ?_)
  refine V 8 0 (run_lss (t := 3) (t' := 3) (x := (.tmp 7)) (y := (.tmp 6)) (k := .i64) (a := s4) (b := (x0.length : Int)) e12 e11) ?_
  refine Nss ?_
  refine CWP.cond (t := (decide (s4 < (x0.length : Int)))) (by kernel_rfl) rfl (fun hb25 => ?_) (fun hb25 => ?_)
  ·have h26 := cond_t hb23 hb25
   refine Sc ?_
   refine thenQ_nrm ?_
   refine Sq ?_
   refine Bk ?_
   refine Sq (Rg [0, 1, 2, 3, 4, 5] ?_)
   refine V 9 3 (mv 7 (vi s4) e12) ?_
   obtain ⟨x27, hx28, h30⟩ := bind_some h26
   obtain ⟨hi29, hx28'⟩ := idx_spec hx28
   obtain ⟨b31, o32, C33, E34, fz35, rfl, hF37, hE38⟩ := SlA.open (SlA.mono hs0_0 le7) hx28'
   have hc40 := hE38 _ _ hx28'
   refine V 10 0 (run_index (t := 32) (x := (.tmp 5)) (y := (.tmp 7)) (b := b31) (o := o32) (E := 40) (s := 3) (by_ := 24) e10 e12 (by kernel_rfl) hi29) ?_
   refine V 11 40 (lx 40 10 0 3 true 3 (.agg (kBand x27)) (hs6.pers _ _ hF37) hc40) ?_
   refine Al 4 0 40 #[(vi 0), (vi 0), (vi 0)] hs6 (fun b41 w42 (hs43 : HS w0 F0 w42 F1 [(sb b41 #[(vi 0), (vi 0), (vi 0)] 40)]) => ?_)
   refine V 3 3 (ma 9 (vi s4)) ?_
   refine RWP.store (ty := 0) (g := none) (by kernel_rfl) rfl (x := (.tmp 4)) (y := (.tmp 11)) (t := 40) (gg := true) (s := 3) (v := (.agg (kBand x27))) (b := b41) (o := 0) (C := #[(vi 0), (vi 0), (vi 0)]) rfl rfl (by kernel_rfl) hs43 (k := 0) rfl rfl rfl rfl (C' := (kBand x27)) rfl (fun w44 (hs45 : HS w0 F0 w44 F1 [(sb b41 (kBand x27) 40)]) => ?_)
   refine Nss ?_
   obtain ⟨j51, hj58, h59⟩ := bind_some h30
   refine CWP.regionD (by kernel_rfl) (by kernel_rfl) (by kernel_rfl) (by kernel_rfl) (z := 43) (F := F1) (Lc := [(sb b41 (kBand x27) 40)]) (Lz := []) (l := [false, false, false, false, false, false, false, false, false, false, false, false, false, false, false, false, false, false, false, false, false, false, false, false, false, false, false, false, false, false, false, false, false, false, false, false, false, false, false, false, false, false, false]) (fuel := 43) (by kernel_rfl) (by kernel_rfl) hs45 (by simp) (by simp) (fun f w => ∃ (F3 : Mem), HS w0 F0 w F3 [] ∧ Mem.le F1 F3 ∧ f.d = [] ∧ f 0 = (.slice (some ⟨b31, o32, none⟩) x0.length n0_0) ∧ f 5 = (.slice (some ⟨b31, o32, none⟩) x0.length n0_0) ∧ f 6 = (vi (x0.length : Int)) ∧ f 7 = (vi s4) ∧ f 54 = (.bool j51)) (fun wd46 hw47 => ?_) ?_
   ·refine Dtl 0 12 0 (.pointer (some ⟨b41, 0, none⟩)) [tt, ff, ff, ff, ff, ff, ff, ff, ff, ff, ff, ff, ff, ff, ff, ff, ff, ff, ff, ff, ff, ff, ff, ff, ff, ff, ff, ff, ff, ff, ff, ff, ff, ff, ff, ff, ff, ff, ff, ff, ff, ff, ff] (fun _ hq => fa 40 4 0 0 1 b41 0 0) ?_
    refine Dtl 1 13 3 _ [tt, tt, ff, ff, ff, ff, ff, ff, ff, ff, ff, ff, ff, ff, ff, ff, ff, ff, ff, ff, ff, ff, ff, ff, ff, ff, ff, ff, ff, ff, ff, ff, ff, ff, ff, ff, ff, ff, ff, ff, ff, ff, ff] (fun _ hq => ld 3 12 b41 0 false 1 (vi x27.ID) (hq.1.2 0 _ _ rfl)) ?_
    refine DWP.one (i := 2) (by kernel_rfl) ?_
    obtain ⟨r60, hr61, h62⟩ := bind_some hj58
    refine DStep.call (l' := [true, true, true, false, false, false, false, false, false, false, false, false, false, false, false, false, false, false, false, false, false, false, false, false, false, false, false, false, false, false, false, false, false, false, false, false, false, false, false, false, false, false, false]) (zd := true) (by kernel_rfl) (by kernel_rfl) (by kernel_rfl) (dst := (some 14)) (ty := 4) (g := none) (by kernel_rfl) rfl (f0 := (.func 73)) (aos := #[(.tmp 13), (.const (vi 1)), (.const (vi 65535))]) (ats := #[3, 3, 3]) (fid := 73) (first := #[]) (cap := #[]) (args := [(vi x27.ID), (vi 1), (vi 65535)]) rfl co_air_within (rfl) hw47 (c_air_within N wd46 F1 hw47.pers (x27.ID) (1) (65535) _ hr61) ?_
    intro v63 F4 w64 hs65 le66 hp67
    obtain rfl := hp67
    refine Dtl 3 15 4 (.bool (!r60)) [tt, tt, tt, tt, ff, ff, ff, ff, ff, ff, ff, ff, ff, ff, ff, ff, ff, ff, ff, ff, ff, ff, ff, ff, ff, ff, ff, ff, ff, ff, ff, ff, ff, ff, ff, ff, ff, ff, ff, ff, ff, ff, ff] (fun _ hq => run_not (t := 4) (x := (.tmp 14)) (a := r60) rfl) ?_
    refine Dtl 4 16 4 _ [tt, tt, tt, tt, tt, ff, ff, ff, ff, ff, ff, ff, ff, ff, ff, ff, ff, ff, ff, ff, ff, ff, ff, ff, ff, ff, ff, ff, ff, ff, ff, ff, ff, ff, ff, ff, ff, ff, ff, ff, ff, ff, ff] (fun _ hq => mv 15 (.bool (!r60))) ?_
    refine DWP.split (!r60) (fun hb68 => ?_) (fun hb68 => ?_)
    ·have h69 := cond_t h62 hb68
     refine Dkl [(5, 17), (6, 18), (7, 19), (8, 20), (9, 21), (10, 22)] 4 false 16 hb68 [tt, tt, tt, tt, tt, tt, tt, tt, tt, tt, tt, ff, ff, ff, ff, ff, ff, ff, ff, ff, ff, ff, ff, ff, ff, ff, ff, ff, ff, ff, ff, ff, ff, ff, ff, ff, ff, ff, ff, ff, ff, ff, ff] ?_
     refine Dtl 11 23 4 _ [tt, tt, tt, tt, tt, tt, tt, tt, tt, tt, tt, tt, ff, ff, ff, ff, ff, ff, ff, ff, ff, ff, ff, ff, ff, ff, ff, ff, ff, ff, ff, ff, ff, ff, ff, ff, ff, ff, ff, ff, ff, ff, ff] (fun _ hq => p1 16 (.const (.bool true)) (.tmp 22) (.bool true) hb68) ?_
     refine Dtl 12 24 4 _ [tt, tt, tt, tt, tt, tt, tt, tt, tt, tt, tt, tt, tt, ff, ff, ff, ff, ff, ff, ff, ff, ff, ff, ff, ff, ff, ff, ff, ff, ff, ff, ff, ff, ff, ff, ff, ff, ff, ff, ff, ff, ff, ff] (fun _ hq => mv 23 (.bool true)) ?_
     refine Dkl [(13, 25), (14, 26), (15, 27)] 12 false 24 rfl [tt, tt, tt, tt, tt, tt, tt, tt, tt, tt, tt, tt, tt, tt, tt, tt, ff, ff, ff, ff, ff, ff, ff, ff, ff, ff, ff, ff, ff, ff, ff, ff, ff, ff, ff, ff, ff, ff, ff, ff, ff, ff, ff] ?_
     refine Dtl 16 28 4 _ [tt, tt, tt, tt, tt, tt, tt, tt, tt, tt, tt, tt, tt, tt, tt, tt, tt, ff, ff, ff, ff, ff, ff, ff, ff, ff, ff, ff, ff, ff, ff, ff, ff, ff, ff, ff, ff, ff, ff, ff, ff, ff, ff] (fun _ hq => p1 24 (.const (.bool true)) (.tmp 27) (.bool true) rfl) ?_
     refine Dtl 17 29 4 _ [tt, tt, tt, tt, tt, tt, tt, tt, tt, tt, tt, tt, tt, tt, tt, tt, tt, tt, ff, ff, ff, ff, ff, ff, ff, ff, ff, ff, ff, ff, ff, ff, ff, ff, ff, ff, ff, ff, ff, ff, ff, ff, ff] (fun _ hq => mv 28 (.bool true)) ?_
     refine Dkl [(18, 30), (19, 31), (20, 32)] 17 false 29 rfl [tt, tt, tt, tt, tt, tt, tt, tt, tt, tt, tt, tt, tt, tt, tt, tt, tt, tt, tt, tt, tt, ff, ff, ff, ff, ff, ff, ff, ff, ff, ff, ff, ff, ff, ff, ff, ff, ff, ff, ff, ff, ff, ff] ?_
     refine Dul [(21, 33), (22, 34), (23, 35), (24, 36), (25, 37), (26, 38)] 20 true 32 [tt, tt, tt, tt, tt, tt, tt, tt, tt, tt, tt, tt, tt, tt, tt, tt, tt, tt, tt, tt, tt, tt, tt, tt, tt, tt, tt, ff, ff, ff, ff, ff, ff, ff, ff, ff, ff, ff, ff, ff, ff, ff, ff] ?_
     refine Dul [(27, 39), (28, 40), (29, 41), (30, 42)] 20 true 32 [tt, tt, tt, tt, tt, tt, tt, tt, tt, tt, tt, tt, tt, tt, tt, tt, tt, tt, tt, tt, tt, tt, tt, tt, tt, tt, tt, tt, tt, tt, tt, ff, ff, ff, ff, ff, ff, ff, ff, ff, ff, ff, ff] ?_
     refine Dul [(31, 43), (32, 44), (33, 45), (34, 46), (35, 47), (36, 48)] 30 false 42 [tt, tt, tt, tt, tt, tt, tt, tt, tt, tt, tt, tt, tt, tt, tt, tt, tt, tt, tt, tt, tt, tt, tt, tt, tt, tt, tt, tt, tt, tt, tt, tt, tt, tt, tt, tt, tt, ff, ff, ff, ff, ff, ff] ?_
     refine Dul [(37, 49), (38, 50), (39, 51)] 30 false 42 [tt, tt, tt, tt, tt, tt, tt, tt, tt, tt, tt, tt, tt, tt, tt, tt, tt, tt, tt, tt, tt, tt, tt, tt, tt, tt, tt, tt, tt, tt, tt, tt, tt, tt, tt, tt, tt, tt, tt, tt, ff, ff, ff] ?_
     refine Dul [(40, 52)] 20 true 32 [tt, tt, tt, tt, tt, tt, tt, tt, tt, tt, tt, tt, tt, tt, tt, tt, tt, tt, tt, tt, tt, tt, tt, tt, tt, tt, tt, tt, tt, tt, tt, tt, tt, tt, tt, tt, tt, tt, tt, tt, tt, ff, ff] ?_
     refine Dkl [(41, 53)] 17 false 29 rfl [tt, tt, tt, tt, tt, tt, tt, tt, tt, tt, tt, tt, tt, tt, tt, tt, tt, tt, tt, tt, tt, tt, tt, tt, tt, tt, tt, tt, tt, tt, tt, tt, tt, tt, tt, tt, tt, tt, tt, tt, tt, tt, ff] ?_
     refine Dtl 42 54 4 _ [tt, tt, tt, tt, tt, tt, tt, tt, tt, tt, tt, tt, tt, tt, tt, tt, tt, tt, tt, tt, tt, tt, tt, tt, tt, tt, tt, tt, tt, tt, tt, tt, tt, tt, tt, tt, tt, tt, tt, tt, tt, tt, tt] (fun _ hq => p1 29 (.const (.bool true)) (.tmp 53) (.bool true) rfl) ?_
     obtain rfl := some_inj h69
     have hs70 : HS w0 F0 w64 F4 [] := hs65.drop 0
     exact DWP.done (by kernel_rfl) ⟨F4, hs70, le66, e8, e9, e10, e11, e12, rfl⟩
    ·have h71 := cond_f h62 hb68
     refine Dgl 5 17 0 (.pointer (some ⟨b41, 1, none⟩)) [tt, tt, tt, tt, tt, tt, ff, ff, ff, ff, ff, ff, ff, ff, ff, ff, ff, ff, ff, ff, ff, ff, ff, ff, ff, ff, ff, ff, ff, ff, ff, ff, ff, ff, ff, ff, ff, ff, ff, ff, ff, ff, ff] 4 false 16 hb68 (fun _ hq => fa 40 4 1 1 1 b41 0 1) ?_
     refine Dgl 6 18 3 _ [tt, tt, tt, tt, tt, tt, tt, ff, ff, ff, ff, ff, ff, ff, ff, ff, ff, ff, ff, ff, ff, ff, ff, ff, ff, ff, ff, ff, ff, ff, ff, ff, ff, ff, ff, ff, ff, ff, ff, ff, ff, ff, ff] 4 false 16 hb68 (fun _ hq => ld 3 17 b41 1 false 1 (vi x27.Lo) (hq.1.2 0 _ _ rfl)) ?_
     refine Dgl 7 19 0 (.pointer (some ⟨b41, 2, none⟩)) [tt, tt, tt, tt, tt, tt, tt, tt, ff, ff, ff, ff, ff, ff, ff, ff, ff, ff, ff, ff, ff, ff, ff, ff, ff, ff, ff, ff, ff, ff, ff, ff, ff, ff, ff, ff, ff, ff, ff, ff, ff, ff, ff] 4 false 16 hb68 (fun _ hq => fa 40 4 2 2 1 b41 0 2) ?_
     refine Dgl 8 20 3 _ [tt, tt, tt, tt, tt, tt, tt, tt, tt, ff, ff, ff, ff, ff, ff, ff, ff, ff, ff, ff, ff, ff, ff, ff, ff, ff, ff, ff, ff, ff, ff, ff, ff, ff, ff, ff, ff, ff, ff, ff, ff, ff, ff] 4 false 16 hb68 (fun _ hq => ld 3 19 b41 2 false 1 (vi x27.Hi) (hq.1.2 0 _ _ rfl)) ?_
     refine DWP.one (i := 9) (by kernel_rfl) ?_
     obtain ⟨r72, hr73, h74⟩ := bind_some h71
     refine DStep.call (l' := [true, true, true, true, true, true, true, true, true, true, false, false, false, false, false, false, false, false, false, false, false, false, false, false, false, false, false, false, false, false, false, false, false, false, false, false, false, false, false, false, false, false, false]) (zd := true) (by kernel_rfl) (by kernel_rfl) (by kernel_rfl) (dst := (some 21)) (ty := 4) (g := (some (4, false))) (by kernel_rfl) (gd_y (d := 16) (by kernel_rfl) rfl hb68) (f0 := (.func 73)) (aos := #[(.tmp 18), (.const (vi 1)), (.tmp 20)]) (ats := #[3, 3, 3]) (fid := 73) (first := #[]) (cap := #[]) (args := [(vi x27.Lo), (vi 1), (vi x27.Hi)]) rfl co_air_within (rfl) hs65 (c_air_within N w64 F4 hs65.pers (x27.Lo) (1) (x27.Hi) _ hr73) ?_
     intro v75 F5 w76 hs77 le78 hp79
     obtain rfl := hp79
     refine Dgl 10 22 4 (.bool (!r72)) [tt, tt, tt, tt, tt, tt, tt, tt, tt, tt, tt, ff, ff, ff, ff, ff, ff, ff, ff, ff, ff, ff, ff, ff, ff, ff, ff, ff, ff, ff, ff, ff, ff, ff, ff, ff, ff, ff, ff, ff, ff, ff, ff] 4 false 16 hb68 (fun _ hq => run_not (t := 4) (x := (.tmp 21)) (a := r72) rfl) ?_
     refine Dtl 11 23 4 _ [tt, tt, tt, tt, tt, tt, tt, tt, tt, tt, tt, tt, ff, ff, ff, ff, ff, ff, ff, ff, ff, ff, ff, ff, ff, ff, ff, ff, ff, ff, ff, ff, ff, ff, ff, ff, ff, ff, ff, ff, ff, ff, ff] (fun _ hq => p0 16 (.const (.bool true)) (.tmp 22) (.bool (!r72)) hb68) ?_
     refine Dtl 12 24 4 _ [tt, tt, tt, tt, tt, tt, tt, tt, tt, tt, tt, tt, tt, ff, ff, ff, ff, ff, ff, ff, ff, ff, ff, ff, ff, ff, ff, ff, ff, ff, ff, ff, ff, ff, ff, ff, ff, ff, ff, ff, ff, ff, ff] (fun _ hq => mv 23 (.bool (!r72))) ?_
     refine DWP.split (!r72) (fun hb80 => ?_) (fun hb80 => ?_)
     ·have h81 := cond_t h74 hb80
      refine Dkl [(13, 25), (14, 26), (15, 27)] 12 false 24 hb80 [tt, tt, tt, tt, tt, tt, tt, tt, tt, tt, tt, tt, tt, tt, tt, tt, ff, ff, ff, ff, ff, ff, ff, ff, ff, ff, ff, ff, ff, ff, ff, ff, ff, ff, ff, ff, ff, ff, ff, ff, ff, ff, ff] ?_
      refine Dtl 16 28 4 _ [tt, tt, tt, tt, tt, tt, tt, tt, tt, tt, tt, tt, tt, tt, tt, tt, tt, ff, ff, ff, ff, ff, ff, ff, ff, ff, ff, ff, ff, ff, ff, ff, ff, ff, ff, ff, ff, ff, ff, ff, ff, ff, ff] (fun _ hq => p1 24 (.const (.bool true)) (.tmp 27) (.bool true) hb80) ?_
      refine Dtl 17 29 4 _ [tt, tt, tt, tt, tt, tt, tt, tt, tt, tt, tt, tt, tt, tt, tt, tt, tt, tt, ff, ff, ff, ff, ff, ff, ff, ff, ff, ff, ff, ff, ff, ff, ff, ff, ff, ff, ff, ff, ff, ff, ff, ff, ff] (fun _ hq => mv 28 (.bool true)) ?_
      refine Dkl [(18, 30), (19, 31), (20, 32)] 17 false 29 rfl [tt, tt, tt, tt, tt, tt, tt, tt, tt, tt, tt, tt, tt, tt, tt, tt, tt, tt, tt, tt, tt, ff, ff, ff, ff, ff, ff, ff, ff, ff, ff, ff, ff, ff, ff, ff, ff, ff, ff, ff, ff, ff, ff] ?_
      refine Dul [(21, 33), (22, 34), (23, 35), (24, 36), (25, 37), (26, 38)] 20 true 32 [tt, tt, tt, tt, tt, tt, tt, tt, tt, tt, tt, tt, tt, tt, tt, tt, tt, tt, tt, tt, tt, tt, tt, tt, tt, tt, tt, ff, ff, ff, ff, ff, ff, ff, ff, ff, ff, ff, ff, ff, ff, ff, ff] ?_
      refine Dul [(27, 39), (28, 40), (29, 41), (30, 42)] 20 true 32 [tt, tt, tt, tt, tt, tt, tt, tt, tt, tt, tt, tt, tt, tt, tt, tt, tt, tt, tt, tt, tt, tt, tt, tt, tt, tt, tt, tt, tt, tt, tt, ff, ff, ff, ff, ff, ff, ff, ff, ff, ff, ff, ff] ?_
      refine Dul [(31, 43), (32, 44), (33, 45), (34, 46), (35, 47), (36, 48)] 30 false 42 [tt, tt, tt, tt, tt, tt, tt, tt, tt, tt, tt, tt, tt, tt, tt, tt, tt, tt, tt, tt, tt, tt, tt, tt, tt, tt, tt, tt, tt, tt, tt, tt, tt, tt, tt, tt, tt, ff, ff, ff, ff, ff, ff] ?_
      refine Dul [(37, 49), (38, 50), (39, 51)] 30 false 42 [tt, tt, tt, tt, tt, tt, tt, tt, tt, tt, tt, tt, tt, tt, tt, tt, tt, tt, tt, tt, tt, tt, tt, tt, tt, tt, tt, tt, tt, tt, tt, tt, tt, tt, tt, tt, tt, tt, tt, tt, ff, ff, ff] ?_
      refine Dul [(40, 52)] 20 true 32 [tt, tt, tt, tt, tt, tt, tt, tt, tt, tt, tt, tt, tt, tt, tt, tt, tt, tt, tt, tt, tt, tt, tt, tt, tt, tt, tt, tt, tt, tt, tt, tt, tt, tt, tt, tt, tt, tt, tt, tt, tt, ff, ff] ?_
      refine Dkl [(41, 53)] 17 false 29 rfl [tt, tt, tt, tt, tt, tt, tt, tt, tt, tt, tt, tt, tt, tt, tt, tt, tt, tt, tt, tt, tt, tt, tt, tt, tt, tt, tt, tt, tt, tt, tt, tt, tt, tt, tt, tt, tt, tt, tt, tt, tt, tt, ff] ?_
      refine Dtl 42 54 4 _ [tt, tt, tt, tt, tt, tt, tt, tt, tt, tt, tt, tt, tt, tt, tt, tt, tt, tt, tt, tt, tt, tt, tt, tt, tt, tt, tt, tt, tt, tt, tt, tt, tt, tt, tt, tt, tt, tt, tt, tt, tt, tt, tt] (fun _ hq => p1 29 (.const (.bool true)) (.tmp 53) (.bool true) rfl) ?_
      obtain rfl := some_inj h81
      have hs82 : HS w0 F0 w76 F5 [] := hs77.drop 0
      exact DWP.done (by kernel_rfl) ⟨F5, hs82, (le66.trans le78), e8, e9, e10, e11, e12, rfl⟩
     ·have h83 := cond_f h74 hb80
      refine Dgl 13 25 0 (.pointer (some ⟨b41, 2, none⟩)) [tt, tt, tt, tt, tt, tt, tt, tt, tt, tt, tt, tt, tt, tt, ff, ff, ff, ff, ff, ff, ff, ff, ff, ff, ff, ff, ff, ff, ff, ff, ff, ff, ff, ff, ff, ff, ff, ff, ff, ff, ff, ff, ff] 12 false 24 hb80 (fun _ hq => fa 40 4 2 2 1 b41 0 2) ?_
      refine Dgl 14 26 3 _ [tt, tt, tt, tt, tt, tt, tt, tt, tt, tt, tt, tt, tt, tt, tt, ff, ff, ff, ff, ff, ff, ff, ff, ff, ff, ff, ff, ff, ff, ff, ff, ff, ff, ff, ff, ff, ff, ff, ff, ff, ff, ff, ff] 12 false 24 hb80 (fun _ hq => ld 3 25 b41 2 false 1 (vi x27.Hi) (hq.1.2 0 _ _ rfl)) ?_
      refine Dgl 15 27 4 (.bool (decide (x27.Hi > 10000000))) [tt, tt, tt, tt, tt, tt, tt, tt, tt, tt, tt, tt, tt, tt, tt, tt, ff, ff, ff, ff, ff, ff, ff, ff, ff, ff, ff, ff, ff, ff, ff, ff, ff, ff, ff, ff, ff, ff, ff, ff, ff, ff, ff] 12 false 24 hb80 (fun _ hq => run_gtr (t := 3) (t' := 3) (x := (.tmp 26)) (y := (.const (vi 10000000))) (k := .i64) (a := x27.Hi) (b := 10000000) rfl rfl) ?_
      refine Dtl 16 28 4 _ [tt, tt, tt, tt, tt, tt, tt, tt, tt, tt, tt, tt, tt, tt, tt, tt, tt, ff, ff, ff, ff, ff, ff, ff, ff, ff, ff, ff, ff, ff, ff, ff, ff, ff, ff, ff, ff, ff, ff, ff, ff, ff, ff] (fun _ hq => p0 24 (.const (.bool true)) (.tmp 27) (.bool (decide (x27.Hi > 10000000))) hb80) ?_
      refine Dtl 17 29 4 _ [tt, tt, tt, tt, tt, tt, tt, tt, tt, tt, tt, tt, tt, tt, tt, tt, tt, tt, ff, ff, ff, ff, ff, ff, ff, ff, ff, ff, ff, ff, ff, ff, ff, ff, ff, ff, ff, ff, ff, ff, ff, ff, ff] (fun _ hq => mv 28 (.bool (decide (x27.Hi > 10000000)))) ?_
      refine DWP.split (decide (x27.Hi > 10000000)) (fun hb84 => ?_) (fun hb84 => ?_)
      ·have h85 := cond_t h83 hb84
       refine Dkl [(18, 30), (19, 31), (20, 32)] 17 false 29 hb84 [tt, tt, tt, tt, tt, tt, tt, tt, tt, tt, tt, tt, tt, tt, tt, tt, tt, tt, tt, tt, tt, ff, ff, ff, ff, ff, ff, ff, ff, ff, ff, ff, ff, ff, ff, ff, ff, ff, ff, ff, ff, ff, ff] ?_
       refine Dul [(21, 33), (22, 34), (23, 35), (24, 36), (25, 37), (26, 38)] 20 true 32 [tt, tt, tt, tt, tt, tt, tt, tt, tt, tt, tt, tt, tt, tt, tt, tt, tt, tt, tt, tt, tt, tt, tt, tt, tt, tt, tt, ff, ff, ff, ff, ff, ff, ff, ff, ff, ff, ff, ff, ff, ff, ff, ff] ?_
       refine Dul [(27, 39), (28, 40), (29, 41), (30, 42)] 20 true 32 [tt, tt, tt, tt, tt, tt, tt, tt, tt, tt, tt, tt, tt, tt, tt, tt, tt, tt, tt, tt, tt, tt, tt, tt, tt, tt, tt, tt, tt, tt, tt, ff, ff, ff, ff, ff, ff, ff, ff, ff, ff, ff, ff] ?_
       refine Dul [(31, 43), (32, 44), (33, 45), (34, 46), (35, 47), (36, 48)] 30 false 42 [tt, tt, tt, tt, tt, tt, tt, tt, tt, tt, tt, tt, tt, tt, tt, tt, tt, tt, tt, tt, tt, tt, tt, tt, tt, tt, tt, tt, tt, tt, tt, tt, tt, tt, tt, tt, tt, ff, ff, ff, ff, ff, ff] ?_
       refine Dul [(37, 49), (38, 50), (39, 51)] 30 false 42 [tt, tt, tt, tt, tt, tt, tt, tt, tt, tt, tt, tt, tt, tt, tt, tt, tt, tt, tt, tt, tt, tt, tt, tt, tt, tt, tt, tt, tt, tt, tt, tt, tt, tt, tt, tt, tt, tt, tt, tt, ff, ff, ff] ?_
       refine Dul [(40, 52)] 20 true 32 [tt, tt, tt, tt, tt, tt, tt, tt, tt, tt, tt, tt, tt, tt, tt, tt, tt, tt, tt, tt, tt, tt, tt, tt, tt, tt, tt, tt, tt, tt, tt, tt, tt, tt, tt, tt, tt, tt, tt, tt, tt, ff, ff] ?_
       refine Dkl [(41, 53)] 17 false 29 hb84 [tt, tt, tt, tt, tt, tt, tt, tt, tt, tt, tt, tt, tt, tt, tt, tt, tt, tt, tt, tt, tt, tt, tt, tt, tt, tt, tt, tt, tt, tt, tt, tt, tt, tt, tt, tt, tt, tt, tt, tt, tt, tt, ff] ?_
       refine Dtl 42 54 4 _ [tt, tt, tt, tt, tt, tt, tt, tt, tt, tt, tt, tt, tt, tt, tt, tt, tt, tt, tt, tt, tt, tt, tt, tt, tt, tt, tt, tt, tt, tt, tt, tt, tt, tt, tt, tt, tt, tt, tt, tt, tt, tt, tt] (fun _ hq => p1 29 (.const (.bool true)) (.tmp 53) (.bool true) hb84) ?_
       obtain rfl := some_inj h85
       have hs86 : HS w0 F0 w76 F5 [] := hs77.drop 0
       exact DWP.done (by kernel_rfl) ⟨F5, hs86, (le66.trans le78), e8, e9, e10, e11, e12, rfl⟩
      ·have h87 := cond_f h83 hb84
       refine Dgl 18 30 3 _ [tt, tt, tt, tt, tt, tt, tt, tt, tt, tt, tt, tt, tt, tt, tt, tt, tt, tt, tt, ff, ff, ff, ff, ff, ff, ff, ff, ff, ff, ff, ff, ff, ff, ff, ff, ff, ff, ff, ff, ff, ff, ff, ff] 17 false 29 hb84 (fun _ hq => mv 3 (vi s4)) ?_
       refine Dgl 19 31 4 (.bool (decide (s4 > 0))) [tt, tt, tt, tt, tt, tt, tt, tt, tt, tt, tt, tt, tt, tt, tt, tt, tt, tt, tt, tt, ff, ff, ff, ff, ff, ff, ff, ff, ff, ff, ff, ff, ff, ff, ff, ff, ff, ff, ff, ff, ff, ff, ff] 17 false 29 hb84 (fun _ hq => run_gtr (t := 3) (t' := 3) (x := (.tmp 30)) (y := (.const (vi 0))) (k := .i64) (a := s4) (b := 0) rfl rfl) ?_
       refine Dgl 20 32 4 _ [tt, tt, tt, tt, tt, tt, tt, tt, tt, tt, tt, tt, tt, tt, tt, tt, tt, tt, tt, tt, tt, ff, ff, ff, ff, ff, ff, ff, ff, ff, ff, ff, ff, ff, ff, ff, ff, ff, ff, ff, ff, ff, ff] 17 false 29 hb84 (fun _ hq => mv 31 (.bool (decide (s4 > 0)))) ?_
       refine DWP.split (decide (s4 > 0)) (fun hb88 => ?_) (fun hb88 => ?_)
       ·have h89 := cond_t h87 hb88
        refine Dgl 21 33 0 (.pointer (some ⟨b41, 0, none⟩)) [tt, tt, tt, tt, tt, tt, tt, tt, tt, tt, tt, tt, tt, tt, tt, tt, tt, tt, tt, tt, tt, tt, ff, ff, ff, ff, ff, ff, ff, ff, ff, ff, ff, ff, ff, ff, ff, ff, ff, ff, ff, ff, ff] 20 true 32 hb88 (fun _ hq => fa 40 4 0 0 1 b41 0 0) ?_
        refine Dgl 22 34 3 _ [tt, tt, tt, tt, tt, tt, tt, tt, tt, tt, tt, tt, tt, tt, tt, tt, tt, tt, tt, tt, tt, tt, tt, ff, ff, ff, ff, ff, ff, ff, ff, ff, ff, ff, ff, ff, ff, ff, ff, ff, ff, ff, ff] 20 true 32 hb88 (fun _ hq => ld 3 33 b41 0 false 1 (vi x27.ID) (hq.1.2 0 _ _ rfl)) ?_
        refine Dgl 23 35 32 _ [tt, tt, tt, tt, tt, tt, tt, tt, tt, tt, tt, tt, tt, tt, tt, tt, tt, tt, tt, tt, tt, tt, tt, tt, ff, ff, ff, ff, ff, ff, ff, ff, ff, ff, ff, ff, ff, ff, ff, ff, ff, ff, ff] 20 true 32 hb88 (fun _ hq => mv 0 (.slice (some ⟨b31, o32, none⟩) x0.length n0_0) e9) ?_
        refine Dgl 24 36 3 _ [tt, tt, tt, tt, tt, tt, tt, tt, tt, tt, tt, tt, tt, tt, tt, tt, tt, tt, tt, tt, tt, tt, tt, tt, tt, ff, ff, ff, ff, ff, ff, ff, ff, ff, ff, ff, ff, ff, ff, ff, ff, ff, ff] 20 true 32 hb88 (fun _ hq => mv 3 (vi s4)) ?_
        refine Dgl 25 37 3 (vi (W64 (s4 - 1))) [tt, tt, tt, tt, tt, tt, tt, tt, tt, tt, tt, tt, tt, tt, tt, tt, tt, tt, tt, tt, tt, tt, tt, tt, tt, tt, ff, ff, ff, ff, ff, ff, ff, ff, ff, ff, ff, ff, ff, ff, ff, ff, ff] 20 true 32 hb88 (fun _ hq => run_sub (t := 3) (t' := 3) (x := (.tmp 36)) (y := (.const (vi 1))) (k := .i64) (a := s4) (b := 1) rfl rfl) ?_
        obtain ⟨x90, hx91, h93⟩ := bind_some h89
        obtain ⟨hi92, hx91'⟩ := idx_spec hx91
        have hc95 := hE38 _ _ hx91'
        refine Dgl 26 38 0 (.pointer (some ⟨b31, (o32 + ((W64 (s4 - 1)) : Int).toNat * 3), none⟩)) [tt, tt, tt, tt, tt, tt, tt, tt, tt, tt, tt, tt, tt, tt, tt, tt, tt, tt, tt, tt, tt, tt, tt, tt, tt, tt, tt, ff, ff, ff, ff, ff, ff, ff, ff, ff, ff, ff, ff, ff, ff, ff, ff] 20 true 32 hb88 (fun _ hq => ix 32 35 37 b31 o32 40 3 24 hi92) ?_
        refine Dgl 27 39 0 (.pointer (some ⟨b31, (o32 + ((W64 (s4 - 1)) : Int).toNat * 3), none⟩)) [tt, tt, tt, tt, tt, tt, tt, tt, tt, tt, tt, tt, tt, tt, tt, tt, tt, tt, tt, tt, tt, tt, tt, tt, tt, tt, tt, tt, ff, ff, ff, ff, ff, ff, ff, ff, ff, ff, ff, ff, ff, ff, ff] 20 true 32 hb88 (fun _ hq => fa 40 38 0 0 1 b31 (o32 + ((W64 (s4 - 1)) : Int).toNat * 3) (o32 + ((W64 (s4 - 1)) : Int).toNat * 3)) ?_
        refine Dgl 28 40 3 _ [tt, tt, tt, tt, tt, tt, tt, tt, tt, tt, tt, tt, tt, tt, tt, tt, tt, tt, tt, tt, tt, tt, tt, tt, tt, tt, tt, tt, tt, ff, ff, ff, ff, ff, ff, ff, ff, ff, ff, ff, ff, ff, ff] 20 true 32 hb88 (fun _ hq => lx 3 39 0 3 false 1 (vi x90.ID) (hq.1.1 _ _ hF37) hc95) ?_
        refine Dgl 29 41 4 (.bool (decide (x27.ID ≤ x90.ID))) [tt, tt, tt, tt, tt, tt, tt, tt, tt, tt, tt, tt, tt, tt, tt, tt, tt, tt, tt, tt, tt, tt, tt, tt, tt, tt, tt, tt, tt, tt, ff, ff, ff, ff, ff, ff, ff, ff, ff, ff, ff, ff, ff] 20 true 32 hb88 (fun _ hq => run_leq (t := 3) (t' := 3) (x := (.tmp 34)) (y := (.tmp 40)) (k := .i64) (a := x27.ID) (b := x90.ID) rfl rfl) ?_
        refine Dgl 30 42 4 _ [tt, tt, tt, tt, tt, tt, tt, tt, tt, tt, tt, tt, tt, tt, tt, tt, tt, tt, tt, tt, tt, tt, tt, tt, tt, tt, tt, tt, tt, tt, tt, ff, ff, ff, ff, ff, ff, ff, ff, ff, ff, ff, ff] 20 true 32 hb88 (fun _ hq => mv 41 (.bool (decide (x27.ID ≤ x90.ID)))) ?_
        refine DWP.split (decide (x27.ID ≤ x90.ID)) (fun hb96 => ?_) (fun hb96 => ?_)
        ·have h97 := cond_t h93 hb96
         refine Dkl [(31, 43), (32, 44), (33, 45), (34, 46), (35, 47), (36, 48)] 30 false 42 hb96 [tt, tt, tt, tt, tt, tt, tt, tt, tt, tt, tt, tt, tt, tt, tt, tt, tt, tt, tt, tt, tt, tt, tt, tt, tt, tt, tt, tt, tt, tt, tt, tt, tt, tt, tt, tt, tt, ff, ff, ff, ff, ff, ff] ?_
         refine Dkl [(37, 49), (38, 50), (39, 51)] 30 false 42 hb96 [tt, tt, tt, tt, tt, tt, tt, tt, tt, tt, tt, tt, tt, tt, tt, tt, tt, tt, tt, tt, tt, tt, tt, tt, tt, tt, tt, tt, tt, tt, tt, tt, tt, tt, tt, tt, tt, tt, tt, tt, ff, ff, ff] ?_
         refine Dgl 40 52 4 _ [tt, tt, tt, tt, tt, tt, tt, tt, tt, tt, tt, tt, tt, tt, tt, tt, tt, tt, tt, tt, tt, tt, tt, tt, tt, tt, tt, tt, tt, tt, tt, tt, tt, tt, tt, tt, tt, tt, tt, tt, tt, ff, ff] 20 true 32 hb88 (fun _ hq => p1 42 (.const (.bool true)) (.tmp 51) (.bool true) hb96) ?_
         refine Dgl 41 53 4 _ [tt, tt, tt, tt, tt, tt, tt, tt, tt, tt, tt, tt, tt, tt, tt, tt, tt, tt, tt, tt, tt, tt, tt, tt, tt, tt, tt, tt, tt, tt, tt, tt, tt, tt, tt, tt, tt, tt, tt, tt, tt, tt, ff] 17 false 29 hb84 (fun _ hq => p1 32 (.tmp 52) (.const (.bool false)) (.bool true) hb88) ?_
         refine Dtl 42 54 4 _ [tt, tt, tt, tt, tt, tt, tt, tt, tt, tt, tt, tt, tt, tt, tt, tt, tt, tt, tt, tt, tt, tt, tt, tt, tt, tt, tt, tt, tt, tt, tt, tt, tt, tt, tt, tt, tt, tt, tt, tt, tt, tt, tt] (fun _ hq => p0 29 (.const (.bool true)) (.tmp 53) (.bool true) hb84) ?_
         obtain rfl := some_inj h97
         have hs98 : HS w0 F0 w76 F5 [] := hs77.drop 0
         exact DWP.done (by kernel_rfl) ⟨F5, hs98, (le66.trans le78), e8, e9, e10, e11, e12, rfl⟩
        ·have h99 := cond_f h93 hb96
         refine Dgl 31 43 0 (.pointer (some ⟨b41, 1, none⟩)) [tt, tt, tt, tt, tt, tt, tt, tt, tt, tt, tt, tt, tt, tt, tt, tt, tt, tt, tt, tt, tt, tt, tt, tt, tt, tt, tt, tt, tt, tt, tt, tt, ff, ff, ff, ff, ff, ff, ff, ff, ff, ff, ff] 30 false 42 hb96 (fun _ hq => fa 40 4 1 1 1 b41 0 1) ?_
         refine Dgl 32 44 3 _ [tt, tt, tt, tt, tt, tt, tt, tt, tt, tt, tt, tt, tt, tt, tt, tt, tt, tt, tt, tt, tt, tt, tt, tt, tt, tt, tt, tt, tt, tt, tt, tt, tt, ff, ff, ff, ff, ff, ff, ff, ff, ff, ff] 30 false 42 hb96 (fun _ hq => ld 3 43 b41 1 false 1 (vi x27.Lo) (hq.1.2 0 _ _ rfl)) ?_
         refine Dgl 33 45 32 _ [tt, tt, tt, tt, tt, tt, tt, tt, tt, tt, tt, tt, tt, tt, tt, tt, tt, tt, tt, tt, tt, tt, tt, tt, tt, tt, tt, tt, tt, tt, tt, tt, tt, tt, ff, ff, ff, ff, ff, ff, ff, ff, ff] 30 false 42 hb96 (fun _ hq => mv 0 (.slice (some ⟨b31, o32, none⟩) x0.length n0_0) e9) ?_
         refine Dgl 34 46 3 _ [tt, tt, tt, tt, tt, tt, tt, tt, tt, tt, tt, tt, tt, tt, tt, tt, tt, tt, tt, tt, tt, tt, tt, tt, tt, tt, tt, tt, tt, tt, tt, tt, tt, tt, tt, ff, ff, ff, ff, ff, ff, ff, ff] 30 false 42 hb96 (fun _ hq => mv 3 (vi s4)) ?_
         refine Dgl 35 47 3 (vi (W64 (s4 - 1))) [tt, tt, tt, tt, tt, tt, tt, tt, tt, tt, tt, tt, tt, tt, tt, tt, tt, tt, tt, tt, tt, tt, tt, tt, tt, tt, tt, tt, tt, tt, tt, tt, tt, tt, tt, tt, ff, ff, ff, ff, ff, ff, ff] 30 false 42 hb96 (fun _ hq => run_sub (t := 3) (t' := 3) (x := (.tmp 46)) (y := (.const (vi 1))) (k := .i64) (a := s4) (b := 1) rfl rfl) ?_
         obtain ⟨x100, hx101, h103⟩ := bind_some h99
         obtain ⟨hi102, hx101'⟩ := idx_spec hx101
         have hc105 := hE38 _ _ hx101'
         refine Dgl 36 48 0 (.pointer (some ⟨b31, (o32 + ((W64 (s4 - 1)) : Int).toNat * 3), none⟩)) [tt, tt, tt, tt, tt, tt, tt, tt, tt, tt, tt, tt, tt, tt, tt, tt, tt, tt, tt, tt, tt, tt, tt, tt, tt, tt, tt, tt, tt, tt, tt, tt, tt, tt, tt, tt, tt, ff, ff, ff, ff, ff, ff] 30 false 42 hb96 (fun _ hq => ix 32 45 47 b31 o32 40 3 24 hi102) ?_
         refine Dgl 37 49 0 (.pointer (some ⟨b31, ((o32 + ((W64 (s4 - 1)) : Int).toNat * 3) + 2), none⟩)) [tt, tt, tt, tt, tt, tt, tt, tt, tt, tt, tt, tt, tt, tt, tt, tt, tt, tt, tt, tt, tt, tt, tt, tt, tt, tt, tt, tt, tt, tt, tt, tt, tt, tt, tt, tt, tt, tt, ff, ff, ff, ff, ff] 30 false 42 hb96 (fun _ hq => fa 40 48 2 2 1 b31 (o32 + ((W64 (s4 - 1)) : Int).toNat * 3) ((o32 + ((W64 (s4 - 1)) : Int).toNat * 3) + 2)) ?_
         refine Dgl 38 50 3 _ [tt, tt, tt, tt, tt, tt, tt, tt, tt, tt, tt, tt, tt, tt, tt, tt, tt, tt, tt, tt, tt, tt, tt, tt, tt, tt, tt, tt, tt, tt, tt, tt, tt, tt, tt, tt, tt, tt, tt, ff, ff, ff, ff] 30 false 42 hb96 (fun _ hq => lx 3 49 2 3 false 1 (vi x100.Hi) (hq.1.1 _ _ hF37) hc105) ?_
         refine Dgl 39 51 4 (.bool (decide (x27.Lo ≤ x100.Hi))) [tt, tt, tt, tt, tt, tt, tt, tt, tt, tt, tt, tt, tt, tt, tt, tt, tt, tt, tt, tt, tt, tt, tt, tt, tt, tt, tt, tt, tt, tt, tt, tt, tt, tt, tt, tt, tt, tt, tt, tt, ff, ff, ff] 30 false 42 hb96 (fun _ hq => run_leq (t := 3) (t' := 3) (x := (.tmp 44)) (y := (.tmp 50)) (k := .i64) (a := x27.Lo) (b := x100.Hi) rfl rfl) ?_
         refine Dgl 40 52 4 _ [tt, tt, tt, tt, tt, tt, tt, tt, tt, tt, tt, tt, tt, tt, tt, tt, tt, tt, tt, tt, tt, tt, tt, tt, tt, tt, tt, tt, tt, tt, tt, tt, tt, tt, tt, tt, tt, tt, tt, tt, tt, ff, ff] 20 true 32 hb88 (fun _ hq => p0 42 (.const (.bool true)) (.tmp 51) (.bool (decide (x27.Lo ≤ x100.Hi))) hb96) ?_
         refine Dgl 41 53 4 _ [tt, tt, tt, tt, tt, tt, tt, tt, tt, tt, tt, tt, tt, tt, tt, tt, tt, tt, tt, tt, tt, tt, tt, tt, tt, tt, tt, tt, tt, tt, tt, tt, tt, tt, tt, tt, tt, tt, tt, tt, tt, tt, ff] 17 false 29 hb84 (fun _ hq => p1 32 (.tmp 52) (.const (.bool false)) (.bool (decide (x27.Lo ≤ x100.Hi))) hb88) ?_
         refine Dtl 42 54 4 _ [tt, tt, tt, tt, tt, tt, tt, tt, tt, tt, tt, tt, tt, tt, tt, tt, tt, tt, tt, tt, tt, tt, tt, tt, tt, tt, tt, tt, tt, tt, tt, tt, tt, tt, tt, tt, tt, tt, tt, tt, tt, tt, tt] (fun _ hq => p0 29 (.const (.bool true)) (.tmp 53) (.bool (decide (x27.Lo ≤ x100.Hi))) hb84) ?_
         obtain rfl := some_inj h103
         have hs106 : HS w0 F0 w76 F5 [] := hs77.drop 0
         exact DWP.done (by kernel_rfl) ⟨F5, hs106, (le66.trans le78), e8, e9, e10, e11, e12, rfl⟩
       ·have h107 := cond_f h87 hb88
        refine Dkl [(21, 33), (22, 34), (23, 35), (24, 36), (25, 37), (26, 38)] 20 true 32 hb88 [tt, tt, tt, tt, tt, tt, tt, tt, tt, tt, tt, tt, tt, tt, tt, tt, tt, tt, tt, tt, tt, tt, tt, tt, tt, tt, tt, ff, ff, ff, ff, ff, ff, ff, ff, ff, ff, ff, ff, ff, ff, ff, ff] ?_
        refine Dkl [(27, 39), (28, 40), (29, 41), (30, 42)] 20 true 32 hb88 [tt, tt, tt, tt, tt, tt, tt, tt, tt, tt, tt, tt, tt, tt, tt, tt, tt, tt, tt, tt, tt, tt, tt, tt, tt, tt, tt, tt, tt, tt, tt, ff, ff, ff, ff, ff, ff, ff, ff, ff, ff, ff, ff] ?_
        refine Dul [(31, 43), (32, 44), (33, 45), (34, 46), (35, 47), (36, 48)] 30 false 42 [tt, tt, tt, tt, tt, tt, tt, tt, tt, tt, tt, tt, tt, tt, tt, tt, tt, tt, tt, tt, tt, tt, tt, tt, tt, tt, tt, tt, tt, tt, tt, tt, tt, tt, tt, tt, tt, ff, ff, ff, ff, ff, ff] ?_
        refine Dul [(37, 49), (38, 50), (39, 51)] 30 false 42 [tt, tt, tt, tt, tt, tt, tt, tt, tt, tt, tt, tt, tt, tt, tt, tt, tt, tt, tt, tt, tt, tt, tt, tt, tt, tt, tt, tt, tt, tt, tt, tt, tt, tt, tt, tt, tt, tt, tt, tt, ff, ff, ff] ?_
        refine Dkl [(40, 52)] 20 true 32 hb88 [tt, tt, tt, tt, tt, tt, tt, tt, tt, tt, tt, tt, tt, tt, tt, tt, tt, tt, tt, tt, tt, tt, tt, tt, tt, tt, tt, tt, tt, tt, tt, tt, tt, tt, tt, tt, tt, tt, tt, tt, tt, ff, ff] ?_
        refine Dgl 41 53 4 _ [tt, tt, tt, tt, tt, tt, tt, tt, tt, tt, tt, tt, tt, tt, tt, tt, tt, tt, tt, tt, tt, tt, tt, tt, tt, tt, tt, tt, tt, tt, tt, tt, tt, tt, tt, tt, tt, tt, tt, tt, tt, tt, ff] 17 false 29 hb84 (fun _ hq => p0 32 (.tmp 52) (.const (.bool false)) (.bool false) hb88) ?_
        refine Dtl 42 54 4 _ [tt, tt, tt, tt, tt, tt, tt, tt, tt, tt, tt, tt, tt, tt, tt, tt, tt, tt, tt, tt, tt, tt, tt, tt, tt, tt, tt, tt, tt, tt, tt, tt, tt, tt, tt, tt, tt, tt, tt, tt, tt, tt, tt] (fun _ hq => p0 29 (.const (.bool true)) (.tmp 53) (.bool false) hb84) ?_
        obtain rfl := some_inj h107
        have hs108 : HS w0 F0 w76 F5 [] := hs77.drop 0
        exact DWP.done (by kernel_rfl) ⟨F5, hs108, (le66.trans le78), e8, e9, e10, e11, e12, rfl⟩
   ·rintro f w48 ⟨F3, hs49, le50, e52, e53, e54, e55, e56, e57⟩
    refine thenQ_nrm ?_
    refine CWP.cond (t := j51) (by kernel_rfl) e57 (fun hb109 => ?_) (fun hb109 => ?_)
    ·have h110 := cond_t h59 hb109
     refine Sq (Rg [0] ?_)
     refine V 2 4 (mc (.bool false) (.bool false)) ?_
     refine Nt ?_
     refine CWP.ret (by kernel_rfl) ?_
     refine blockQ_ret ?_
     refine thenQ_ret ?_
     refine thenQ_ret ?_
     refine blockQ_ret ?_
     have hret := iter_ret h110 hnx24
     subst hret
     refine .inr ?_
     refine thenQ_ret ?_
     have hfin := some_inj h3
     subst hfin
     exact ⟨e52, (.bool false), res_of (l := [.tmp 2]) (by kernel_rfl) (vs := [(.bool false)]) ⟨rfl, trivial⟩, (.bool false), F3, rfl, hs49.clear, rfl⟩
    ·have h111 := cond_f h59 hb109
     refine Sc ?_
     refine blockQ_nrm ?_
     refine thenQ_nrm ?_
     refine Rg [0, 1] ?_
     refine V 55 3 (run_add (t := 3) (t' := 3) (x := (.tmp 7)) (y := (.const (vi 1))) (k := .i64) (a := s4) (b := 1) e56 rfl) ?_
     refine V 7 3 (mv 55 (vi (W64 (s4 + 1)))) ?_
     refine RWP.nil ?_
     have hn112 := iter_next h111 hnx24
     exact ⟨m21, Nat.lt_succ_self _, (W64 (s4 + 1)), F3, hn112, hs49, (le7.trans le50), e52, e53, e54, e55, rfl⟩
  ·have h113 := cond_f hb23 hb25
   refine CWP.exit (by kernel_rfl) ?_
   refine thenQ_ex ?_
   refine thenQ_ex ?_
   refine blockQ_hit rfl ?_
   have ho114 := iter_done h113 hnx24
   exact .inl ⟨rfl, s4, F1, ho114, hs6, le7, e8, e9⟩
 ·rintro f w14 ⟨s13, F2, rfl, hs15, le16, e17, e18⟩
  have h115 := k_done h3
  refine thenQ_nrm ?_
  refine Sq (Rg [0, 1, 2, 3] ?_)
  refine V 56 32 (mv 0 (.slice a0_0 x0.length n0_0) e18) ?_
  refine V 57 3 (ln 56 32 a0_0 x0.length n0_0 40 3 24) ?_
  refine V 58 4 (run_leq (t := 3) (t' := 3) (x := (.tmp 57)) (y := (.const (vi 16))) (k := .i64) (a := (x0.length : Int)) (b := 16) rfl rfl) ?_
  refine V 2 4 (ma 58 (.bool (decide ((x0.length : Int) ≤ 16)))) ?_
  refine Nt ?_
  refine CWP.ret (by kernel_rfl) ?_
  have hfin := some_inj h115
  subst hfin
  exact ⟨e17, (.bool (decide ((x0.length : Int) ≤ 16))), res_of (l := [.tmp 2]) (by kernel_rfl) (vs := [(.bool (decide ((x0.length : Int) ≤ 16)))]) ⟨rfl, trivial⟩, (.bool (decide ((x0.length : Int) ≤ 16))), F2, rfl, hs15.clear, rfl⟩
end Go.Proofs.YtlddakefmfcblaaGreatDoor
namespace Go.Proofs.YtlddakefmfcblaaGreatDoor
open Go.Proofs
def air_wrongBands (N : Nat) (x0 : (List Band)) (x1 : Int) : Option Int :=
 ((air_ValidBands N x0).bind fun r1 => (bif (!r1) then some 11 else ((air_within N x1 1 10000000).bind fun r12 => (bif (!r12) then some 1 else some 0))))
theorem co_air_wrongBands : CallOk Tryz.prog 68 := fun _ _ => by kernel_rfl
set_option maxHeartbeats 4000000 in
set_option maxRecDepth 100000 in
theorem c_air_wrongBands (N : Nat) (w0 : World) (F0 : Mem) (hF : ∀ b o, F0 b = some o → w0.heap[b]? = some o) (x0 : (List Band)) (a0_0 : Option Addr) (n0_0 : Nat) (hb0_0 : LC x0.length n0_0) (hs0_0 : SlA tBand F0 a0_0 x0) (x1 : Int) (r : Int) (h : air_wrongBands N x0 x1 = some r) :
  Calls Tryz.prog 68 ([(.slice a0_0 x0.length n0_0), (vi x1)] : List Value).toArray w0 (FRet w0 F0 fun F' v => v = (vi r)) := by
 have hs0 := HS.start hF
 refine calls_of (n := 13) (c := bodyOf Tryz.f68) Tryz.func68 (by kernel_rfl) (by kernel_rfl) (by kernel_rfl) ?_
 refine Sq (Rg [0] ?_)
 refine V 4 23 (mc (vi 0) (vi 0)) ?_
 refine Nss ?_
 refine Bk ?_
 refine Sq (Rg [0, 1, 2, 3] ?_)
 refine V 6 32 (mv 0 (.slice a0_0 x0.length n0_0)) ?_
 obtain ⟨r1, hr2, h3⟩ := bind_some h
 refine Cl 7 4 26 #[(.tmp 6)] #[32] co_air_ValidBands hs0 (c_air_ValidBands N w0 F0 hs0.pers (x0) a0_0 n0_0 hb0_0 hs0_0 _ hr2) ?_
 intro v4 F1 w5 hs6 le7 hp8
 obtain rfl := hp8
 refine V 8 4 (run_not (t := 4) (x := (.tmp 7)) (a := r1) rfl) ?_
 refine V 5 4 (ma 8 (.bool (!r1))) ?_
 refine Nt ?_
 refine CWP.cond (t := (!r1)) (by kernel_rfl) rfl (fun hb9 => ?_) (fun hb9 => ?_)
 ·have h10 := cond_t h3 hb9
  refine Sq (Rg [0] ?_)
  refine V 4 23 (mc (vi 11) (vi 11)) ?_
  refine Nt ?_
  refine CWP.ret (by kernel_rfl) ?_
  refine blockQ_ret ?_
  refine thenQ_ret ?_
  have hfin := some_inj h10
  subst hfin
  exact ⟨rfl, (vi 11), res_of (l := [.tmp 4]) (by kernel_rfl) (vs := [(vi 11)]) ⟨rfl, trivial⟩, (vi 11), F1, rfl, hs6.clear, rfl⟩
 ·have h11 := cond_f h3 hb9
  refine Sq (Rg [0, 1, 2, 3] ?_)
  refine V 10 3 (mv 1 (vi x1)) ?_
  obtain ⟨r12, hr13, h14⟩ := bind_some h11
  refine Cl 11 4 73 #[(.tmp 10), (.const (vi 1)), (.const (vi 10000000))] #[3, 3, 3] co_air_within hs6 (c_air_within N w5 F1 hs6.pers (x1) (1) (10000000) _ hr13) ?_
  intro v15 F2 w16 hs17 le18 hp19
  obtain rfl := hp19
  refine V 12 4 (run_not (t := 4) (x := (.tmp 11)) (a := r12) rfl) ?_
  refine V 9 4 (ma 12 (.bool (!r12))) ?_
  refine Nt ?_
  refine CWP.cond (t := (!r12)) (by kernel_rfl) rfl (fun hb20 => ?_) (fun hb20 => ?_)
  ·have h21 := cond_t h14 hb20
   refine Sq (Rg [0] ?_)
   refine V 4 23 (mc (vi 1) (vi 1)) ?_
   refine Nt ?_
   refine CWP.ret (by kernel_rfl) ?_
   refine blockQ_ret ?_
   refine thenQ_ret ?_
   have hfin := some_inj h21
   subst hfin
   exact ⟨rfl, (vi 1), res_of (l := [.tmp 4]) (by kernel_rfl) (vs := [(vi 1)]) ⟨rfl, trivial⟩, (vi 1), F2, rfl, hs17.clear, rfl⟩
  ·have h22 := cond_f h14 hb20
   refine Sc ?_
   refine blockQ_nrm ?_
   refine thenQ_nrm ?_
   refine Sq (Rg [0] ?_)
   refine V 4 23 (mc (vi 0) (vi 0)) ?_
   refine Nt ?_
   refine CWP.ret (by kernel_rfl) ?_
   have hfin := some_inj h22
   subst hfin
   exact ⟨rfl, (vi 0), res_of (l := [.tmp 4]) (by kernel_rfl) (vs := [(vi 0)]) ⟨rfl, trivial⟩, (vi 0), F2, rfl, hs17.clear, rfl⟩
end Go.Proofs.YtlddakefmfcblaaGreatDoor
namespace Go.Proofs.YtlddakefmfcblaaGreatDoor
open Go.Proofs
def air_Nearest_1 (N : Nat) (x0 : Band) (z0 : Int) : Option Int :=
 some (max (max 0 (W64 (x0.Lo - z0))) (W64 (z0 - x0.Hi)))
theorem co_air_Nearest_1 : CallOk Tryz.prog 69 := fun _ _ => by kernel_rfl
set_option maxHeartbeats 4000000 in
set_option maxRecDepth 100000 in
theorem c_air_Nearest_1 (N : Nat) (w0 : World) (F0 : Mem) (hF : ∀ b o, F0 b = some o → w0.heap[b]? = some o) (x0 : Band) (bz0 : Nat) (z0 : Int) (hz0 : F0 bz0 = some (oc #[(vi z0)] 3)) (r : Int) (h : air_Nearest_1 N x0 z0 = some r) :
  Calls Tryz.prog 69 ([(.agg (kBand x0)), (.pointer (some ⟨bz0, 0, none⟩))] : List Value).toArray w0 (FRet w0 F0 fun F' v => v = (vi r)) := by
 have hs0 := HS.start hF
 refine calls_of (n := 13) (c := bodyOf Tryz.f69) Tryz.func69 (by kernel_rfl) (by kernel_rfl) (by kernel_rfl) ?_
 refine Sq (Rg [0, 1] ?_)
 refine Bx 2 0 0 40 (kBand x0) hs0 (fun b1 w2 (hs3 : HS w0 F0 w2 F0 [(sb b1 (kBand x0) 40)]) => ?_)
 refine V 3 3 (mc (vi 0) (vi 0)) ?_
 refine Nss (Rg [0, 1, 2, 3, 4, 5, 6, 7, 8, 9] ?_)
 refine V 4 0 (fa 40 2 1 1 1 b1 0 1) ?_
 refine V 5 3 (ld 3 4 b1 1 false 1 (vi x0.Lo) (hs3.ownAt (k := 0) rfl)) ?_
 refine V 6 3 (ld 3 1 bz0 0 false 1 (vi z0) (hs3.pers _ _ hz0)) ?_
 refine V 7 3 (run_sub (t := 3) (t' := 3) (x := (.tmp 5)) (y := (.tmp 6)) (k := .i64) (a := x0.Lo) (b := z0) rfl rfl) ?_
 refine V 8 3 (ld 3 1 bz0 0 false 1 (vi z0) (hs3.pers _ _ hz0)) ?_
 refine V 9 0 (fa 40 2 2 2 1 b1 0 2) ?_
 refine V 10 3 (ld 3 9 b1 2 false 1 (vi x0.Hi) (hs3.ownAt (k := 0) rfl)) ?_
 refine V 11 3 (run_sub (t := 3) (t' := 3) (x := (.tmp 8)) (y := (.tmp 10)) (k := .i64) (a := z0) (b := x0.Hi) rfl rfl) ?_
 refine V 12 3 (run_max3 (x := (.const (vi 0))) (y := (.tmp 7)) (z := (.tmp 11)) (ats := #[3, 3, 3]) (a := 0) (b := (W64 (x0.Lo - z0))) (c := (W64 (z0 - x0.Hi))) rfl rfl rfl) ?_
 refine V 3 3 (ma 12 (vi (max (max 0 (W64 (x0.Lo - z0))) (W64 (z0 - x0.Hi))))) ?_
 refine Nt ?_
 refine CWP.ret (by kernel_rfl) ?_
 have hfin := some_inj h
 subst hfin
 exact ⟨rfl, (vi (max (max 0 (W64 (x0.Lo - z0))) (W64 (z0 - x0.Hi)))), res_of (l := [.tmp 3]) (by kernel_rfl) (vs := [(vi (max (max 0 (W64 (x0.Lo - z0))) (W64 (z0 - x0.Hi))))]) ⟨rfl, trivial⟩, (vi (max (max 0 (W64 (x0.Lo - z0))) (W64 (z0 - x0.Hi)))), F0, rfl, hs3.clear, rfl⟩
end Go.Proofs.YtlddakefmfcblaaGreatDoor
namespace Go.Proofs.YtlddakefmfcblaaGreatDoor
open Go.Proofs
def slices_MinFunc_api_Band_api_Band_L0 (N : Nat) (x0 : (List Band)) (x1 : (Band → Band → Option Int)) (x7 : Band) : (Int × Int × Int × Int) → Option (Flow Band (Int × Int × Int × Int)) := fun s29 =>
 (bif (decide (s29.1 < (x0.length : Int))) then (((idx x0 s29.1).bind fun x69 => ((x1 x69 ({ ID := s29.2.1, Lo := s29.2.2.1, Hi := s29.2.2.2 } : Band)).bind fun r75 => some (decide (r75 < 0)))).bind fun j59 => ((bif j59 then ((idx x0 s29.1).bind fun x97 => some (x97.ID, x97.Lo, x97.Hi)) else some (s29.2.1, s29.2.2.1, s29.2.2.2)).bind fun j86 => some (.next ((W64 (s29.1 + 1)), j86.1, j86.2.1, j86.2.2)))) else some (.done (s29.1, s29.2.1, s29.2.2.1, s29.2.2.2)))
def slices_MinFunc_api_Band_api_Band (N : Nat) (x0 : (List Band)) (x1 : (Band → Band → Option Int)) : Option Band :=
 (bif (decide ((x0.length : Int) < 1)) then none else ((idx x0 0).bind fun x7 => ((iter (slices_MinFunc_api_Band_api_Band_L0 N x0 x1 x7) N (1, x7.ID, x7.Lo, x7.Hi)).bind fun o => o.k (fun r => some r) (fun s39 => some ({ ID := s39.2.1, Lo := s39.2.2.1, Hi := s39.2.2.2 } : Band)))))
theorem co_slices_MinFunc_api_Band_api_Band : CallOk Tryz.prog 70 := fun _ _ => by kernel_rfl
set_option maxHeartbeats 4000000 in
set_option maxRecDepth 100000 in
theorem c_slices_MinFunc_api_Band_api_Band (N : Nat) (w0 : World) (F0 : Mem) (hF : ∀ b o, F0 b = some o → w0.heap[b]? = some o) (x0 : (List Band)) (a0_0 : Option Addr) (n0_0 : Nat) (hb0_0 : LC x0.length n0_0) (hs0_0 : SlA tBand F0 a0_0 x0) (gx1 : FuncId) (fx1 kx1 : List Value) (x1 : Band → Band → Option Int) (hox1 : CallOk Tryz.prog gx1) (hpx1 : Fn93 F0 gx1 fx1 kx1 x1) (r : Band) (h : slices_MinFunc_api_Band_api_Band N x0 x1 = some r) :
  Calls Tryz.prog 70 ([(.slice a0_0 x0.length n0_0), (.func (.func gx1) fx1.toArray kx1.toArray)] : List Value).toArray w0 (FRet w0 F0 fun F' v => v = (.agg (kBand r))) := by
 have hs0 := HS.start hF
 refine calls_of (n := 33) (c := bodyOf Tryz.f70) Tryz.func70 (by kernel_rfl) (by kernel_rfl) (by kernel_rfl) ?_
 refine Sq (Rg [0] ?_)
 refine Al 4 0 40 #[(vi 0), (vi 0), (vi 0)] hs0 (fun b1 w2 (hs3 : HS w0 F0 w2 F0 [(sb b1 #[(vi 0), (vi 0), (vi 0)] 40)]) => ?_)
 refine Nss ?_
 refine Sq (Rg [0, 1, 2] ?_)
 refine V 7 32 (mv 0 (.slice a0_0 x0.length n0_0)) ?_
 refine V 8 3 (ln 7 32 a0_0 x0.length n0_0 40 3 24) ?_
 refine V 9 4 (run_lss (t := 3) (t' := 3) (x := (.tmp 8)) (y := (.const (vi 1))) (k := .i64) (a := (x0.length : Int)) (b := 1) rfl rfl) ?_
 refine Nt ?_
 refine CWP.cond (t := (decide ((x0.length : Int) < 1))) (by kernel_rfl) rfl (fun hb4 => ?_) (fun hb4 => ?_)
 ·have h5 := cond_t h hb4
  refine Rg [0, 1] ?_
  refine V 10 20 (run_mkIface' (t := 9) (x := (.const (.string ⟨([115, 108, 105, 99, 101, 115, 46, 77, 105, 110, 70, 117, 110, 99, 58, 32, 101, 109, 112, 116, 121, 32, 108, 105, 115, 116] : List UInt8).toArray⟩))) (v := (.string ⟨(([115, 108, 105, 99, 101, 115, 46, 77, 105, 110, 70, 117, 110, 99, 58, 32, 101, 109, 112, 116, 121, 32, 108, 105, 115, 116] : List UInt8)).toArray⟩)) rfl (by kernel_rfl)) ?_
  cases h5
 ·have h6 := cond_f h hb4
  refine Sc ?_
  refine thenQ_nrm ?_
  refine Sq (Rg [0, 1, 2, 3, 4] ?_)
  refine V 11 32 (mv 0 (.slice a0_0 x0.length n0_0)) ?_
  obtain ⟨x7, hx8, h10⟩ := bind_some h6
  obtain ⟨hi9, hx8'⟩ := idx_spec hx8
  obtain ⟨b11, o12, C13, E14, fz15, rfl, hF17, hE18⟩ := SlA.open hs0_0 hx8'
  have hc20 := hE18 _ _ hx8'
  refine V 12 0 (run_index (t := 32) (x := (.tmp 11)) (y := (.const (vi 0))) (b := b11) (o := o12) (E := 40) (s := 3) (by_ := 24) rfl rfl (by kernel_rfl) hi9) ?_
  refine V 13 40 (lx 40 12 0 3 true 3 (.agg (kBand x7)) (hs3.pers _ _ hF17) hc20) ?_
  refine Al 5 0 40 #[(vi 0), (vi 0), (vi 0)] hs3 (fun b21 w22 (hs23 : HS w0 F0 w22 F0 [(sb b21 #[(vi 0), (vi 0), (vi 0)] 40), (sb b1 #[(vi 0), (vi 0), (vi 0)] 40)]) => ?_)
  refine RWP.store (ty := 0) (g := none) (by kernel_rfl) rfl (x := (.tmp 5)) (y := (.tmp 13)) (t := 40) (gg := true) (s := 3) (v := (.agg (kBand x7))) (b := b21) (o := 0) (C := #[(vi 0), (vi 0), (vi 0)]) rfl rfl (by kernel_rfl) hs23 (k := 0) rfl rfl rfl rfl (C' := (kBand x7)) rfl (fun w24 (hs25 : HS w0 F0 w24 F0 [(sb b21 (kBand x7) 40), (sb b1 #[(vi 0), (vi 0), (vi 0)] 40)]) => ?_)
  refine Nss ?_
  refine Sq (Rg [0] ?_)
  refine V 6 3 (mc (vi 1) (vi 1)) ?_
  refine Nt ?_
  obtain ⟨o26, ho27, h28⟩ := bind_some h10
  refine CWP.cut (fun f w => ∃ (s39 : (Int × Int × Int × Int)) (F2 : Mem), o26 = .done s39 ∧ HS w0 F0 w F2 [(sb b21 #[(vi s39.2.1), (vi s39.2.2.1), (vi s39.2.2.2)] 40), (sb b1 #[(vi 0), (vi 0), (vi 0)] 40)] ∧ Mem.le F0 F2 ∧ f.d = [] ∧ f 4 = (.pointer (some ⟨b1, 0, none⟩)) ∧ f 5 = (.pointer (some ⟨b21, 0, none⟩))) ?_ ?_
  ·refine Bk ?_
   refine CWP.loop (by kernel_rfl) (fun m f w => ∃ (s29 : (Int × Int × Int × Int)) (F1 : Mem), iter (slices_MinFunc_api_Band_api_Band_L0 N x0 x1 x7) m s29 = some o26 ∧ HS w0 F0 w F1 [(sb b21 #[(vi s29.2.1), (vi s29.2.2.1), (vi s29.2.2.2)] 40), (sb b1 #[(vi 0), (vi 0), (vi 0)] 40)] ∧ Mem.le F0 F1 ∧ f.d = [] ∧ f 0 = (.slice (some ⟨b11, o12, none⟩) x0.length n0_0) ∧ f 1 = (.func (.func gx1) fx1.toArray kx1.toArray) ∧ f 4 = (.pointer (some ⟨b1, 0, none⟩)) ∧ f 5 = (.pointer (some ⟨b21, 0, none⟩)) ∧ f 6 = (vi s29.1)) N ⟨(1, x7.ID, x7.Lo, x7.Hi), F0, ho27, hs25, (Mem.le.refl _), rfl, rfl, rfl, rfl, rfl, rfl⟩ ?_
   rintro m46 f w30 ⟨s29, F1, hit47, hs31, le32, e33, e34, e35, e36, e37, e38⟩
   obtain ⟨m48, fl49, rfl, hb50, hnx51⟩ := iter_step hit47
   refine Sq ?_
   refine Sq (Rg [0, 1, 2, 3] ?_)
   refine V 14 3 (mv 6 (vi s29.1) e38) ?_
   refine V 15 32 (mv 0 (.slice (some ⟨b11, o12, none⟩) x0.length n0_0) e34) ?_
   refine V 16 3 (ln 15 32 (some ⟨b11, o12, none⟩) x0.length n0_0 40 3 24) ?_
   refine V 17 4 (run_lss (t := 3) (t' := 3) (x := (.tmp 14)) (y := (.tmp 16)) (k := .i64) (a := s29.1) (b := (x0.length : Int)) rfl rfl) ?_
   refine Nt ?_
   refine CWP.cond (t := (decide (s29.1 < (x0.length : Int)))) (by kernel_rfl) rfl (fun hb52 => ?_) (fun hb52 => ?_)
   ·have h53 := cond_t hb50 hb52
    refine Sc ?_
    refine thenQ_nrm ?_
    refine Sq ?_
    refine Bk ?_
    refine Sq ?_
    obtain ⟨j59, hj67, h68⟩ := bind_some h53
    refine CWP.regionD (by kernel_rfl) (by kernel_rfl) (by kernel_rfl) (by kernel_rfl) (z := 8) (F := F1) (Lc := [(sb b21 #[(vi s29.2.1), (vi s29.2.2.1), (vi s29.2.2.2)] 40), (sb b1 #[(vi 0), (vi 0), (vi 0)] 40)]) (Lz := []) (l := [false, false, false, false, false, false, false, false]) (fuel := 8) (by kernel_rfl) (by kernel_rfl) hs31 (by simp) (by simp) (fun f w => ∃ (F3 : Mem), HS w0 F0 w F3 [(sb b21 #[(vi s29.2.1), (vi s29.2.2.1), (vi s29.2.2.2)] 40), (sb b1 #[(vi 0), (vi 0), (vi 0)] 40)] ∧ Mem.le F1 F3 ∧ f.d = [] ∧ f 0 = (.slice (some ⟨b11, o12, none⟩) x0.length n0_0) ∧ f 1 = (.func (.func gx1) fx1.toArray kx1.toArray) ∧ f 4 = (.pointer (some ⟨b1, 0, none⟩)) ∧ f 5 = (.pointer (some ⟨b21, 0, none⟩)) ∧ f 6 = (vi s29.1) ∧ f 27 = (.bool j59)) (fun wd54 hw55 => ?_) ?_
    ·refine Dt 0 20 93 _ (fun _ hq => mv 1 (.func (.func gx1) fx1.toArray kx1.toArray) e35) ?_
     refine Dt 1 21 32 _ (fun _ hq => mv 0 (.slice (some ⟨b11, o12, none⟩) x0.length n0_0) e34) ?_
     refine Dt 2 22 3 _ (fun _ hq => mv 6 (vi s29.1) e38) ?_
     obtain ⟨x69, hx70, h72⟩ := bind_some hj67
     obtain ⟨hi71, hx70'⟩ := idx_spec hx70
     have hc74 := hE18 _ _ hx70'
     refine Dt 3 23 0 (.pointer (some ⟨b11, (o12 + (s29.1 : Int).toNat * 3), none⟩)) (fun _ hq => ix 32 21 22 b11 o12 40 3 24 hi71) ?_
     refine Dt 4 24 40 _ (fun _ hq => lx 40 23 0 3 true 3 (.agg (kBand x69)) (hq.1.1 _ _ (le32 _ _ hF17)) hc74) ?_
     refine Dt 5 25 40 _ (fun _ hq => ld 40 5 b21 0 true 3 (.agg #[(vi s29.2.1), (vi s29.2.2.1), (vi s29.2.2.2)]) (hq.1.2 0 _ _ rfl) e37) ?_
     refine DWP.one (i := 6) (by kernel_rfl) ?_
     obtain ⟨r75, hr76, h77⟩ := bind_some h72
     refine DStep.call (l' := [true, true, true, true, true, true, true, false]) (zd := true) (by kernel_rfl) (by kernel_rfl) (by kernel_rfl) (dst := (some 26)) (ty := 3) (g := none) (by kernel_rfl) rfl (f0 := (.tmp 20)) (aos := #[(.tmp 24), (.tmp 25)]) (ats := #[40, 40]) (fid := gx1) (first := fx1.toArray) (cap := kx1.toArray) (args := (fx1 ++ (([(.agg (kBand x69)), (.agg #[(vi s29.2.1), (vi s29.2.2.1), (vi s29.2.2.2)])] : List Value) ++ kx1))) rfl hox1 (app_args2 (l := [(.agg (kBand x69)), (.agg #[(vi s29.2.1), (vi s29.2.2.1), (vi s29.2.2.2)])]) (fi := fx1) (k := kx1) (rfl)) hw55 (hpx1 wd54 F1 (x69) (({ ID := s29.2.1, Lo := s29.2.2.1, Hi := s29.2.2.2 } : Band)) _ le32 hw55.pers hr76) ?_
     intro v78 F4 w79 hs80 le81 hp82
     obtain rfl := hp82
     refine Dt 7 27 4 (.bool (decide (r75 < 0))) (fun _ hq => run_lss (t := 3) (t' := 3) (x := (.tmp 26)) (y := (.const (vi 0))) (k := .i64) (a := r75) (b := 0) rfl rfl) ?_
     obtain rfl := some_inj h77
     exact DWP.done (by kernel_rfl) ⟨F4, hs80, le81, e33, e34, e35, e36, e37, e38, rfl⟩
    ·rintro f w56 ⟨F3, hs57, le58, e60, e61, e62, e63, e64, e65, e66⟩
     refine thenQ_nrm ?_
     obtain ⟨j86, hj93, h94⟩ := bind_some h68
     refine CWP.cut (fun f w => ∃ (F5 : Mem), HS w0 F0 w F5 [(sb b21 #[(vi j86.1), (vi j86.2.1), (vi j86.2.2)] 40), (sb b1 #[(vi 0), (vi 0), (vi 0)] 40)] ∧ Mem.le F3 F5 ∧ f.d = [] ∧ f 0 = (.slice (some ⟨b11, o12, none⟩) x0.length n0_0) ∧ f 1 = (.func (.func gx1) fx1.toArray kx1.toArray) ∧ f 4 = (.pointer (some ⟨b1, 0, none⟩)) ∧ f 5 = (.pointer (some ⟨b21, 0, none⟩)) ∧ f 6 = (vi s29.1)) ?_ ?_
     ·refine CWP.cond (t := j59) (by kernel_rfl) e66 (fun hb95 => ?_) (fun hb95 => ?_)
      ·have h96 := cond_t hj93 hb95
       refine Rg [0, 1, 2, 3, 4] ?_
       refine V 28 32 (mv 0 (.slice (some ⟨b11, o12, none⟩) x0.length n0_0) e61) ?_
       refine V 29 3 (mv 6 (vi s29.1) e65) ?_
       obtain ⟨x97, hx98, h100⟩ := bind_some h96
       obtain ⟨hi99, hx98'⟩ := idx_spec hx98
       have hc102 := hE18 _ _ hx98'
       refine V 30 0 (ix 32 28 29 b11 o12 40 3 24 hi99) ?_
       refine V 31 40 (lx 40 30 0 3 true 3 (.agg (kBand x97)) (hs57.pers _ _ ((le32.trans le58) _ _ hF17)) hc102) ?_
       refine RWP.store (ty := 0) (g := none) (by kernel_rfl) rfl (x := (.tmp 5)) (y := (.tmp 31)) (t := 40) (gg := true) (s := 3) (v := (.agg (kBand x97))) (b := b21) (o := 0) (C := #[(vi s29.2.1), (vi s29.2.2.1), (vi s29.2.2.2)]) e64 rfl (by kernel_rfl) hs57 (k := 0) rfl rfl rfl rfl (C' := (kBand x97)) rfl (fun w103 (hs104 : HS w0 F0 w103 F3 [(sb b21 (kBand x97) 40), (sb b1 #[(vi 0), (vi 0), (vi 0)] 40)]) => ?_)
       refine RWP.nil ?_
       obtain rfl := some_inj h100
       exact .inl ⟨rfl, F3, hs104, (Mem.le.refl _), e60, e61, e62, e63, e64, e65⟩
      ·have h105 := cond_f hj93 hb95
       refine Sc ?_
       obtain rfl := some_inj h105
       exact .inl ⟨rfl, F3, hs57, (Mem.le.refl _), e60, e61, e62, e63, e64, e65⟩
     ·rintro f w83 ⟨F5, hs84, le85, e87, e88, e89, e90, e91, e92⟩
      refine blockQ_nrm ?_
      refine thenQ_nrm ?_
      refine Rg [0, 1, 2] ?_
      refine V 18 3 (mv 6 (vi s29.1) e92) ?_
      refine V 19 3 (run_add (t := 3) (t' := 3) (x := (.tmp 18)) (y := (.const (vi 1))) (k := .i64) (a := s29.1) (b := 1) rfl rfl) ?_
      refine V 6 3 (ma 19 (vi (W64 (s29.1 + 1)))) ?_
      refine RWP.nil ?_
      have hn106 := iter_next h94 hnx51
      exact ⟨m48, Nat.lt_succ_self _, ((W64 (s29.1 + 1)), j86.1, j86.2.1, j86.2.2), F5, hn106, hs84, ((le32.trans le58).trans le85), e87, e88, e89, e90, e91, rfl⟩
   ·have h107 := cond_f hb50 hb52
    refine CWP.exit (by kernel_rfl) ?_
    refine thenQ_ex ?_
    refine thenQ_ex ?_
    refine blockQ_hit rfl ?_
    have ho108 := iter_done h107 hnx51
    exact .inl ⟨rfl, (s29.1, s29.2.1, s29.2.2.1, s29.2.2.2), F1, ho108, hs31, le32, e33, e36, e37⟩
  ·rintro f w40 ⟨s39, F2, rfl, hs41, le42, e43, e44, e45⟩
   have h109 := k_done h28
   refine thenQ_nrm ?_
   refine Sq (Rg [0, 1] ?_)
   refine V 32 40 (ld 40 5 b21 0 true 3 (.agg #[(vi s39.2.1), (vi s39.2.2.1), (vi s39.2.2.2)]) (hs41.ownAt (k := 0) rfl) e45) ?_
   refine RWP.store (ty := 0) (g := none) (by kernel_rfl) rfl (x := (.tmp 4)) (y := (.tmp 32)) (t := 40) (gg := true) (s := 3) (v := (.agg #[(vi s39.2.1), (vi s39.2.2.1), (vi s39.2.2.2)])) (b := b1) (o := 0) (C := #[(vi 0), (vi 0), (vi 0)]) e44 rfl (by kernel_rfl) hs41 (k := 1) rfl rfl rfl rfl (C' := #[(vi s39.2.1), (vi s39.2.2.1), (vi s39.2.2.2)]) rfl (fun w110 (hs111 : HS w0 F0 w110 F2 [(sb b21 #[(vi s39.2.1), (vi s39.2.2.1), (vi s39.2.2.2)] 40), (sb b1 #[(vi s39.2.1), (vi s39.2.2.1), (vi s39.2.2.2)] 40)]) => ?_)
   refine Nt ?_
   refine CWP.ret (by kernel_rfl) ?_
   have hfin := some_inj h109
   subst hfin
   exact ⟨e43, (.agg #[(vi s39.2.1), (vi s39.2.2.1), (vi s39.2.2.2)]), res_of (l := [.cell 4 40]) (by kernel_rfl) (vs := [(.agg #[(vi s39.2.1), (vi s39.2.2.1), (vi s39.2.2.2)])]) ⟨b1, 0, e44, run_loadVar' (t := 40) (g := true) (s := 3) (by kernel_rfl) (hs111.ownAt (k := 1) rfl) rfl (by decide), trivial⟩, (.agg #[(vi s39.2.1), (vi s39.2.2.1), (vi s39.2.2.2)]), F2, rfl, hs111.clear, rfl⟩
end Go.Proofs.YtlddakefmfcblaaGreatDoor
namespace Go.Proofs.YtlddakefmfcblaaGreatDoor
open Go.Proofs
def cmp_isNaN_int (N : Nat) (x0 : Int) : Option Bool :=
 some (x0 != x0)
theorem co_cmp_isNaN_int : CallOk Tryz.prog 108 := fun _ _ => by kernel_rfl
set_option maxHeartbeats 4000000 in
set_option maxRecDepth 100000 in
theorem c_cmp_isNaN_int (N : Nat) (w0 : World) (F0 : Mem) (hF : ∀ b o, F0 b = some o → w0.heap[b]? = some o) (x0 : Int) (r : Bool) (h : cmp_isNaN_int N x0 = some r) :
  Calls Tryz.prog 108 ([(vi x0)] : List Value).toArray w0 (FRet w0 F0 fun F' v => v = (.bool r)) := by
 have hs0 := HS.start hF
 refine calls_of (n := 6) (c := bodyOf Tryz.f108) Tryz.func108 (by kernel_rfl) (by kernel_rfl) (by kernel_rfl) ?_
 refine Sq (Rg [0] ?_)
 refine V 2 4 (mc (.bool false) (.bool false)) ?_
 refine Nss (Rg [0, 1, 2, 3] ?_)
 refine V 3 3 (mv 0 (vi x0)) ?_
 refine V 4 3 (mv 0 (vi x0)) ?_
 refine V 5 4 (run_neq (t := 3) (t' := 3) (x := (.tmp 3)) (y := (.tmp 4)) (k := .i64) (a := x0) (b := x0) rfl rfl) ?_
 refine V 2 4 (ma 5 (.bool (x0 != x0))) ?_
 refine Nt ?_
 refine CWP.ret (by kernel_rfl) ?_
 have hfin := some_inj h
 subst hfin
 exact ⟨rfl, (.bool (x0 != x0)), res_of (l := [.tmp 2]) (by kernel_rfl) (vs := [(.bool (x0 != x0))]) ⟨rfl, trivial⟩, (.bool (x0 != x0)), F0, rfl, hs0.clear, rfl⟩
end Go.Proofs.YtlddakefmfcblaaGreatDoor
namespace Go.Proofs.YtlddakefmfcblaaGreatDoor
open Go.Proofs
def cmp_Compare_int (N : Nat) (x0 : Int) (x1 : Int) : Option Int :=
 ((cmp_isNaN_int N x0).bind fun r1 => ((cmp_isNaN_int N x1).bind fun r9 => (bif r1 then (bif r9 then some 0 else some (-1)) else (bif r9 then some 1 else (bif (decide (x0 < x1)) then some (-1) else (bif (decide (x0 > x1)) then some 1 else some 0))))))
theorem co_cmp_Compare_int : CallOk Tryz.prog 72 := fun _ _ => by kernel_rfl
set_option maxHeartbeats 4000000 in
set_option maxRecDepth 100000 in
theorem c_cmp_Compare_int (N : Nat) (w0 : World) (F0 : Mem) (hF : ∀ b o, F0 b = some o → w0.heap[b]? = some o) (x0 : Int) (x1 : Int) (r : Int) (h : cmp_Compare_int N x0 x1 = some r) :
  Calls Tryz.prog 72 ([(vi x0), (vi x1)] : List Value).toArray w0 (FRet w0 F0 fun F' v => v = (vi r)) := by
 have hs0 := HS.start hF
 refine calls_of (n := 20) (c := bodyOf Tryz.f72) Tryz.func72 (by kernel_rfl) (by kernel_rfl) (by kernel_rfl) ?_
 refine Sq (Rg [0] ?_)
 refine V 4 3 (mc (vi 0) (vi 0)) ?_
 refine Nss (Rg [0, 1, 2] ?_)
 refine V 7 3 (mv 0 (vi x0)) ?_
 obtain ⟨r1, hr2, h3⟩ := bind_some h
 refine Cl 8 4 108 #[(.tmp 7)] #[3] co_cmp_isNaN_int hs0 (c_cmp_isNaN_int N w0 F0 hs0.pers (x0) _ hr2) ?_
 intro v4 F1 w5 hs6 le7 hp8
 obtain rfl := hp8
 refine V 5 4 (ma 8 (.bool r1)) ?_
 refine Nss (Rg [0, 1, 2] ?_)
 refine V 9 3 (mv 1 (vi x1)) ?_
 obtain ⟨r9, hr10, h11⟩ := bind_some h3
 refine Cl 10 4 108 #[(.tmp 9)] #[3] co_cmp_isNaN_int hs6 (c_cmp_isNaN_int N w5 F1 hs6.pers (x1) _ hr10) ?_
 intro v12 F2 w13 hs14 le15 hp16
 obtain rfl := hp16
 refine V 6 4 (ma 10 (.bool r9)) ?_
 refine Nss ?_
 refine Sq (Rg [0] ?_)
 refine V 11 4 (mv 5 (.bool r1)) ?_
 refine Nt ?_
 refine CWP.cond (t := r1) (by kernel_rfl) rfl (fun hb17 => ?_) (fun hb17 => ?_)
 ·have h18 := cond_t h11 hb17
  refine Sq ?_
  refine Sq (Rg [0] ?_)
  refine V 12 4 (mv 6 (.bool r9)) ?_
  refine Nt ?_
  refine CWP.cond (t := r9) (by kernel_rfl) rfl (fun hb19 => ?_) (fun hb19 => ?_)
  ·have h20 := cond_t h18 hb19
   refine Sq (Rg [0] ?_)
   refine V 4 3 (mc (vi 0) (vi 0)) ?_
   refine Nt ?_
   refine CWP.ret (by kernel_rfl) ?_
   refine thenQ_ret ?_
   refine thenQ_ret ?_
   have hfin := some_inj h20
   subst hfin
   exact ⟨rfl, (vi 0), res_of (l := [.tmp 4]) (by kernel_rfl) (vs := [(vi 0)]) ⟨rfl, trivial⟩, (vi 0), F2, rfl, hs14.clear, rfl⟩
  ·have h21 := cond_f h18 hb19
   refine Sc ?_
   refine thenQ_nrm ?_
   refine Sq (Rg [0] ?_)
   refine V 4 3 (mc (vi (-1)) (vi (-1))) ?_
   refine Nt ?_
   refine CWP.ret (by kernel_rfl) ?_
   refine thenQ_ret ?_
   have hfin := some_inj h21
   subst hfin
   exact ⟨rfl, (vi (-1)), res_of (l := [.tmp 4]) (by kernel_rfl) (vs := [(vi (-1))]) ⟨rfl, trivial⟩, (vi (-1)), F2, rfl, hs14.clear, rfl⟩
 ·have h22 := cond_f h11 hb17
  refine Sc ?_
  refine thenQ_nrm ?_
  refine Sq ?_
  refine Sq (Rg [0] ?_)
  refine V 13 4 (mv 6 (.bool r9)) ?_
  refine Nt ?_
  refine CWP.cond (t := r9) (by kernel_rfl) rfl (fun hb23 => ?_) (fun hb23 => ?_)
  ·have h24 := cond_t h22 hb23
   refine Sq (Rg [0] ?_)
   refine V 4 3 (mc (vi 1) (vi 1)) ?_
   refine Nt ?_
   refine CWP.ret (by kernel_rfl) ?_
   refine thenQ_ret ?_
   have hfin := some_inj h24
   subst hfin
   exact ⟨rfl, (vi 1), res_of (l := [.tmp 4]) (by kernel_rfl) (vs := [(vi 1)]) ⟨rfl, trivial⟩, (vi 1), F2, rfl, hs14.clear, rfl⟩
  ·have h25 := cond_f h22 hb23
   refine Sc ?_
   refine thenQ_nrm ?_
   refine Sq ?_
   refine Sq (Rg [0, 1, 2] ?_)
   refine V 14 3 (mv 0 (vi x0)) ?_
   refine V 15 3 (mv 1 (vi x1)) ?_
   refine V 16 4 (run_lss (t := 3) (t' := 3) (x := (.tmp 14)) (y := (.tmp 15)) (k := .i64) (a := x0) (b := x1) rfl rfl) ?_
   refine Nt ?_
   refine CWP.cond (t := (decide (x0 < x1))) (by kernel_rfl) rfl (fun hb26 => ?_) (fun hb26 => ?_)
   ·have h27 := cond_t h25 hb26
    refine Sq (Rg [0] ?_)
    refine V 4 3 (mc (vi (-1)) (vi (-1))) ?_
    refine Nt ?_
    refine CWP.ret (by kernel_rfl) ?_
    refine thenQ_ret ?_
    have hfin := some_inj h27
    subst hfin
    exact ⟨rfl, (vi (-1)), res_of (l := [.tmp 4]) (by kernel_rfl) (vs := [(vi (-1))]) ⟨rfl, trivial⟩, (vi (-1)), F2, rfl, hs14.clear, rfl⟩
   ·have h28 := cond_f h25 hb26
    refine Sc ?_
    refine thenQ_nrm ?_
    refine Sq ?_
    refine Sq (Rg [0, 1, 2] ?_)
    refine V 17 3 (mv 0 (vi x0)) ?_
    refine V 18 3 (mv 1 (vi x1)) ?_
    refine V 19 4 (run_gtr (t := 3) (t' := 3) (x := (.tmp 17)) (y := (.tmp 18)) (k := .i64) (a := x0) (b := x1) rfl rfl) ?_
    refine Nt ?_
    refine CWP.cond (t := (decide (x0 > x1))) (by kernel_rfl) rfl (fun hb29 => ?_) (fun hb29 => ?_)
    ·have h30 := cond_t h28 hb29
     refine Sq (Rg [0] ?_)
     refine V 4 3 (mc (vi 1) (vi 1)) ?_
     refine Nt ?_
     refine CWP.ret (by kernel_rfl) ?_
     refine thenQ_ret ?_
     have hfin := some_inj h30
     subst hfin
     exact ⟨rfl, (vi 1), res_of (l := [.tmp 4]) (by kernel_rfl) (vs := [(vi 1)]) ⟨rfl, trivial⟩, (vi 1), F2, rfl, hs14.clear, rfl⟩
    ·have h31 := cond_f h28 hb29
     refine Sc ?_
     refine thenQ_nrm ?_
     refine Sq (Rg [0] ?_)
     refine V 4 3 (mc (vi 0) (vi 0)) ?_
     refine Nt ?_
     refine CWP.ret (by kernel_rfl) ?_
     have hfin := some_inj h31
     subst hfin
     exact ⟨rfl, (vi 0), res_of (l := [.tmp 4]) (by kernel_rfl) (vs := [(vi 0)]) ⟨rfl, trivial⟩, (vi 0), F2, rfl, hs14.clear, rfl⟩
end Go.Proofs.YtlddakefmfcblaaGreatDoor
namespace Go.Proofs.YtlddakefmfcblaaGreatDoor
open Go.Proofs
def air_Nearest_2 (N : Nat) (x0 : Band) (x1 : Band) (z0 : (Band → Option Int)) : Option Int :=
 (((z0 x0).bind fun r17 => ((z0 x1).bind fun r25 => ((cmp_Compare_int N r17 r25).bind fun r33 => some r33))).bind fun j12 => some j12)
theorem co_air_Nearest_2 : CallOk Tryz.prog 71 := fun _ _ => by kernel_rfl
set_option maxHeartbeats 4000000 in
set_option maxRecDepth 100000 in
theorem c_air_Nearest_2 (N : Nat) (w0 : World) (F0 : Mem) (hF : ∀ b o, F0 b = some o → w0.heap[b]? = some o) (x0 : Band) (x1 : Band) (bz0 : Nat) (z0 : (Band → Option Int)) (gz0_0 : FuncId) (fz0_0 : List Value) (kz0_0 : List Value) (hoz0_0 : CallOk Tryz.prog gz0_0) (hpz0_0 : Fn90 F0 gz0_0 fz0_0 kz0_0 z0) (hz0 : F0 bz0 = some (oc #[(.func (.func gz0_0) fz0_0.toArray kz0_0.toArray)] 90)) (r : Int) (h : air_Nearest_2 N x0 x1 z0 = some r) :
  Calls Tryz.prog 71 ([(.agg (kBand x0)), (.agg (kBand x1)), (.pointer (some ⟨bz0, 0, none⟩))] : List Value).toArray w0 (FRet w0 F0 fun F' v => v = (vi r)) := by
 have hs0 := HS.start hF
 refine calls_of (n := 13) (c := bodyOf Tryz.f71) Tryz.func71 (by kernel_rfl) (by kernel_rfl) (by kernel_rfl) ?_
 refine Sq (Rg [0, 1, 2] ?_)
 refine Bx 3 0 0 40 (kBand x0) hs0 (fun b1 w2 (hs3 : HS w0 F0 w2 F0 [(sb b1 (kBand x0) 40)]) => ?_)
 refine Bx 4 0 1 40 (kBand x1) hs3 (fun b4 w5 (hs6 : HS w0 F0 w5 F0 [(sb b4 (kBand x1) 40), (sb b1 (kBand x0) 40)]) => ?_)
 refine V 5 3 (mc (vi 0) (vi 0)) ?_
 refine Nss ?_
 obtain ⟨j12, hj15, h16⟩ := bind_some h
 refine CWP.regionD (by kernel_rfl) (by kernel_rfl) (by kernel_rfl) (by kernel_rfl) (z := 8) (F := F0) (Lc := [(sb b4 (kBand x1) 40), (sb b1 (kBand x0) 40)]) (Lz := []) (l := [false, false, false, false, false, false, false, false]) (fuel := 8) (by kernel_rfl) (by kernel_rfl) hs6 (by simp) (by simp) (fun f w => ∃ (F1 : Mem), HS w0 F0 w F1 [] ∧ Mem.le F0 F1 ∧ f.d = [] ∧ f 5 = (vi j12)) (fun wd7 hw8 => ?_) ?_
 ·refine Dt 0 6 90 _ (fun _ hq => ld 90 2 bz0 0 false 1 (.func (.func gz0_0) fz0_0.toArray kz0_0.toArray) (hq.1.1 _ _ hz0)) ?_
  refine Dt 1 7 40 _ (fun _ hq => ld 40 3 b1 0 true 3 (.agg (kBand x0)) (hq.1.2 1 _ _ rfl)) ?_
  refine Dt 3 9 90 _ (fun _ hq => ld 90 2 bz0 0 false 1 (.func (.func gz0_0) fz0_0.toArray kz0_0.toArray) (hq.1.1 _ _ hz0)) ?_
  refine Dt 4 10 40 _ (fun _ hq => ld 40 4 b4 0 true 3 (.agg (kBand x1)) (hq.1.2 0 _ _ rfl)) ?_
  refine DWP.one (i := 2) (by kernel_rfl) ?_
  obtain ⟨r17, hr18, h19⟩ := bind_some hj15
  refine DStep.call (l' := [true, true, true, true, true, false, false, false]) (zd := true) (by kernel_rfl) (by kernel_rfl) (by kernel_rfl) (dst := (some 8)) (ty := 3) (g := none) (by kernel_rfl) rfl (f0 := (.tmp 6)) (aos := #[(.tmp 7)]) (ats := #[40]) (fid := gz0_0) (first := fz0_0.toArray) (cap := kz0_0.toArray) (args := (fz0_0 ++ (([(.agg (kBand x0))] : List Value) ++ kz0_0))) rfl hoz0_0 (app_args2 (l := [(.agg (kBand x0))]) (fi := fz0_0) (k := kz0_0) (rfl)) hw8 (hpz0_0 wd7 F0 (x0) _ (Mem.le.refl _) hw8.pers hr18) ?_
  intro v20 F2 w21 hs22 le23 hp24
  obtain rfl := hp24
  refine DWP.one (i := 5) (by kernel_rfl) ?_
  obtain ⟨r25, hr26, h27⟩ := bind_some h19
  refine DStep.call (l' := [true, true, true, true, true, true, false, false]) (zd := true) (by kernel_rfl) (by kernel_rfl) (by kernel_rfl) (dst := (some 11)) (ty := 3) (g := none) (by kernel_rfl) rfl (f0 := (.tmp 9)) (aos := #[(.tmp 10)]) (ats := #[40]) (fid := gz0_0) (first := fz0_0.toArray) (cap := kz0_0.toArray) (args := (fz0_0 ++ (([(.agg (kBand x1))] : List Value) ++ kz0_0))) rfl hoz0_0 (app_args2 (l := [(.agg (kBand x1))]) (fi := fz0_0) (k := kz0_0) (rfl)) hs22 (hpz0_0 w21 F2 (x1) _ le23 hs22.pers hr26) ?_
  intro v28 F3 w29 hs30 le31 hp32
  obtain rfl := hp32
  refine DWP.one (i := 6) (by kernel_rfl) ?_
  obtain ⟨r33, hr34, h35⟩ := bind_some h27
  refine DStep.call (l' := [true, true, true, true, true, true, true, false]) (zd := true) (by kernel_rfl) (by kernel_rfl) (by kernel_rfl) (dst := (some 12)) (ty := 3) (g := none) (by kernel_rfl) rfl (f0 := (.func 72)) (aos := #[(.tmp 8), (.tmp 11)]) (ats := #[3, 3]) (fid := 72) (first := #[]) (cap := #[]) (args := [(vi r17), (vi r25)]) rfl co_cmp_Compare_int (rfl) hs30 (c_cmp_Compare_int N w29 F3 hs30.pers (r17) (r25) _ hr34) ?_
  intro v36 F4 w37 hs38 le39 hp40
  obtain rfl := hp40
  refine Dt 7 5 3 _ (fun _ hq => ma 12 (vi r33)) ?_
  obtain rfl := some_inj h35
  have hs41 : HS w0 F0 w37 F4 [(sb b1 (kBand x0) 40)] := hs38.drop 0
  have hs42 : HS w0 F0 w37 F4 [] := hs41.drop 0
  exact DWP.done (by kernel_rfl) ⟨F4, hs42, ((le23.trans le31).trans le39), rfl, rfl⟩
 ·rintro f w9 ⟨F1, hs10, le11, e13, e14⟩
  refine thenQ_nrm ?_
  refine CWP.ret (by kernel_rfl) ?_
  have hfin := some_inj h16
  subst hfin
  exact ⟨e13, (vi j12), res_of (l := [.tmp 5]) (by kernel_rfl) (vs := [(vi j12)]) ⟨e14, trivial⟩, (vi j12), F1, rfl, hs10.clear, rfl⟩
end Go.Proofs.YtlddakefmfcblaaGreatDoor
namespace Go.Proofs.YtlddakefmfcblaaGreatDoor
open Go.Proofs
def air_Nearest (N : Nat) (x0 : (List Band)) (x1 : Int) : Option (Int × Int × Int) :=
 ((air_wrongBands N x0 x1).bind fun r4 => (bif (r4 != 0) then some (0, 0, r4) else (bif ((x0.length : Int) == 0) then some (0, 0, 3) else ((slices_MinFunc_api_Band_api_Band N x0 (fun y0 y1 => air_Nearest_2 N y0 y1 (fun y0 => air_Nearest_1 N y0 x1))).bind fun r29 => (((air_Nearest_1 N r29 x1).bind fun r54 => some r54).bind fun j47 => some (r29.ID, j47, 0))))))
theorem co_air_Nearest : CallOk Tryz.prog 24 := fun _ _ => by kernel_rfl
set_option maxHeartbeats 4000000 in
set_option maxRecDepth 100000 in
theorem c_air_Nearest (N : Nat) (w0 : World) (F0 : Mem) (hF : ∀ b o, F0 b = some o → w0.heap[b]? = some o) (x0 : (List Band)) (a0_0 : Option Addr) (n0_0 : Nat) (hb0_0 : LC x0.length n0_0) (hs0_0 : SlA tBand F0 a0_0 x0) (x1 : Int) (r : (Int × Int × Int)) (h : air_Nearest N x0 x1 = some r) :
  Calls Tryz.prog 24 ([(.slice a0_0 x0.length n0_0), (vi x1)] : List Value).toArray w0 (FRet w0 F0 fun F' v => v = (.tuple #[(vi r.1), (vi r.2.1), (vi r.2.2)])) := by
 have hs0 := HS.start hF
 refine calls_of (n := 28) (c := bodyOf Tryz.f24) Tryz.func24 (by kernel_rfl) (by kernel_rfl) (by kernel_rfl) ?_
 refine Sq (Rg [0, 1, 2, 3] ?_)
 refine Bx 3 0 1 3 #[(vi x1)] hs0 (fun b1 w2 (hs3 : HS w0 F0 w2 F0 [(sb b1 #[(vi x1)] 3)]) => ?_)
 refine V 4 3 (mc (vi 0) (vi 0)) ?_
 refine V 5 3 (mc (vi 0) (vi 0)) ?_
 refine V 6 23 (mc (vi 0) (vi 0)) ?_
 refine Nss ?_
 refine Sq (Rg [0, 1, 2, 3] ?_)
 refine V 10 32 (mv 0 (.slice a0_0 x0.length n0_0)) ?_
 refine V 11 3 (ld 3 3 b1 0 false 1 (vi x1) (hs3.ownAt (k := 0) rfl)) ?_
 obtain ⟨r4, hr5, h6⟩ := bind_some h
 refine Cl 12 23 68 #[(.tmp 10), (.tmp 11)] #[32, 3] co_air_wrongBands hs3 (c_air_wrongBands N w2 F0 hs3.pers (x0) a0_0 n0_0 hb0_0 hs0_0 (x1) _ hr5) ?_
 intro v7 F1 w8 hs9 le10 hp11
 obtain rfl := hp11
 refine V 7 23 (ma 12 (vi r4)) ?_
 refine Nss (Rg [0, 1] ?_)
 refine V 13 23 (mv 7 (vi r4)) ?_
 refine V 14 4 (run_neq (t := 23) (t' := 23) (x := (.tmp 13)) (y := (.const (vi 0))) (k := .i64) (a := r4) (b := 0) rfl rfl) ?_
 refine Nt ?_
 refine CWP.cond (t := (r4 != 0)) (by kernel_rfl) rfl (fun hb12 => ?_) (fun hb12 => ?_)
 ·have h13 := cond_t h6 hb12
  refine Sq (Rg [0, 1, 2, 3] ?_)
  refine V 15 23 (mv 7 (vi r4)) ?_
  refine V 4 3 (mc (vi 0) (vi 0)) ?_
  refine V 5 3 (mc (vi 0) (vi 0)) ?_
  refine V 6 23 (ma 15 (vi r4)) ?_
  refine Nt ?_
  refine CWP.ret (by kernel_rfl) ?_
  refine thenQ_ret ?_
  have hfin := some_inj h13
  subst hfin
  exact ⟨rfl, (.tuple #[(vi 0), (vi 0), (vi r4)]), res_of (l := [.tmp 4, .tmp 5, .tmp 6]) (by kernel_rfl) (vs := [(vi 0), (vi 0), (vi r4)]) ⟨rfl, ⟨rfl, ⟨rfl, trivial⟩⟩⟩, (.tuple #[(vi 0), (vi 0), (vi r4)]), F1, rfl, hs9.clear, rfl⟩
 ·have h14 := cond_f h6 hb12
  refine Sc ?_
  refine thenQ_nrm ?_
  refine Sq ?_
  refine Sq (Rg [0, 1, 2] ?_)
  refine V 16 32 (mv 0 (.slice a0_0 x0.length n0_0)) ?_
  refine V 17 3 (ln 16 32 a0_0 x0.length n0_0 40 3 24) ?_
  refine V 18 4 (run_eql (t := 3) (t' := 3) (x := (.tmp 17)) (y := (.const (vi 0))) (k := .i64) (a := (x0.length : Int)) (b := 0) rfl rfl) ?_
  refine Nt ?_
  refine CWP.cond (t := ((x0.length : Int) == 0)) (by kernel_rfl) rfl (fun hb15 => ?_) (fun hb15 => ?_)
  ·have h16 := cond_t h14 hb15
   refine Sq (Rg [0, 1, 2] ?_)
   refine V 4 3 (mc (vi 0) (vi 0)) ?_
   refine V 5 3 (mc (vi 0) (vi 0)) ?_
   refine V 6 23 (mc (vi 3) (vi 3)) ?_
   refine Nt ?_
   refine CWP.ret (by kernel_rfl) ?_
   refine thenQ_ret ?_
   have hfin := some_inj h16
   subst hfin
   exact ⟨rfl, (.tuple #[(vi 0), (vi 0), (vi 3)]), res_of (l := [.tmp 4, .tmp 5, .tmp 6]) (by kernel_rfl) (vs := [(vi 0), (vi 0), (vi 3)]) ⟨rfl, ⟨rfl, ⟨rfl, trivial⟩⟩⟩, (.tuple #[(vi 0), (vi 0), (vi 3)]), F1, rfl, hs9.clear, rfl⟩
  ·have h17 := cond_f h14 hb15
   refine Sc ?_
   refine thenQ_nrm ?_
   refine Sq (Rg [0, 1, 2] ?_)
   refine V 19 90 (run_makeFunc (fn := .func 69) (first := #[]) (cap := #[(.tmp 3)]) (fl := []) (cl := [(.pointer (some ⟨b1, 0, none⟩))]) rfl (rfl)) ?_
   refine RWP.alloc (dst := (some 8)) (ty := 0) (g := none) (by kernel_rfl) rfl (t := 90) (z := .nilFunc) (by kernel_rfl) (C := #[.nilFunc]) rfl hs9 (fun b18 w19 (hs20 : HS w0 F0 w19 F1 [(sb b18 #[.nilFunc] 90), (sb b1 #[(vi x1)] 3)]) => ?_)
   refine RWP.store (ty := 0) (g := none) (by kernel_rfl) rfl (x := (.tmp 8)) (y := (.tmp 19)) (t := 90) (gg := false) (s := 1) (v := (.func (.func 69) #[] #[(.pointer (some ⟨b1, 0, none⟩))])) (b := b18) (o := 0) (C := #[.nilFunc]) rfl rfl (by kernel_rfl) hs20 (k := 0) rfl rfl rfl rfl (C' := #[(.func (.func 69) #[] #[(.pointer (some ⟨b1, 0, none⟩))])]) rfl (fun w21 (hs22 : HS w0 F0 w21 F1 [(sb b18 #[(.func (.func 69) #[] #[(.pointer (some ⟨b1, 0, none⟩))])] 90), (sb b1 #[(vi x1)] 3)]) => ?_)
   refine Nss (Rg [0, 1, 2, 3, 4] ?_)
   refine V 20 32 (mv 0 (.slice a0_0 x0.length n0_0)) ?_
   refine V 21 93 (run_makeFunc (fn := .func 71) (first := #[]) (cap := #[(.tmp 8)]) (fl := []) (cl := [(.pointer (some ⟨b18, 0, none⟩))]) rfl (rfl)) ?_
   obtain ⟨F2, hs23, le24, hF25⟩ : ∃ Fq, HS w0 F0 w21 Fq [(sb b18 #[(.func (.func 69) #[] #[(.pointer (some ⟨b1, 0, none⟩))])] 90)] ∧ Mem.le F1 Fq ∧ Fq b1 = some (oc #[(vi x1)] 3) := HS.freezeC hs22 (k := 1) rfl
   obtain ⟨F3, hs26, le27, hF28⟩ : ∃ Fq, HS w0 F0 w21 Fq [] ∧ Mem.le F2 Fq ∧ Fq b18 = some (oc #[(.func (.func 69) #[] #[(.pointer (some ⟨b1, 0, none⟩))])] 90) := HS.freezeC hs23 (k := 0) rfl
   obtain ⟨r29, hr30, h31⟩ := bind_some h17
   refine Cl 22 40 70 #[(.tmp 20), (.tmp 21)] #[32, 93] co_slices_MinFunc_api_Band_api_Band hs26 (c_slices_MinFunc_api_Band_api_Band N w21 F3 hs26.pers (x0) a0_0 n0_0 hb0_0 (SlA.mono hs0_0 ((le10.trans le24).trans le27)) 71 [] [(.pointer (some ⟨b18, 0, none⟩))] (fun y0 y1 => air_Nearest_2 N y0 y1 (fun y0 => air_Nearest_1 N y0 x1)) co_air_Nearest_2 (fun w1 F1 y0 y1 r le1 pe1 hr1 => c_air_Nearest_2 N w1 F1 pe1  y0 y1 b18 (fun y0 => air_Nearest_1 N y0 x1) 69 [] [(.pointer (some ⟨b1, 0, none⟩))] co_air_Nearest_1 (Fn90.mono (fun w1 F1 y0 r le1 pe1 hr1 => c_air_Nearest_1 N w1 F1 pe1  y0 b1 x1 (le1 _ _ (le27 _ _ hF25)) r hr1) le1) (le1 _ _ hF28) r hr1) _ hr30) ?_
   intro v32 F4 w33 hs34 le35 hp36
   obtain rfl := hp36
   refine Al 9 0 40 #[(vi 0), (vi 0), (vi 0)] hs34 (fun b37 w38 (hs39 : HS w0 F0 w38 F4 [(sb b37 #[(vi 0), (vi 0), (vi 0)] 40)]) => ?_)
   refine RWP.store (ty := 0) (g := none) (by kernel_rfl) rfl (x := (.tmp 9)) (y := (.tmp 22)) (t := 40) (gg := true) (s := 3) (v := (.agg (kBand r29))) (b := b37) (o := 0) (C := #[(vi 0), (vi 0), (vi 0)]) rfl rfl (by kernel_rfl) hs39 (k := 0) rfl rfl rfl rfl (C' := (kBand r29)) rfl (fun w40 (hs41 : HS w0 F0 w40 F4 [(sb b37 (kBand r29) 40)]) => ?_)
   refine Nss ?_
   obtain ⟨j47, hj52, h53⟩ := bind_some h31
   refine CWP.regionD (by kernel_rfl) (by kernel_rfl) (by kernel_rfl) (by kernel_rfl) (z := 8) (F := F4) (Lc := [(sb b37 (kBand r29) 40)]) (Lz := []) (l := [false, false, false, false, false, false, false, false]) (fuel := 8) (by kernel_rfl) (by kernel_rfl) hs41 (by simp) (by simp) (fun f w => ∃ (F5 : Mem), HS w0 F0 w F5 [] ∧ Mem.le F4 F5 ∧ f.d = [] ∧ f 4 = (vi r29.ID) ∧ f 5 = (vi j47) ∧ f 6 = (vi 0)) (fun wd42 hw43 => ?_) ?_
   ·refine Dt 0 23 0 (.pointer (some ⟨b37, 0, none⟩)) (fun _ hq => fa 40 9 0 0 1 b37 0 0) ?_
    refine Dt 1 24 3 _ (fun _ hq => ld 3 23 b37 0 false 1 (vi r29.ID) (hq.1.2 0 _ _ rfl)) ?_
    refine Dt 2 25 90 _ (fun _ hq => ld 90 8 b18 0 false 1 (.func (.func 69) #[] #[(.pointer (some ⟨b1, 0, none⟩))]) (hq.1.1 _ _ (le35 _ _ hF28))) ?_
    refine Dt 3 26 40 _ (fun _ hq => ld 40 9 b37 0 true 3 (.agg (kBand r29)) (hq.1.2 0 _ _ rfl)) ?_
    refine DWP.one (i := 4) (by kernel_rfl) ?_
    obtain ⟨r54, hr55, h56⟩ := bind_some hj52
    refine DStep.call (l' := [true, true, true, true, true, false, false, false]) (zd := true) (by kernel_rfl) (by kernel_rfl) (by kernel_rfl) (dst := (some 27)) (ty := 3) (g := none) (by kernel_rfl) rfl (f0 := (.tmp 25)) (aos := #[(.tmp 26)]) (ats := #[40]) (fid := 69) (first := #[]) (cap := #[(.pointer (some ⟨b1, 0, none⟩))]) (args := [(.agg (kBand r29)), (.pointer (some ⟨b1, 0, none⟩))]) rfl co_air_Nearest_1 (rfl) hw43 (c_air_Nearest_1 N wd42 F4 hw43.pers (r29) b1 x1 ((le27.trans le35) _ _ hF25) _ hr55) ?_
    intro v57 F6 w58 hs59 le60 hp61
    obtain rfl := hp61
    refine Dt 5 4 3 _ (fun _ hq => ma 24 (vi r29.ID)) ?_
    refine Dt 6 5 3 _ (fun _ hq => ma 27 (vi r54)) ?_
    refine Dt 7 6 23 _ (fun _ hq => mc (vi 0) (vi 0)) ?_
    obtain rfl := some_inj h56
    have hs62 : HS w0 F0 w58 F6 [] := hs59.drop 0
    exact DWP.done (by kernel_rfl) ⟨F6, hs62, le60, rfl, rfl, rfl, rfl⟩
   ·rintro f w44 ⟨F5, hs45, le46, e48, e49, e50, e51⟩
    refine thenQ_nrm ?_
    refine CWP.ret (by kernel_rfl) ?_
    have hfin := some_inj h53
    subst hfin
    exact ⟨e48, (.tuple #[(vi r29.ID), (vi j47), (vi 0)]), res_of (l := [.tmp 4, .tmp 5, .tmp 6]) (by kernel_rfl) (vs := [(vi r29.ID), (vi j47), (vi 0)]) ⟨e49, ⟨e50, ⟨e51, trivial⟩⟩⟩, (.tuple #[(vi r29.ID), (vi j47), (vi 0)]), F5, rfl, hs45.clear, rfl⟩
end Go.Proofs.YtlddakefmfcblaaGreatDoor
namespace Go.Proofs.YtlddakefmfcblaaGreatDoor
open Go.Proofs
end Go.Proofs.YtlddakefmfcblaaGreatDoor
namespace Go.Proofs.YtlddakefmfcblaaGreatDoor
open Go.Proofs
end Go.Proofs.YtlddakefmfcblaaGreatDoor
namespace Go.Proofs.YtlddakefmfcblaaGreatDoor
open Go.Proofs
end Go.Proofs.YtlddakefmfcblaaGreatDoor
namespace Go.Proofs.YtlddakefmfcblaaGreatDoor
open Go.Proofs
end Go.Proofs.YtlddakefmfcblaaGreatDoor
namespace Go.Proofs.YtlddakefmfcblaaGreatDoor
theorem iter_check2 {ρ : Type} {body : Int → Option (Flow ρ Int)} {n : Nat} (ok : Nat → Bool) (bad : Nat → ρ)
  (hb : ∀ i, i < n → body (i : Int) = some (bif ok i then .next ((i + 1 : Nat) : Int) else .ret (bad i))) (he : body (n : Int) = some (.done (n : Int))) {N : Nat} (hN : n < N) :
  ((∀ i, i < n → ok i = true) ∧ iter body N 0 = some (.done (n : Int))) ∨ (∃ i, i < n ∧ ok i = false ∧ (∀ k, k < i → ok k = true) ∧ iter body N 0 = some (.ret (bad i))) := by
 obtain ⟨o, ho, hR⟩ := iter_ex (body := body) n (fun i s => s = (i : Int) ∧ ∀ k, k < i → ok k = true) (fun o => ((∀ i, i < n → ok i = true) ∧ o = .done (n : Int)) ∨ (∃ i, i < n ∧ ok i = false ∧ (∀ k, k < i → ok k = true) ∧ o = .ret (bad i))) (by
  rintro i s hi ⟨rfl, hk⟩
  by_cases h : i < n
  ·rw [hb i h]
   cases e : ok i with
   | true =>
    refine .inl ⟨_, rfl, ⟨rfl, fun k hk' => ?_⟩, h⟩
    by_cases hki : k = i
    ·subst hki; exact e
    ·exact hk k (by omega)
   | false => exact .inr ⟨_, rfl, (fun _ h => by cases h), .inr ⟨i, h, e, hk, rfl⟩⟩
  ·have : i = n := by omega
   subst this
   rw [he]
   exact .inr ⟨_, rfl, (fun _ h => by cases h), .inl ⟨hk, rfl⟩⟩) n N 0 0 (by omega) ⟨rfl, fun k hk => by omega⟩ hN
 rcases hR with ⟨h1, rfl⟩ | ⟨i, h1, h2, h3, rfl⟩
 ·exact .inl ⟨h1, ho⟩
 ·exact .inr ⟨i, h1, h2, h3, ho⟩
def bAt (l : List Band) (i : Nat) : Band := l.getD i { ID := 0, Lo := 0, Hi := 0 }
theorem idx_at {l : List Band} {i : Nat} (h : i < l.length) : idx l (i : Int) = some (bAt l i) := by
 rw [idx_nat h]; unfold bAt; rw [List.getD_eq_getElem?_getD, List.getElem?_eq_getElem h]; rfl
theorem bAt_mem {l : List Band} {i : Nat} (h : i < l.length) : bAt l i ∈ l := by
 unfold bAt; rw [List.getD_eq_getElem?_getD, List.getElem?_eq_getElem h]; exact List.getElem_mem h
theorem mem_bAt {l : List Band} {b : Band} (h : b ∈ l) : ∃ i, i < l.length ∧ b = bAt l i := by
 obtain ⟨i, hi, rfl⟩ := List.getElem_of_mem h
 exact ⟨i, hi, by unfold bAt; rw [List.getD_eq_getElem?_getD, List.getElem?_eq_getElem hi]; rfl⟩
def okBand (b : Band) : Bool := (decide (1 ≤ b.ID) && decide (b.ID ≤ 65535)) && ((decide (1 ≤ b.Lo) && decide (b.Lo ≤ b.Hi)) && decide (b.Hi ≤ 10000000))
def okNext (a b : Band) : Bool := decide (a.ID < b.ID) && decide (a.Hi < b.Lo)
def okAt (l : List Band) (i : Nat) : Bool := okBand (bAt l i) && (decide (i = 0) || okNext (bAt l (i - 1)) (bAt l i))
def vB (l : List Band) : Bool := allB l.length (okAt l) && decide (l.length ≤ 16)
theorem gt_dec (a b : Int) : decide (a > b) = !decide (a ≤ b) := by rw [← decide_not, decide_eq_decide]; omega
theorem lt_dec2 (a b : Int) : decide (a < b) = !decide (b ≤ a) := by rw [← decide_not, decide_eq_decide]; omega
theorem w64p (i : Nat) (h : i < 4611686018427387904) (h0 : 0 < i) : W64 ((i : Int) - 1) = ((i - 1 : Nat) : Int) := by
 rw [W64_id (by omega) (by omega)]; omega
section
variable {N : Nat} {l : List Band}
theorem s_ValidBands (hl : l.length < 4000000000) (hN : 4294967300 < N) : air_ValidBands N l = some (vB l) := by
 unfold air_ValidBands
 rw [iter_check' (n := l.length) (okAt l) false ?_ ?_ (by omega)]
 ·unfold vB
  have : decide ((l.length : Int) ≤ 16) = decide (l.length ≤ 16) := by rw [decide_eq_decide]; omega
  rw [this]
  cases allB l.length (okAt l) <;> rfl
 ·intro i hi
  unfold air_ValidBands_L0
  rw [lt_dec hi, cond_true, idx_at hi, Option.bind_some]
  simp only [m_within, Option.bind_some]
  unfold okAt okBand okNext
  rw [w64s i (by omega), gt_dec]
  by_cases h0 : i = 0
  ·subst h0
   rw [decide_eq_false (show ¬ (((0 : Nat) : Int) > 0) by decide), decide_eq_true (show 0 = 0 from rfl)]
   cases (decide (1 ≤ (bAt l 0).ID) && decide ((bAt l 0).ID ≤ 65535)) <;> cases (decide (1 ≤ (bAt l 0).Lo) && decide ((bAt l 0).Lo ≤ (bAt l 0).Hi)) <;> cases decide ((bAt l 0).Hi ≤ 10000000) <;> rfl
  ·rw [decide_eq_true (show (i : Int) > 0 by omega), decide_eq_false h0, w64p i (by omega) (by omega), idx_at (by omega)]
   simp only [Option.bind_some]
   rw [lt_dec2 (bAt l (i - 1)).ID, lt_dec2 (bAt l (i - 1)).Hi]
   cases (decide (1 ≤ (bAt l i).ID) && decide ((bAt l i).ID ≤ 65535)) <;> cases (decide (1 ≤ (bAt l i).Lo) && decide ((bAt l i).Lo ≤ (bAt l i).Hi)) <;> cases decide ((bAt l i).Hi ≤ 10000000) <;> cases decide ((bAt l i).ID ≤ (bAt l (i - 1)).ID) <;> cases decide ((bAt l i).Lo ≤ (bAt l (i - 1)).Hi) <;> rfl
 ·unfold air_ValidBands_L0
  rw [lt_dec', cond_false]
structure BandR (b : Band) : Prop where
 id1 : 1 ≤ b.ID
 id2 : b.ID ≤ 65535
 lo : 1 ≤ b.Lo
 le : b.Lo ≤ b.Hi
 hi : b.Hi ≤ 10000000
theorem okAt_ok {i : Nat} (h : okAt l i = true) : BandR (bAt l i) ∧ (0 < i → (bAt l (i - 1)).ID < (bAt l i).ID ∧ (bAt l (i - 1)).Hi < (bAt l i).Lo) := by
 unfold okAt okBand okNext at h
 simp only [Bool.and_eq_true, Bool.or_eq_true, decide_eq_true_eq] at h
 refine ⟨⟨h.1.1.1, h.1.1.2, h.1.2.1.1, h.1.2.1.2, h.1.2.2⟩, fun h0 => ?_⟩
 rcases h.2 with h2 | h2
 ·omega
 ·exact h2
theorem vB_ok (h : vB l = true) : l.length ≤ 16 ∧ (∀ b, b ∈ l → BandR b) ∧ ∀ j i, i < j → j < l.length → (bAt l i).ID < (bAt l j).ID ∧ (bAt l i).Hi < (bAt l j).Lo := by
 unfold vB at h
 simp only [Bool.and_eq_true, decide_eq_true_eq] at h
 have hall : ∀ i, i < l.length → BandR (bAt l i) := fun i hi => (okAt_ok (allB_t h.1 hi)).1
 refine ⟨h.2, ?_, ?_⟩
 ·intro b hb
  obtain ⟨i, hi, rfl⟩ := mem_bAt hb
  exact hall i hi
 ·intro j
  induction j with
  | zero => intro i hi; omega
  | succ j ih =>
   intro i hi hj
   have h1 := (okAt_ok (allB_t h.1 hj)).2 (by omega)
   rw [Nat.add_sub_cancel] at h1
   by_cases hij : i = j
   ·subst hij; exact h1
   ·have h2 := ih i (by omega) (by omega)
    have h3 := hall j (by omega)
    exact ⟨by omega, by have := h3.le; omega⟩
def dist (b : Band) (f : Int) : Int := max (max 0 (b.Lo - f)) (f - b.Hi)
def near (f : Int) (m b : Band) : Band := if dist b f < dist m f then b else m
def nearS (l : List Band) (f : Int) : Band := (List.range l.length).foldl (fun m i => near f m (bAt l i)) (bAt l 0)
theorem near_fold (f : Int) (l : List Band) (h0 : 0 < l.length) : ∀ n, n ≤ l.length → ((List.range n).foldl (fun m i => near f m (bAt l i)) (bAt l 0)) ∈ l ∧ ∀ i, i < n → dist ((List.range n).foldl (fun m i => near f m (bAt l i)) (bAt l 0)) f ≤ dist (bAt l i) f := by
 intro n
 induction n with
 | zero => intro _; exact ⟨bAt_mem h0, fun i hi => by omega⟩
 | succ n ih =>
  intro hn
  obtain ⟨h1, h2⟩ := ih (by omega)
  rw [List.range_succ, List.foldl_append]
  simp only [List.foldl_cons, List.foldl_nil]
  generalize (List.range n).foldl (fun m i => near f m (bAt l i)) (bAt l 0) = m at h1 h2 ⊢
  unfold near
  split
  ·rename_i hc
   refine ⟨bAt_mem (by omega), fun i hi => ?_⟩
   by_cases hin : i = n
   ·subst hin; exact Int.le_refl _
   ·have := h2 i (by omega); omega
  ·rename_i hc
   refine ⟨h1, fun i hi => ?_⟩
   by_cases hin : i = n
   ·subst hin; omega
   ·exact h2 i (by omega)
theorem nearS_mem (f : Int) (h0 : 0 < l.length) : nearS l f ∈ l := (near_fold f l h0 l.length (Nat.le_refl _)).1
theorem near_pos {f : Int} {m b : Band} (h : dist b f < dist m f) : near f m b = b := if_pos h
theorem near_neg {f : Int} {m b : Band} (h : ¬ dist b f < dist m f) : near f m b = m := if_neg h
theorem near_first (f : Int) (l : List Band) : near f (bAt l 0) (bAt l 0) = bAt l 0 := by unfold near; split <;> rfl
def wrongS (l : List Band) (f : Int) : Int := if vB l = true then (if 1 ≤ f ∧ f ≤ 10000000 then 0 else 1) else 11
theorem s_wrong (hl : l.length < 4000000000) (hN : 4294967300 < N) (f : Int) : air_wrongBands N l f = some (wrongS l f) := by
 unfold air_wrongBands wrongS
 rw [s_ValidBands hl hN, Option.bind_some, m_within]
 cases vB l with
 | false => rfl
 | true =>
  by_cases hf : 1 ≤ f ∧ f ≤ 10000000
  ·rw [if_pos rfl, if_pos hf, decide_eq_true hf.1, decide_eq_true hf.2]; rfl
  ·rw [if_pos rfl, if_neg hf]
   have : (decide (1 ≤ f) && decide (f ≤ 10000000)) = false := by rw [Bool.and_eq_false_iff, decide_eq_false_iff_not, decide_eq_false_iff_not]; omega
   rw [this]; rfl
def nearestS (l : List Band) (f : Int) : Int × Int × Int := if wrongS l f = 0 then (if l.length = 0 then (0, 0, 3) else ((nearS l f).ID, dist (nearS l f) f, 0)) else (0, 0, wrongS l f)
theorem wrong_ok {f : Int} (h : wrongS l f = 0) : vB l = true ∧ 1 ≤ f ∧ f ≤ 10000000 := by
 unfold wrongS at h
 split at h
 ·split at h
  ·exact ⟨by assumption, by omega, by omega⟩
  ·omega
 ·omega
theorem n1 {b : Band} {f : Int} (hb : BandR b) (h1 : 1 ≤ f) (h2 : f ≤ 10000000) : air_Nearest_1 N b f = some (dist b f) := by
 unfold air_Nearest_1 dist
 have := hb.lo; have := hb.le; have := hb.hi
 rw [W64_id (by omega) (by omega), W64_id (by omega) (by omega)]
theorem cmp_lt (a b : Int) : (cmp_Compare_int N a b).bind (fun r => some (decide (r < 0))) = some (decide (a < b)) := by
 unfold cmp_Compare_int cmp_isNaN_int
 rw [show (a != a) = false by simp, show (b != b) = false by simp]
 simp only [Option.bind_some, cond_false]
 by_cases h : a < b
 ·rw [decide_eq_true h]; rfl
 ·rw [decide_eq_false h, cond_false]
  cases decide (a > b) <;> rfl
theorem n2 {a b : Band} {f : Int} (ha : BandR a) (hb : BandR b) (h1 : 1 ≤ f) (h2 : f ≤ 10000000) : (air_Nearest_2 N a b (fun y0 => air_Nearest_1 N y0 f)).bind (fun r => some (decide (r < 0))) = some (decide (dist a f < dist b f)) := by
 unfold air_Nearest_2
 simp only [n1 ha h1 h2, n1 hb h1 h2, Option.bind_some]
 rw [← cmp_lt (N := N) (dist a f) (dist b f)]
 cases cmp_Compare_int N (dist a f) (dist b f) <;> rfl
theorem s_Min {f : Int} (hv : vB l = true) (h0 : 0 < l.length) (h1 : 1 ≤ f) (h2 : f ≤ 10000000) (hN : 4294967300 < N) : slices_MinFunc_api_Band_api_Band N l (fun y0 y1 => air_Nearest_2 N y0 y1 (fun y0 => air_Nearest_1 N y0 f)) = some (nearS l f) := by
 obtain ⟨h16, hR, _⟩ := vB_ok hv
 unfold slices_MinFunc_api_Band_api_Band
 rw [decide_eq_false (by omega), cond_false, show (0 : Int) = ((0 : Nat) : Int) from rfl, idx_at h0, Option.bind_some]
 let enc : Nat → Band → Int × Int × Int × Int := fun i m => ((i : Int), m.ID, m.Lo, m.Hi)
 let fo : Nat → Band := fun n => (List.range n).foldl (fun m i => near f m (bAt l i)) (bAt l 0)
 obtain ⟨o, ho, rfl⟩ := iter_ex (body := slices_MinFunc_api_Band_api_Band_L0 N l (fun y0 y1 => air_Nearest_2 N y0 y1 (fun y0 => air_Nearest_1 N y0 f)) (bAt l 0)) l.length (fun i s => 1 ≤ i ∧ s = enc i (fo i)) (fun o => o = .done (enc l.length (fo l.length))) (by
  rintro i s hi ⟨hi1, rfl⟩
  by_cases h : i < l.length
  ·refine .inl ⟨enc (i + 1) (fo (i + 1)), ?_, ⟨by omega, rfl⟩, h⟩
   have hm := (near_fold f l h0 i hi).1
   have e1 : fo (i + 1) = near f (fo i) (bAt l i) := by show (List.range (i + 1)).foldl _ _ = _; rw [List.range_succ, List.foldl_append]; rfl
   rw [e1]
   unfold slices_MinFunc_api_Band_api_Band_L0
   show (bif decide ((i : Int) < (l.length : Int)) then _ else _) = _
   rw [lt_dec h, cond_true]
   show ((idx l (i : Int)).bind _).bind _ = _
   rw [idx_at h, Option.bind_some]
   show (((air_Nearest_2 N (bAt l i) (fo i) (fun y0 => air_Nearest_1 N y0 f)).bind fun r75 => some (decide (r75 < 0))).bind _) = _
   rw [n2 (hR _ (bAt_mem h)) (hR _ hm) h1 h2, Option.bind_some]
   by_cases hd : dist (bAt l i) f < dist (fo i) f
   ·rw [decide_eq_true hd, cond_true, near_pos hd]
    show some (Flow.next (W64 ((i : Int) + 1), _, _, _)) = _
    rw [w64s i (by omega)]
   ·rw [decide_eq_false hd, cond_false, near_neg hd]
    show some (Flow.next (W64 ((i : Int) + 1), _, _, _)) = _
    rw [w64s i (by omega)]
  ·have : i = l.length := by omega
   subst this
   refine .inr ⟨_, ?_, (fun _ h => by cases h), rfl⟩
   unfold slices_MinFunc_api_Band_api_Band_L0
   show (bif decide ((l.length : Int) < (l.length : Int)) then _ else _) = _
   rw [lt_dec', cond_false]) (l.length - 1) N 1 (enc 1 (fo 1)) (by omega) ⟨Nat.le_refl _, rfl⟩ (by omega)
 have e1 : fo 1 = bAt l 0 := near_first f l
 have ho' := ho
 rw [e1] at ho'
 have : iter (slices_MinFunc_api_Band_api_Band_L0 N l (fun y0 y1 => air_Nearest_2 N y0 y1 (fun y0 => air_Nearest_1 N y0 f)) (bAt l 0)) N (1, (bAt l 0).ID, (bAt l 0).Lo, (bAt l 0).Hi) = some (.done (enc l.length (fo l.length))) := ho'
 rw [this]
 rfl
theorem s_Nearest (hl : l.length < 4000000000) (hN : 4294967300 < N) (f : Int) : air_Nearest N l f = some (nearestS l f) := by
 unfold air_Nearest nearestS
 rw [s_wrong hl hN, Option.bind_some]
 by_cases hw : wrongS l f = 0
 ·rw [if_pos hw, hw, show ((0 : Int) != 0) = false from rfl, cond_false]
  obtain ⟨hv, h1, h2⟩ := wrong_ok hw
  by_cases h0 : l.length = 0
  ·rw [if_pos h0, show ((l.length : Int) == 0) = true by simp [h0]]; rfl
  ·rw [if_neg h0, show ((l.length : Int) == 0) = false by simp; intro h; rw [h] at h0; exact h0 rfl, cond_false, s_Min hv (by omega) h1 h2 hN, Option.bind_some]
   rw [n1 ((vB_ok hv).2.1 _ (nearS_mem f (by omega))) h1 h2]
   rfl
 ·rw [if_neg hw, show (wrongS l f != 0) = true by simpa using hw, cond_true]
end
end Go.Proofs.YtlddakefmfcblaaGreatDoor
namespace Go.Proofs.YtlddakefmfcblaaGreatDoor
open Go.Proofs
def slices_IndexFunc_api_Prefix_api_Prefix_L0 (N : Nat) (x0 : (List Prefix)) (x1 : (Prefix → Option Bool)) : Int → Option (Flow Int Int) := fun s4 =>
 (bif (decide (s4 < (x0.length : Int))) then ((idx x0 s4).bind fun x26 => ((x1 x26).bind fun r40 => (bif r40 then some (.ret s4) else some (.next (W64 (s4 + 1)))))) else some (.done s4))
def slices_IndexFunc_api_Prefix_api_Prefix (N : Nat) (x0 : (List Prefix)) (x1 : (Prefix → Option Bool)) : Option Int :=
 ((iter (slices_IndexFunc_api_Prefix_api_Prefix_L0 N x0 x1) N 0).bind fun o => o.k (fun r => some r) (fun s13 => some (-1)))
theorem co_slices_IndexFunc_api_Prefix_api_Prefix : CallOk Tryz.prog 154 := fun _ _ => by kernel_rfl
set_option maxHeartbeats 4000000 in
set_option maxRecDepth 100000 in
theorem c_slices_IndexFunc_api_Prefix_api_Prefix (N : Nat) (w0 : World) (F0 : Mem) (hF : ∀ b o, F0 b = some o → w0.heap[b]? = some o) (x0 : (List Prefix)) (a0_0 : Option Addr) (n0_0 : Nat) (hb0_0 : LC x0.length n0_0) (hs0_0 : SlA tPrefix F0 a0_0 x0) (gx1 : FuncId) (fx1 kx1 : List Value) (x1 : Prefix → Option Bool) (hox1 : CallOk Tryz.prog gx1) (hpx1 : Fn151 F0 gx1 fx1 kx1 x1) (r : Int) (h : slices_IndexFunc_api_Prefix_api_Prefix N x0 x1 = some r) :
  Calls Tryz.prog 154 ([(.slice a0_0 x0.length n0_0), (.func (.func gx1) fx1.toArray kx1.toArray)] : List Value).toArray w0 (FRet w0 F0 fun F' v => v = (vi r)) := by
 have hs0 := HS.start hF
 refine calls_of (n := 19) (c := bodyOf Tryz.f154) Tryz.func154 (by kernel_rfl) (by kernel_rfl) (by kernel_rfl) ?_
 refine Sq (Rg [0] ?_)
 refine V 4 3 (mc (vi 0) (vi 0)) ?_
 refine Nss ?_
 refine Sq (Rg [0, 1, 2] ?_)
 refine V 6 61 (mv 0 (.slice a0_0 x0.length n0_0)) ?_
 refine V 7 3 (ln 6 61 a0_0 x0.length n0_0 71 7 64) ?_
 refine V 8 3 (run_move (x := (.const (vi 0))) (v := (vi 0)) rfl) ?_
 refine Nt ?_
 obtain ⟨o1, ho2, h3⟩ := bind_some h
 refine CWP.cut (fun f w => ∃ (s13 : Int) (F2 : Mem), o1 = .done s13 ∧ HS w0 F0 w F2 [] ∧ Mem.le F0 F2 ∧ f.d = []) ?_ ?_
 ·refine Bk ?_
  refine CWP.loop (by kernel_rfl) (fun m f w => ∃ (s4 : Int) (F1 : Mem), iter (slices_IndexFunc_api_Prefix_api_Prefix_L0 N x0 x1) m s4 = some o1 ∧ HS w0 F0 w F1 [] ∧ Mem.le F0 F1 ∧ f.d = [] ∧ f 0 = (.slice a0_0 x0.length n0_0) ∧ f 1 = (.func (.func gx1) fx1.toArray kx1.toArray) ∧ f 7 = (vi (x0.length : Int)) ∧ f 8 = (vi s4)) N ⟨0, F0, ho2, hs0, (Mem.le.refl _), rfl, rfl, rfl, rfl, rfl⟩ ?_
  rintro m18 f w5 ⟨s4, F1, hit19, hs6, le7, e8, e9, e10, e11, e12⟩
  obtain ⟨m20, fl21, rfl, hb22, hnx23⟩ := iter_step hit19
  refine Sq (Rg [0] ?_)
  refine V 9 0 (run_lss (t := 3) (t' := 3) (x := (.tmp 8)) (y := (.tmp 7)) (k := .i64) (a := s4) (b := (x0.length : Int)) e12 e11) ?_
  refine Nss ?_
  refine CWP.cond (t := (decide (s4 < (x0.length : Int)))) (by kernel_rfl) rfl (fun hb24 => ?_) (fun hb24 => ?_)
  ·have h25 := cond_t hb22 hb24
   refine Sc ?_
   refine thenQ_nrm ?_
   refine Sq ?_
   refine Bk ?_
   refine Sq (Rg [0, 1] ?_)
   refine V 10 3 (mv 8 (vi s4) e12) ?_
   refine V 5 3 (ma 10 (vi s4)) ?_
   refine Nss (Rg [0, 1, 2, 3, 4, 5] ?_)
   refine V 11 151 (mv 1 (.func (.func gx1) fx1.toArray kx1.toArray) e10) ?_
   refine V 12 61 (mv 0 (.slice a0_0 x0.length n0_0) e9) ?_
   refine V 13 3 (mv 5 (vi s4)) ?_
   obtain ⟨x26, hx27, h29⟩ := bind_some h25
   obtain ⟨hi28, hx27'⟩ := idx_spec hx27
   obtain ⟨b30, o31, C32, E33, fz34, rfl, hF36, hE37⟩ := SlA.open (SlA.mono hs0_0 le7) hx27'
   have hc39 := hE37 _ _ hx27'
   refine V 14 0 (ix 61 12 13 b30 o31 71 7 64 hi28) ?_
   refine V 15 71 (lx 71 14 0 7 true 7 (.agg #[(.string ⟨(x26.Text).toArray⟩), (vi x26.Country), (vi x26.Zone), (vi x26.Continent), (vi x26.From), (vi x26.To), (.bool x26.Whole)]) (hs6.pers _ _ hF36) hc39) ?_
   obtain ⟨r40, hr41, h42⟩ := bind_some h29
   refine RWP.call (dst := (some 16)) (ty := 4) (g := none) (by kernel_rfl) rfl (f0 := (.tmp 11)) (aos := #[(.tmp 15)]) (ats := #[71]) (fid := gx1) (first := fx1.toArray) (cap := kx1.toArray) (args := (fx1 ++ (([(.agg #[(.string ⟨(x26.Text).toArray⟩), (vi x26.Country), (vi x26.Zone), (vi x26.Continent), (vi x26.From), (vi x26.To), (.bool x26.Whole)])] : List Value) ++ kx1))) rfl hox1 (app_args2 (l := [(.agg #[(.string ⟨(x26.Text).toArray⟩), (vi x26.Country), (vi x26.Zone), (vi x26.Continent), (vi x26.From), (vi x26.To), (.bool x26.Whole)])]) (fi := fx1) (k := kx1) (rfl)) hs6 (hpx1 w5 F1 (x26) _ le7 hs6.pers hr41) ?_
   intro v43 F3 w44 hs45 le46 hp47
   obtain rfl := hp47
   refine Nt ?_
   refine CWP.cond (t := r40) (by kernel_rfl) rfl (fun hb48 => ?_) (fun hb48 => ?_)
   ·have h49 := cond_t h42 hb48
    refine Sq (Rg [0, 1] ?_)
    refine V 17 3 (mv 5 (vi s4)) ?_
    refine V 4 3 (ma 17 (vi s4)) ?_
    refine Nt ?_
    refine CWP.ret (by kernel_rfl) ?_
    refine blockQ_ret ?_
    refine thenQ_ret ?_
    refine thenQ_ret ?_
    refine blockQ_ret ?_
    have hret := iter_ret h49 hnx23
    subst hret
    refine .inr ?_
    refine thenQ_ret ?_
    have hfin := some_inj h3
    subst hfin
    exact ⟨e8, (vi s4), res_of (l := [.tmp 4]) (by kernel_rfl) (vs := [(vi s4)]) ⟨rfl, trivial⟩, (vi s4), F3, rfl, hs45.clear, rfl⟩
   ·have h50 := cond_f h42 hb48
    refine Sc ?_
    refine blockQ_nrm ?_
    refine thenQ_nrm ?_
    refine Rg [0, 1] ?_
    refine V 18 3 (run_add (t := 3) (t' := 3) (x := (.tmp 8)) (y := (.const (vi 1))) (k := .i64) (a := s4) (b := 1) e12 rfl) ?_
    refine V 8 3 (mv 18 (vi (W64 (s4 + 1)))) ?_
    refine RWP.nil ?_
    have hn51 := iter_next h50 hnx23
    exact ⟨m20, Nat.lt_succ_self _, (W64 (s4 + 1)), F3, hn51, hs45, (le7.trans le46), e8, e9, e10, e11, rfl⟩
  ·have h52 := cond_f hb22 hb24
   refine CWP.exit (by kernel_rfl) ?_
   refine thenQ_ex ?_
   refine thenQ_ex ?_
   refine blockQ_hit rfl ?_
   have ho53 := iter_done h52 hnx23
   exact .inl ⟨rfl, s4, F1, ho53, hs6, le7, e8⟩
 ·rintro f w14 ⟨s13, F2, rfl, hs15, le16, e17⟩
  have h54 := k_done h3
  refine thenQ_nrm ?_
  refine Sq (Rg [0] ?_)
  refine V 4 3 (mc (vi (-1)) (vi (-1))) ?_
  refine Nt ?_
  refine CWP.ret (by kernel_rfl) ?_
  have hfin := some_inj h54
  subst hfin
  exact ⟨e17, (vi (-1)), res_of (l := [.tmp 4]) (by kernel_rfl) (vs := [(vi (-1))]) ⟨rfl, trivial⟩, (vi (-1)), F2, rfl, hs15.clear, rfl⟩
end Go.Proofs.YtlddakefmfcblaaGreatDoor
namespace Go.Proofs.YtlddakefmfcblaaGreatDoor
open Go.Proofs
def slices_ContainsFunc_api_Prefix_api_Prefix (N : Nat) (x0 : (List Prefix)) (x1 : (Prefix → Option Bool)) : Option Bool :=
 ((slices_IndexFunc_api_Prefix_api_Prefix N x0 x1).bind fun r1 => some (decide (r1 ≥ 0)))
theorem co_slices_ContainsFunc_api_Prefix_api_Prefix : CallOk Tryz.prog 122 := fun _ _ => by kernel_rfl
set_option maxHeartbeats 4000000 in
set_option maxRecDepth 100000 in
theorem c_slices_ContainsFunc_api_Prefix_api_Prefix (N : Nat) (w0 : World) (F0 : Mem) (hF : ∀ b o, F0 b = some o → w0.heap[b]? = some o) (x0 : (List Prefix)) (a0_0 : Option Addr) (n0_0 : Nat) (hb0_0 : LC x0.length n0_0) (hs0_0 : SlA tPrefix F0 a0_0 x0) (gx1 : FuncId) (fx1 kx1 : List Value) (x1 : Prefix → Option Bool) (hox1 : CallOk Tryz.prog gx1) (hpx1 : Fn151 F0 gx1 fx1 kx1 x1) (r : Bool) (h : slices_ContainsFunc_api_Prefix_api_Prefix N x0 x1 = some r) :
  Calls Tryz.prog 122 ([(.slice a0_0 x0.length n0_0), (.func (.func gx1) fx1.toArray kx1.toArray)] : List Value).toArray w0 (FRet w0 F0 fun F' v => v = (.bool r)) := by
 have hs0 := HS.start hF
 refine calls_of (n := 9) (c := bodyOf Tryz.f122) Tryz.func122 (by kernel_rfl) (by kernel_rfl) (by kernel_rfl) ?_
 refine Sq (Rg [0] ?_)
 refine V 4 4 (mc (.bool false) (.bool false)) ?_
 refine Nss (Rg [0, 1, 2, 3, 4] ?_)
 refine V 5 61 (mv 0 (.slice a0_0 x0.length n0_0)) ?_
 refine V 6 151 (mv 1 (.func (.func gx1) fx1.toArray kx1.toArray)) ?_
 obtain ⟨r1, hr2, h3⟩ := bind_some h
 refine Cl 7 3 154 #[(.tmp 5), (.tmp 6)] #[61, 151] co_slices_IndexFunc_api_Prefix_api_Prefix hs0 (c_slices_IndexFunc_api_Prefix_api_Prefix N w0 F0 hs0.pers (x0) a0_0 n0_0 hb0_0 hs0_0 gx1 fx1 kx1 x1 hox1 (fun w1 F1 y0 r le1 pe1 hr1 => hpx1 w1 F1 y0 r (le1) pe1 hr1) _ hr2) ?_
 intro v4 F1 w5 hs6 le7 hp8
 obtain rfl := hp8
 refine V 8 4 (run_geq (t := 3) (t' := 3) (x := (.tmp 7)) (y := (.const (vi 0))) (k := .i64) (a := r1) (b := 0) rfl rfl) ?_
 refine V 4 4 (ma 8 (.bool (decide (r1 ≥ 0)))) ?_
 refine Nt ?_
 refine CWP.ret (by kernel_rfl) ?_
 have hfin := some_inj h3
 subst hfin
 exact ⟨rfl, (.bool (decide (r1 ≥ 0))), res_of (l := [.tmp 4]) (by kernel_rfl) (vs := [(.bool (decide (r1 ≥ 0)))]) ⟨rfl, trivial⟩, (.bool (decide (r1 ≥ 0))), F1, rfl, hs6.clear, rfl⟩
end Go.Proofs.YtlddakefmfcblaaGreatDoor
namespace Go.Proofs.YtlddakefmfcblaaGreatDoor
open Go.Proofs
def air_validRow_1 (N : Nat) (x0 : Int) (z0 : Prefix) : Option Bool :=
 (((air_either N x0).bind fun r9 => (bif r9 then some true else (bif z0.Whole then some (x0 == 47) else some false))).bind fun j4 => some j4)
theorem co_air_validRow_1 : CallOk Tryz.prog 155 := fun _ _ => by kernel_rfl
set_option maxHeartbeats 4000000 in
set_option maxRecDepth 100000 in
theorem c_air_validRow_1 (N : Nat) (w0 : World) (F0 : Mem) (hF : ∀ b o, F0 b = some o → w0.heap[b]? = some o) (x0 : Int) (bz0 : Nat) (z0 : Prefix) (hz0 : F0 bz0 = some (oc #[(.string ⟨(z0.Text).toArray⟩), (vi z0.Country), (vi z0.Zone), (vi z0.Continent), (vi z0.From), (vi z0.To), (.bool z0.Whole)] 71)) (r : Bool) (h : air_validRow_1 N x0 z0 = some r) :
  Calls Tryz.prog 155 ([(.int .i32 x0), (.pointer (some ⟨bz0, 0, none⟩))] : List Value).toArray w0 (FRet w0 F0 fun F' v => v = (.bool r)) := by
 have hs0 := HS.start hF
 refine calls_of (n := 14) (c := bodyOf Tryz.f155) Tryz.func155 (by kernel_rfl) (by kernel_rfl) (by kernel_rfl) ?_
 refine Sq (Rg [0] ?_)
 refine V 3 4 (mc (.bool false) (.bool false)) ?_
 refine Nss (Rg [0, 1, 2, 3, 4, 5, 6, 7, 8, 9, 10] ?_)
 obtain ⟨j4, hj7, h8⟩ := bind_some h
 refine RWP.cut (fun f w => ∃ (F1 : Mem), HS w0 F0 w F1 [] ∧ Mem.le F0 F1 ∧ f.d = [] ∧ f 3 = (.bool j4)) ?_ ?_
 ·refine V 4 21 (mv 0 (.int .i32 x0)) ?_
  obtain ⟨r9, hr10, h11⟩ := bind_some hj7
  refine Cl 5 4 156 #[(.tmp 4)] #[21] co_air_either hs0 (c_air_either N w0 F0 hs0.pers (x0) _ hr10) ?_
  intro v12 F2 w13 hs14 le15 hp16
  obtain rfl := hp16
  refine V 6 4 (mv 5 (.bool r9)) ?_
  refine RWP.split r9 (fun hb17 => ?_) (fun hb17 => ?_)
  ·have h18 := cond_t h11 hb17
   refine Sk [7, 8, 9] 2 false 6 hb17 ?_
   refine Su [10, 11] 5 true 9 ?_
   refine Sk [12] 2 false 6 hb17 ?_
   refine V 13 4 (p1 6 (.const (.bool true)) (.tmp 12) (.bool true) hb17) ?_
   refine V 3 4 (ma 13 (.bool true)) ?_
   obtain rfl := some_inj h18
   exact RWP.nil ⟨rfl, F2, hs14, le15, rfl, rfl⟩
  ·have h19 := cond_f h11 hb17
   refine Vg 7 0 2 false 6 hb17 (fa 71 1 6 6 1 bz0 0 6) ?_
   refine Vg 8 4 2 false 6 hb17 (ld 4 7 bz0 6 false 1 (.bool z0.Whole) (hs14.pers _ _ (le15 _ _ hz0))) ?_
   refine Vg 9 4 2 false 6 hb17 (mv 8 (.bool z0.Whole)) ?_
   refine RWP.split z0.Whole (fun hb20 => ?_) (fun hb20 => ?_)
   ·have h21 := cond_t h19 hb20
    refine Vg 10 21 5 true 9 hb20 (mv 0 (.int .i32 x0)) ?_
    refine Vg 11 4 5 true 9 hb20 (run_eql (t := 21) (t' := 21) (x := (.tmp 10)) (y := (.const (.int .i32 47))) (k := .i32) (a := x0) (b := 47) rfl rfl) ?_
    refine Vg 12 4 2 false 6 hb17 (p1 9 (.tmp 11) (.const (.bool false)) (.bool (x0 == 47)) hb20) ?_
    refine V 13 4 (p0 6 (.const (.bool true)) (.tmp 12) (.bool (x0 == 47)) hb17) ?_
    refine V 3 4 (ma 13 (.bool (x0 == 47))) ?_
    obtain rfl := some_inj h21
    exact RWP.nil ⟨rfl, F2, hs14, le15, rfl, rfl⟩
   ·have h22 := cond_f h19 hb20
    refine Sk [10, 11] 5 true 9 hb20 ?_
    refine Vg 12 4 2 false 6 hb17 (p0 9 (.tmp 11) (.const (.bool false)) (.bool false) hb20) ?_
    refine V 13 4 (p0 6 (.const (.bool true)) (.tmp 12) (.bool false) hb17) ?_
    refine V 3 4 (ma 13 (.bool false)) ?_
    obtain rfl := some_inj h22
    exact RWP.nil ⟨rfl, F2, hs14, le15, rfl, rfl⟩
 ·rintro f w1 ⟨F1, hs2, le3, e5, e6⟩
  refine thenQ_nrm ?_
  refine CWP.ret (by kernel_rfl) ?_
  have hfin := some_inj h8
  subst hfin
  exact ⟨e5, (.bool j4), res_of (l := [.tmp 3]) (by kernel_rfl) (vs := [(.bool j4)]) ⟨e6, trivial⟩, (.bool j4), F1, rfl, hs2.clear, rfl⟩
end Go.Proofs.YtlddakefmfcblaaGreatDoor
namespace Go.Proofs.YtlddakefmfcblaaGreatDoor
open Go.Proofs
def air_validRow (N : Nat) (x0 : Prefix) : Option Bool :=
 (((air_only N x0.Text 16 (fun y0 => air_validRow_1 N y0 x0)).bind fun r15 => (bif r15 then ((air_within N x0.Country 1 65535).bind fun r25 => (bif r25 then ((air_within N x0.Zone 1 99).bind fun r35 => (bif r35 then ((air_within N x0.Continent 1 7).bind fun r45 => (bif r45 then ((air_within N x0.From 0 x0.To).bind fun r55 => (bif r55 then some (decide (x0.To ≤ 99999)) else some false)) else some false)) else some false)) else some false)) else some false)).bind fun j7 => some j7)
theorem co_air_validRow : CallOk Tryz.prog 124 := fun _ _ => by kernel_rfl
set_option maxHeartbeats 4000000 in
set_option maxRecDepth 100000 in
theorem c_air_validRow (N : Nat) (w0 : World) (F0 : Mem) (hF : ∀ b o, F0 b = some o → w0.heap[b]? = some o) (x0 : Prefix) (r : Bool) (h : air_validRow N x0 = some r) :
  Calls Tryz.prog 124 ([(.agg #[(.string ⟨(x0.Text).toArray⟩), (vi x0.Country), (vi x0.Zone), (vi x0.Continent), (vi x0.From), (vi x0.To), (.bool x0.Whole)])] : List Value).toArray w0 (FRet w0 F0 fun F' v => v = (.bool r)) := by
 have hs0 := HS.start hF
 refine calls_of (n := 36) (c := bodyOf Tryz.f124) Tryz.func124 (by kernel_rfl) (by kernel_rfl) (by kernel_rfl) ?_
 refine Sq (Rg [0, 1] ?_)
 refine Bx 1 0 0 71 #[(.string ⟨(x0.Text).toArray⟩), (vi x0.Country), (vi x0.Zone), (vi x0.Continent), (vi x0.From), (vi x0.To), (.bool x0.Whole)] hs0 (fun b1 w2 (hs3 : HS w0 F0 w2 F0 [(sb b1 #[(.string ⟨(x0.Text).toArray⟩), (vi x0.Country), (vi x0.Zone), (vi x0.Continent), (vi x0.From), (vi x0.To), (.bool x0.Whole)] 71)]) => ?_)
 refine V 2 4 (mc (.bool false) (.bool false)) ?_
 refine Nss (Rg [0, 1] ?_)
 refine V 4 84 (run_makeFunc (fn := .func 155) (first := #[]) (cap := #[(.tmp 1)]) (fl := []) (cl := [(.pointer (some ⟨b1, 0, none⟩))]) rfl (rfl)) ?_
 refine V 3 84 (ma 4 (.func (.func 155) #[] #[(.pointer (some ⟨b1, 0, none⟩))])) ?_
 refine Nss (Rg [0, 1, 2, 3, 4, 5, 6, 7, 8, 9, 10, 11, 12, 13, 14, 15, 16, 17, 18, 19, 20, 21, 22, 23, 24, 25, 26, 27, 28, 29, 30, 31] ?_)
 obtain ⟨j7, hj10, h11⟩ := bind_some h
 refine RWP.cut (fun f w => ∃ (F1 : Mem), HS w0 F0 w F1 [] ∧ Mem.le F0 F1 ∧ f.d = [] ∧ f 2 = (.bool j7)) ?_ ?_
 ·refine V 5 0 (fa 71 1 0 0 1 b1 0 0) ?_
  refine V 6 9 (ld 9 5 b1 0 false 1 (.string ⟨(x0.Text).toArray⟩) (hs3.ownAt (k := 0) rfl)) ?_
  refine V 7 84 (mv 3 (.func (.func 155) #[] #[(.pointer (some ⟨b1, 0, none⟩))])) ?_
  obtain ⟨F2, hs12, le13, hF14⟩ : ∃ Fq, HS w0 F0 w2 Fq [] ∧ Mem.le F0 Fq ∧ Fq b1 = some (oc #[(.string ⟨(x0.Text).toArray⟩), (vi x0.Country), (vi x0.Zone), (vi x0.Continent), (vi x0.From), (vi x0.To), (.bool x0.Whole)] 71) := HS.freezeC hs3 (k := 0) rfl
  obtain ⟨r15, hr16, h17⟩ := bind_some hj10
  refine Cl 8 4 65 #[(.tmp 6), (.const (vi 16)), (.tmp 7)] #[9, 3, 84] co_air_only hs12 (c_air_only N w2 F2 hs12.pers (x0.Text) (16) 155 [] [(.pointer (some ⟨b1, 0, none⟩))] (fun y0 => air_validRow_1 N y0 x0) co_air_validRow_1 (fun w1 F1 y0 r le1 pe1 hr1 => c_air_validRow_1 N w1 F1 pe1  y0 b1 x0 (le1 _ _ hF14) r hr1) _ hr16) ?_
  intro v18 F3 w19 hs20 le21 hp22
  obtain rfl := hp22
  refine V 9 4 (mv 8 (.bool r15)) ?_
  refine RWP.split r15 (fun hb23 => ?_) (fun hb23 => ?_)
  ·have h24 := cond_t h17 hb23
   refine Vg 10 0 4 true 9 hb23 (fa 71 1 1 1 1 b1 0 1) ?_
   refine Vg 11 3 4 true 9 hb23 (ld 3 10 b1 1 false 1 (vi x0.Country) (hs20.pers _ _ (le21 _ _ hF14))) ?_
   obtain ⟨r25, hr26, h27⟩ := bind_some h24
   refine RWP.call (dst := (some 12)) (ty := 4) (g := (some (4, true))) (by kernel_rfl) (gd_y (d := 9) (by kernel_rfl) rfl hb23) (f0 := (.func 73)) (aos := #[(.tmp 11), (.const (vi 1)), (.const (vi 65535))]) (ats := #[3, 3, 3]) (fid := 73) (first := #[]) (cap := #[]) (args := [(vi x0.Country), (vi 1), (vi 65535)]) rfl co_air_within (rfl) hs20 (c_air_within N w19 F3 hs20.pers (x0.Country) (1) (65535) _ hr26) ?_
   intro v28 F4 w29 hs30 le31 hp32
   obtain rfl := hp32
   refine V 13 4 (p1 9 (.tmp 12) (.const (.bool false)) (.bool r25) hb23) ?_
   refine V 14 4 (mv 13 (.bool r25)) ?_
   refine RWP.split r25 (fun hb33 => ?_) (fun hb33 => ?_)
   ·have h34 := cond_t h27 hb33
    refine Vg 15 0 9 true 14 hb33 (fa 71 1 2 2 1 b1 0 2) ?_
    refine Vg 16 3 9 true 14 hb33 (ld 3 15 b1 2 false 1 (vi x0.Zone) (hs30.pers _ _ ((le21.trans le31) _ _ hF14))) ?_
    obtain ⟨r35, hr36, h37⟩ := bind_some h34
    refine RWP.call (dst := (some 17)) (ty := 4) (g := (some (9, true))) (by kernel_rfl) (gd_y (d := 14) (by kernel_rfl) rfl hb33) (f0 := (.func 73)) (aos := #[(.tmp 16), (.const (vi 1)), (.const (vi 99))]) (ats := #[3, 3, 3]) (fid := 73) (first := #[]) (cap := #[]) (args := [(vi x0.Zone), (vi 1), (vi 99)]) rfl co_air_within (rfl) hs30 (c_air_within N w29 F4 hs30.pers (x0.Zone) (1) (99) _ hr36) ?_
    intro v38 F5 w39 hs40 le41 hp42
    obtain rfl := hp42
    refine V 18 4 (p1 14 (.tmp 17) (.const (.bool false)) (.bool r35) hb33) ?_
    refine V 19 4 (mv 18 (.bool r35)) ?_
    refine RWP.split r35 (fun hb43 => ?_) (fun hb43 => ?_)
    ·have h44 := cond_t h37 hb43
     refine Vg 20 0 14 true 19 hb43 (fa 71 1 3 3 1 b1 0 3) ?_
     refine Vg 21 3 14 true 19 hb43 (ld 3 20 b1 3 false 1 (vi x0.Continent) (hs40.pers _ _ (((le21.trans le31).trans le41) _ _ hF14))) ?_
     obtain ⟨r45, hr46, h47⟩ := bind_some h44
     refine RWP.call (dst := (some 22)) (ty := 4) (g := (some (14, true))) (by kernel_rfl) (gd_y (d := 19) (by kernel_rfl) rfl hb43) (f0 := (.func 73)) (aos := #[(.tmp 21), (.const (vi 1)), (.const (vi 7))]) (ats := #[3, 3, 3]) (fid := 73) (first := #[]) (cap := #[]) (args := [(vi x0.Continent), (vi 1), (vi 7)]) rfl co_air_within (rfl) hs40 (c_air_within N w39 F5 hs40.pers (x0.Continent) (1) (7) _ hr46) ?_
     intro v48 F6 w49 hs50 le51 hp52
     obtain rfl := hp52
     refine V 23 4 (p1 19 (.tmp 22) (.const (.bool false)) (.bool r45) hb43) ?_
     refine V 24 4 (mv 23 (.bool r45)) ?_
     refine RWP.split r45 (fun hb53 => ?_) (fun hb53 => ?_)
     ·have h54 := cond_t h47 hb53
      refine Vg 25 0 19 true 24 hb53 (fa 71 1 4 4 1 b1 0 4) ?_
      refine Vg 26 3 19 true 24 hb53 (ld 3 25 b1 4 false 1 (vi x0.From) (hs50.pers _ _ ((((le21.trans le31).trans le41).trans le51) _ _ hF14))) ?_
      refine Vg 27 0 19 true 24 hb53 (fa 71 1 5 5 1 b1 0 5) ?_
      refine Vg 28 3 19 true 24 hb53 (ld 3 27 b1 5 false 1 (vi x0.To) (hs50.pers _ _ ((((le21.trans le31).trans le41).trans le51) _ _ hF14))) ?_
      obtain ⟨r55, hr56, h57⟩ := bind_some h54
      refine RWP.call (dst := (some 29)) (ty := 4) (g := (some (19, true))) (by kernel_rfl) (gd_y (d := 24) (by kernel_rfl) rfl hb53) (f0 := (.func 73)) (aos := #[(.tmp 26), (.const (vi 0)), (.tmp 28)]) (ats := #[3, 3, 3]) (fid := 73) (first := #[]) (cap := #[]) (args := [(vi x0.From), (vi 0), (vi x0.To)]) rfl co_air_within (rfl) hs50 (c_air_within N w49 F6 hs50.pers (x0.From) (0) (x0.To) _ hr56) ?_
      intro v58 F7 w59 hs60 le61 hp62
      obtain rfl := hp62
      refine V 30 4 (p1 24 (.tmp 29) (.const (.bool false)) (.bool r55) hb53) ?_
      refine V 31 4 (mv 30 (.bool r55)) ?_
      refine RWP.split r55 (fun hb63 => ?_) (fun hb63 => ?_)
      ·have h64 := cond_t h57 hb63
       refine Vg 32 0 26 true 31 hb63 (fa 71 1 5 5 1 b1 0 5) ?_
       refine Vg 33 3 26 true 31 hb63 (ld 3 32 b1 5 false 1 (vi x0.To) (hs60.pers _ _ (((((le21.trans le31).trans le41).trans le51).trans le61) _ _ hF14))) ?_
       refine Vg 34 4 26 true 31 hb63 (run_leq (t := 3) (t' := 3) (x := (.tmp 33)) (y := (.const (vi 99999))) (k := .i64) (a := x0.To) (b := 99999) rfl rfl) ?_
       refine V 35 4 (p1 31 (.tmp 34) (.const (.bool false)) (.bool (decide (x0.To ≤ 99999))) hb63) ?_
       refine V 2 4 (ma 35 (.bool (decide (x0.To ≤ 99999)))) ?_
       obtain rfl := some_inj h64
       exact RWP.nil ⟨rfl, F7, hs60, (((((le13.trans le21).trans le31).trans le41).trans le51).trans le61), rfl, rfl⟩
      ·have h65 := cond_f h57 hb63
       refine Sk [32, 33, 34] 26 true 31 hb63 ?_
       refine V 35 4 (p0 31 (.tmp 34) (.const (.bool false)) (.bool false) hb63) ?_
       refine V 2 4 (ma 35 (.bool false)) ?_
       obtain rfl := some_inj h65
       exact RWP.nil ⟨rfl, F7, hs60, (((((le13.trans le21).trans le31).trans le41).trans le51).trans le61), rfl, rfl⟩
     ·have h66 := cond_f h47 hb53
      refine Sk [25, 26, 27, 28, 29] 19 true 24 hb53 ?_
      refine V 30 4 (p0 24 (.tmp 29) (.const (.bool false)) (.bool false) hb53) ?_
      refine V 31 4 (mv 30 (.bool false)) ?_
      refine Sk [32, 33, 34] 26 true 31 rfl ?_
      refine V 35 4 (p0 31 (.tmp 34) (.const (.bool false)) (.bool false) rfl) ?_
      refine V 2 4 (ma 35 (.bool false)) ?_
      obtain rfl := some_inj h66
      exact RWP.nil ⟨rfl, F6, hs50, ((((le13.trans le21).trans le31).trans le41).trans le51), rfl, rfl⟩
    ·have h67 := cond_f h37 hb43
     refine Sk [20, 21, 22] 14 true 19 hb43 ?_
     refine V 23 4 (p0 19 (.tmp 22) (.const (.bool false)) (.bool false) hb43) ?_
     refine V 24 4 (mv 23 (.bool false)) ?_
     refine Sk [25, 26, 27, 28, 29] 19 true 24 rfl ?_
     refine V 30 4 (p0 24 (.tmp 29) (.const (.bool false)) (.bool false) rfl) ?_
     refine V 31 4 (mv 30 (.bool false)) ?_
     refine Sk [32, 33, 34] 26 true 31 rfl ?_
     refine V 35 4 (p0 31 (.tmp 34) (.const (.bool false)) (.bool false) rfl) ?_
     refine V 2 4 (ma 35 (.bool false)) ?_
     obtain rfl := some_inj h67
     exact RWP.nil ⟨rfl, F5, hs40, (((le13.trans le21).trans le31).trans le41), rfl, rfl⟩
   ·have h68 := cond_f h27 hb33
    refine Sk [15, 16, 17] 9 true 14 hb33 ?_
    refine V 18 4 (p0 14 (.tmp 17) (.const (.bool false)) (.bool false) hb33) ?_
    refine V 19 4 (mv 18 (.bool false)) ?_
    refine Sk [20, 21, 22] 14 true 19 rfl ?_
    refine V 23 4 (p0 19 (.tmp 22) (.const (.bool false)) (.bool false) rfl) ?_
    refine V 24 4 (mv 23 (.bool false)) ?_
    refine Sk [25, 26, 27, 28, 29] 19 true 24 rfl ?_
    refine V 30 4 (p0 24 (.tmp 29) (.const (.bool false)) (.bool false) rfl) ?_
    refine V 31 4 (mv 30 (.bool false)) ?_
    refine Sk [32, 33, 34] 26 true 31 rfl ?_
    refine V 35 4 (p0 31 (.tmp 34) (.const (.bool false)) (.bool false) rfl) ?_
    refine V 2 4 (ma 35 (.bool false)) ?_
    obtain rfl := some_inj h68
    exact RWP.nil ⟨rfl, F4, hs30, ((le13.trans le21).trans le31), rfl, rfl⟩
  ·have h69 := cond_f h17 hb23
   refine Sk [10, 11, 12] 4 true 9 hb23 ?_
   refine V 13 4 (p0 9 (.tmp 12) (.const (.bool false)) (.bool false) hb23) ?_
   refine V 14 4 (mv 13 (.bool false)) ?_
   refine Sk [15, 16, 17] 9 true 14 rfl ?_
   refine V 18 4 (p0 14 (.tmp 17) (.const (.bool false)) (.bool false) rfl) ?_
   refine V 19 4 (mv 18 (.bool false)) ?_
   refine Sk [20, 21, 22] 14 true 19 rfl ?_
   refine V 23 4 (p0 19 (.tmp 22) (.const (.bool false)) (.bool false) rfl) ?_
   refine V 24 4 (mv 23 (.bool false)) ?_
   refine Sk [25, 26, 27, 28, 29] 19 true 24 rfl ?_
   refine V 30 4 (p0 24 (.tmp 29) (.const (.bool false)) (.bool false) rfl) ?_
   refine V 31 4 (mv 30 (.bool false)) ?_
   refine Sk [32, 33, 34] 26 true 31 rfl ?_
   refine V 35 4 (p0 31 (.tmp 34) (.const (.bool false)) (.bool false) rfl) ?_
   refine V 2 4 (ma 35 (.bool false)) ?_
   obtain rfl := some_inj h69
   exact RWP.nil ⟨rfl, F3, hs20, (le13.trans le21), rfl, rfl⟩
 ·rintro f w4 ⟨F1, hs5, le6, e8, e9⟩
  refine thenQ_nrm ?_
  refine CWP.ret (by kernel_rfl) ?_
  have hfin := some_inj h11
  subst hfin
  exact ⟨e8, (.bool j7), res_of (l := [.tmp 2]) (by kernel_rfl) (vs := [(.bool j7)]) ⟨e9, trivial⟩, (.bool j7), F1, rfl, hs5.clear, rfl⟩
end Go.Proofs.YtlddakefmfcblaaGreatDoor
namespace Go.Proofs.YtlddakefmfcblaaGreatDoor
open Go.Proofs
def air_rows_1 (N : Nat) (x0 : Prefix) : Option Bool :=
 ((air_validRow N x0).bind fun r4 => some (!r4))
theorem co_air_rows_1 : CallOk Tryz.prog 123 := fun _ _ => by kernel_rfl
set_option maxHeartbeats 4000000 in
set_option maxRecDepth 100000 in
theorem c_air_rows_1 (N : Nat) (w0 : World) (F0 : Mem) (hF : ∀ b o, F0 b = some o → w0.heap[b]? = some o) (x0 : Prefix) (r : Bool) (h : air_rows_1 N x0 = some r) :
  Calls Tryz.prog 123 ([(.agg #[(.string ⟨(x0.Text).toArray⟩), (vi x0.Country), (vi x0.Zone), (vi x0.Continent), (vi x0.From), (vi x0.To), (.bool x0.Whole)])] : List Value).toArray w0 (FRet w0 F0 fun F' v => v = (.bool r)) := by
 have hs0 := HS.start hF
 refine calls_of (n := 6) (c := bodyOf Tryz.f123) Tryz.func123 (by kernel_rfl) (by kernel_rfl) (by kernel_rfl) ?_
 refine Sq (Rg [0, 1] ?_)
 refine Bx 1 0 0 71 #[(.string ⟨(x0.Text).toArray⟩), (vi x0.Country), (vi x0.Zone), (vi x0.Continent), (vi x0.From), (vi x0.To), (.bool x0.Whole)] hs0 (fun b1 w2 (hs3 : HS w0 F0 w2 F0 [(sb b1 #[(.string ⟨(x0.Text).toArray⟩), (vi x0.Country), (vi x0.Zone), (vi x0.Continent), (vi x0.From), (vi x0.To), (.bool x0.Whole)] 71)]) => ?_)
 refine V 2 4 (mc (.bool false) (.bool false)) ?_
 refine Nss (Rg [0, 1, 2, 3] ?_)
 refine V 3 71 (ld 71 1 b1 0 true 7 (.agg #[(.string ⟨(x0.Text).toArray⟩), (vi x0.Country), (vi x0.Zone), (vi x0.Continent), (vi x0.From), (vi x0.To), (.bool x0.Whole)]) (hs3.ownAt (k := 0) rfl)) ?_
 obtain ⟨r4, hr5, h6⟩ := bind_some h
 refine Cl 4 4 124 #[(.tmp 3)] #[71] co_air_validRow hs3 (c_air_validRow N w2 F0 hs3.pers (x0) _ hr5) ?_
 intro v7 F1 w8 hs9 le10 hp11
 obtain rfl := hp11
 refine V 5 4 (run_not (t := 4) (x := (.tmp 4)) (a := r4) rfl) ?_
 refine V 2 4 (ma 5 (.bool (!r4))) ?_
 refine Nt ?_
 refine CWP.ret (by kernel_rfl) ?_
 have hfin := some_inj h6
 subst hfin
 exact ⟨rfl, (.bool (!r4)), res_of (l := [.tmp 2]) (by kernel_rfl) (vs := [(.bool (!r4))]) ⟨rfl, trivial⟩, (.bool (!r4)), F1, rfl, hs9.clear, rfl⟩
end Go.Proofs.YtlddakefmfcblaaGreatDoor
namespace Go.Proofs.YtlddakefmfcblaaGreatDoor
open Go.Proofs
def air_rows (N : Nat) (x0 : (List Prefix)) : Option Bool :=
 ((bif (decide ((x0.length : Int) ≤ 400)) then ((slices_ContainsFunc_api_Prefix_api_Prefix N x0 (fun y0 => air_rows_1 N y0)).bind fun r11 => some (!r11)) else some false).bind fun j4 => some j4)
theorem co_air_rows : CallOk Tryz.prog 92 := fun _ _ => by kernel_rfl
set_option maxHeartbeats 4000000 in
set_option maxRecDepth 100000 in
theorem c_air_rows (N : Nat) (w0 : World) (F0 : Mem) (hF : ∀ b o, F0 b = some o → w0.heap[b]? = some o) (x0 : (List Prefix)) (a0_0 : Option Addr) (n0_0 : Nat) (hb0_0 : LC x0.length n0_0) (hs0_0 : SlA tPrefix F0 a0_0 x0) (r : Bool) (h : air_rows N x0 = some r) :
  Calls Tryz.prog 92 ([(.slice a0_0 x0.length n0_0)] : List Value).toArray w0 (FRet w0 F0 fun F' v => v = (.bool r)) := by
 have hs0 := HS.start hF
 refine calls_of (n := 11) (c := bodyOf Tryz.f92) Tryz.func92 (by kernel_rfl) (by kernel_rfl) (by kernel_rfl) ?_
 refine Sq (Rg [0] ?_)
 refine V 2 4 (mc (.bool false) (.bool false)) ?_
 refine Nss (Rg [0, 1, 2, 3, 4, 5, 6, 7, 8] ?_)
 obtain ⟨j4, hj7, h8⟩ := bind_some h
 refine RWP.cut (fun f w => ∃ (F1 : Mem), HS w0 F0 w F1 [] ∧ Mem.le F0 F1 ∧ f.d = [] ∧ f 2 = (.bool j4)) ?_ ?_
 ·refine V 3 61 (mv 0 (.slice a0_0 x0.length n0_0)) ?_
  refine V 4 3 (ln 3 61 a0_0 x0.length n0_0 71 7 64) ?_
  refine V 5 4 (run_leq (t := 3) (t' := 3) (x := (.tmp 4)) (y := (.const (vi 400))) (k := .i64) (a := (x0.length : Int)) (b := 400) rfl rfl) ?_
  refine V 6 4 (mv 5 (.bool (decide ((x0.length : Int) ≤ 400)))) ?_
  refine RWP.split (decide ((x0.length : Int) ≤ 400)) (fun hb9 => ?_) (fun hb9 => ?_)
  ·have h10 := cond_t hj7 hb9
   refine Vg 7 61 3 true 6 hb9 (mv 0 (.slice a0_0 x0.length n0_0)) ?_
   obtain ⟨r11, hr12, h13⟩ := bind_some h10
   refine RWP.call (dst := (some 8)) (ty := 4) (g := (some (3, true))) (by kernel_rfl) (gd_y (d := 6) (by kernel_rfl) rfl hb9) (f0 := (.func 122)) (aos := #[(.tmp 7), (.func 123)]) (ats := #[61, 151]) (fid := 122) (first := #[]) (cap := #[]) (args := [(.slice a0_0 x0.length n0_0), (.func (.func 123) #[] #[])]) rfl co_slices_ContainsFunc_api_Prefix_api_Prefix (rfl) hs0 (c_slices_ContainsFunc_api_Prefix_api_Prefix N w0 F0 hs0.pers (x0) a0_0 n0_0 hb0_0 hs0_0 123 [] [] (fun y0 => air_rows_1 N y0) co_air_rows_1 (fun w1 F1 y0 r le1 pe1 hr1 => c_air_rows_1 N w1 F1 pe1  y0  r hr1) _ hr12) ?_
   intro v14 F2 w15 hs16 le17 hp18
   obtain rfl := hp18
   refine Vg 9 4 3 true 6 hb9 (run_not (t := 4) (x := (.tmp 8)) (a := r11) rfl) ?_
   refine V 10 4 (p1 6 (.tmp 9) (.const (.bool false)) (.bool (!r11)) hb9) ?_
   refine V 2 4 (ma 10 (.bool (!r11))) ?_
   obtain rfl := some_inj h13
   exact RWP.nil ⟨rfl, F2, hs16, le17, rfl, rfl⟩
  ·have h19 := cond_f hj7 hb9
   refine Sk [7, 8, 9] 3 true 6 hb9 ?_
   refine V 10 4 (p0 6 (.tmp 9) (.const (.bool false)) (.bool false) hb9) ?_
   refine V 2 4 (ma 10 (.bool false)) ?_
   obtain rfl := some_inj h19
   exact RWP.nil ⟨rfl, F0, hs0, (Mem.le.refl _), rfl, rfl⟩
 ·rintro f w1 ⟨F1, hs2, le3, e5, e6⟩
  refine thenQ_nrm ?_
  refine CWP.ret (by kernel_rfl) ?_
  have hfin := some_inj h8
  subst hfin
  exact ⟨e5, (.bool j4), res_of (l := [.tmp 2]) (by kernel_rfl) (vs := [(.bool j4)]) ⟨e6, trivial⟩, (.bool j4), F1, rfl, hs2.clear, rfl⟩
end Go.Proofs.YtlddakefmfcblaaGreatDoor
namespace Go.Proofs.YtlddakefmfcblaaGreatDoor
open Go.Proofs
def air_keyOf (N : Nat) (x0 : Prefix) : Option air_key :=
 some ({ text_ := x0.Text, whole_ := x0.Whole } : air_key)
theorem co_air_keyOf : CallOk Tryz.prog 94 := fun _ _ => by kernel_rfl
set_option maxHeartbeats 4000000 in
set_option maxRecDepth 100000 in
theorem c_air_keyOf (N : Nat) (w0 : World) (F0 : Mem) (hF : ∀ b o, F0 b = some o → w0.heap[b]? = some o) (x0 : Prefix) (r : air_key) (h : air_keyOf N x0 = some r) :
  Calls Tryz.prog 94 ([(.agg #[(.string ⟨(x0.Text).toArray⟩), (vi x0.Country), (vi x0.Zone), (vi x0.Continent), (vi x0.From), (vi x0.To), (.bool x0.Whole)])] : List Value).toArray w0 (FRet w0 F0 fun F' v => v = (.agg #[(.string ⟨(r.text_).toArray⟩), (.bool r.whole_)])) := by
 have hs0 := HS.start hF
 refine calls_of (n := 8) (c := bodyOf Tryz.f94) Tryz.func94 (by kernel_rfl) (by kernel_rfl) (by kernel_rfl) ?_
 refine Sq (Rg [0, 1] ?_)
 refine Bx 1 0 0 71 #[(.string ⟨(x0.Text).toArray⟩), (vi x0.Country), (vi x0.Zone), (vi x0.Continent), (vi x0.From), (vi x0.To), (.bool x0.Whole)] hs0 (fun b1 w2 (hs3 : HS w0 F0 w2 F0 [(sb b1 #[(.string ⟨(x0.Text).toArray⟩), (vi x0.Country), (vi x0.Zone), (vi x0.Continent), (vi x0.From), (vi x0.To), (.bool x0.Whole)] 71)]) => ?_)
 refine Al 2 0 119 #[(.string ⟨(([] : List UInt8)).toArray⟩), (.bool false)] hs3 (fun b4 w5 (hs6 : HS w0 F0 w5 F0 [(sb b4 #[(.string ⟨(([] : List UInt8)).toArray⟩), (.bool false)] 119), (sb b1 #[(.string ⟨(x0.Text).toArray⟩), (vi x0.Country), (vi x0.Zone), (vi x0.Continent), (vi x0.From), (vi x0.To), (.bool x0.Whole)] 71)]) => ?_)
 refine Nss (Rg [0, 1, 2, 3, 4, 5] ?_)
 refine V 3 0 (fa 71 1 0 0 1 b1 0 0) ?_
 refine V 4 9 (ld 9 3 b1 0 false 1 (.string ⟨(x0.Text).toArray⟩) (hs6.ownAt (k := 1) rfl)) ?_
 refine V 5 0 (fa 71 1 6 6 1 b1 0 6) ?_
 refine V 6 4 (ld 4 5 b1 6 false 1 (.bool x0.Whole) (hs6.ownAt (k := 1) rfl)) ?_
 refine V 7 119 (run_build2 (t := 119) (parts := #[(0, (.tmp 4)), (1, (.tmp 6))]) (vs := [(0, (.string ⟨(x0.Text).toArray⟩)), (1, (.bool x0.Whole))]) (rfl) (cs := [(.string ⟨(x0.Text).toArray⟩), (.bool x0.Whole)]) (by kernel_rfl)) ?_
 refine RWP.store (ty := 0) (g := none) (by kernel_rfl) rfl (x := (.tmp 2)) (y := (.tmp 7)) (t := 119) (gg := true) (s := 2) (v := (.agg #[(.string ⟨(x0.Text).toArray⟩), (.bool x0.Whole)])) (b := b4) (o := 0) (C := #[(.string ⟨(([] : List UInt8)).toArray⟩), (.bool false)]) rfl rfl (by kernel_rfl) hs6 (k := 0) rfl rfl rfl rfl (C' := #[(.string ⟨(x0.Text).toArray⟩), (.bool x0.Whole)]) rfl (fun w7 (hs8 : HS w0 F0 w7 F0 [(sb b4 #[(.string ⟨(x0.Text).toArray⟩), (.bool x0.Whole)] 119), (sb b1 #[(.string ⟨(x0.Text).toArray⟩), (vi x0.Country), (vi x0.Zone), (vi x0.Continent), (vi x0.From), (vi x0.To), (.bool x0.Whole)] 71)]) => ?_)
 refine Nt ?_
 refine CWP.ret (by kernel_rfl) ?_
 have hfin := some_inj h
 subst hfin
 exact ⟨rfl, (.agg #[(.string ⟨(x0.Text).toArray⟩), (.bool x0.Whole)]), res_of (l := [.cell 2 119]) (by kernel_rfl) (vs := [(.agg #[(.string ⟨(x0.Text).toArray⟩), (.bool x0.Whole)])]) ⟨b4, 0, rfl, run_loadVar' (t := 119) (g := true) (s := 2) (by kernel_rfl) (hs8.ownAt (k := 0) rfl) rfl (by decide), trivial⟩, (.agg #[(.string ⟨(x0.Text).toArray⟩), (.bool x0.Whole)]), F0, rfl, hs8.clear, rfl⟩
end Go.Proofs.YtlddakefmfcblaaGreatDoor
namespace Go.Proofs.YtlddakefmfcblaaGreatDoor
open Go.Proofs
def air_tableOf_L0 (N : Nat) (x0 : (List Prefix)) : (Int × (List (air_key × List Int))) → Option (Flow (List (air_key × (List Int))) (Int × (List (air_key × List Int)))) := fun s12 =>
 (bif (decide (s12.1 < (x0.length : Int))) then ((idx x0 s12.1).bind fun x39 => (((air_keyOf N x39).bind fun r73 => ((air_keyOf N x39).bind fun r81 => ((apnd (mgetD s12.2 r81 []) [s12.1]).bind fun r108 => some (mput s12.2 r81 r108)))).bind fun j63 => some (.next ((W64 (s12.1 + 1)), j63)))) else some (.done (s12.1, s12.2)))
def air_tableOf (N : Nat) (x0 : (List Prefix)) : Option (List (air_key × (List Int))) :=
 ((iter (air_tableOf_L0 N x0) N (0, ([] : (List (air_key × List Int))))).bind fun o => o.k (fun r => some r) (fun s23 => some s23.2))
theorem co_air_tableOf : CallOk Tryz.prog 93 := fun _ _ => by kernel_rfl
set_option maxHeartbeats 4000000 in
set_option maxRecDepth 100000 in
theorem c_air_tableOf (N : Nat) (w0 : World) (F0 : Mem) (hF : ∀ b o, F0 b = some o → w0.heap[b]? = some o) (x0 : (List Prefix)) (a0_0 : Option Addr) (n0_0 : Nat) (hb0_0 : LC x0.length n0_0) (hs0_0 : SlA tPrefix F0 a0_0 x0) (r : (List (air_key × (List Int)))) (h : air_tableOf N x0 = some r) :
  Calls Tryz.prog 93 ([(.slice a0_0 x0.length n0_0)] : List Value).toArray w0 (FRet w0 F0 fun F' v => ∃ (oq0_0 : Option Nat), v = (.map oq0_0) ∧ MpA tair_key (tSl tInt) F' oq0_0 r) := by
 have hs0 := HS.start hF
 refine calls_of (n := 26) (c := bodyOf Tryz.f93) Tryz.func93 (by kernel_rfl) (by kernel_rfl) (by kernel_rfl) ?_
 refine Sq (Rg [0] ?_)
 refine V 2 116 (mc (.map none) (.map none)) ?_
 refine Nss (Rg [0, 1] ?_)
 refine RWP.makeMap (t := 116) (K := tair_key) (T := tRaw) (dst := (some 6)) (ty := 116) (g := none) (by kernel_rfl) rfl hs0 (fun b1 e2 w3 (hs4 : HS w0 F0 w3 F0 [e2]) hr5 => ?_)
 obtain ⟨Lf6, hs7, hJ8⟩ : ∃ Lq, HS w0 F0 w3 F0 Lq ∧ GrpJ tair_key tInt 3 b1 [] F0 Lq := ⟨_, hs4, GrpJ.new hr5⟩
 refine V 3 116 (ma 6 (.map (some b1))) ?_
 refine Nss ?_
 refine Sq (Rg [0, 1, 2] ?_)
 refine V 7 61 (mv 0 (.slice a0_0 x0.length n0_0)) ?_
 refine V 8 3 (ln 7 61 a0_0 x0.length n0_0 71 7 64) ?_
 refine V 9 3 (run_move (x := (.const (vi 0))) (v := (vi 0)) rfl) ?_
 refine Nt ?_
 obtain ⟨o9, ho10, h11⟩ := bind_some h
 refine CWP.cut (fun f w => ∃ (s23 : (Int × (List (air_key × List Int)))) (F2 : Mem) (Lf27 : Own), o9 = .done s23 ∧ HS w0 F0 w F2 Lf27 ∧ Mem.le F0 F2 ∧ f.d = [] ∧ f 3 = (.map (some b1)) ∧ GrpJ tair_key tInt 3 b1 s23.2 F2 Lf27) ?_ ?_
 ·refine Bk ?_
  refine CWP.loop (by kernel_rfl) (fun m f w => ∃ (s12 : (Int × (List (air_key × List Int)))) (F1 : Mem) (Lf16 : Own), iter (air_tableOf_L0 N x0) m s12 = some o9 ∧ HS w0 F0 w F1 Lf16 ∧ Mem.le F0 F1 ∧ f.d = [] ∧ f 3 = (.map (some b1)) ∧ f 7 = (.slice a0_0 x0.length n0_0) ∧ f 8 = (vi (x0.length : Int)) ∧ f 9 = (vi s12.1) ∧ GrpJ tair_key tInt 3 b1 s12.2 F1 Lf16) N ⟨(0, ([] : (List (air_key × List Int)))), F0, Lf6, ho10, hs7, (Mem.le.refl _), rfl, rfl, rfl, rfl, rfl, hJ8⟩ ?_
  rintro m31 f w13 ⟨s12, F1, Lf16, hit32, hs14, le15, e18, e19, e20, e21, e22, hJ17⟩
  obtain ⟨m33, fl34, rfl, hb35, hnx36⟩ := iter_step hit32
  refine Sq (Rg [0] ?_)
  refine V 10 0 (run_lss (t := 3) (t' := 3) (x := (.tmp 9)) (y := (.tmp 8)) (k := .i64) (a := s12.1) (b := (x0.length : Int)) e22 e21) ?_
  refine Nss ?_
  refine CWP.cond (t := (decide (s12.1 < (x0.length : Int)))) (by kernel_rfl) rfl (fun hb37 => ?_) (fun hb37 => ?_)
  ·have h38 := cond_t hb35 hb37
   refine Sc ?_
   refine thenQ_nrm ?_
   refine Sq ?_
   refine Bk ?_
   refine Sq (Rg [0, 1, 2, 3, 4, 5] ?_)
   refine V 11 3 (mv 9 (vi s12.1) e22) ?_
   obtain ⟨x39, hx40, h42⟩ := bind_some h38
   obtain ⟨hi41, hx40'⟩ := idx_spec hx40
   obtain ⟨b43, o44, C45, E46, fz47, rfl, hF49, hE50⟩ := SlA.open (SlA.mono hs0_0 le15) hx40'
   have hc52 := hE50 _ _ hx40'
   refine V 12 0 (run_index (t := 61) (x := (.tmp 7)) (y := (.tmp 9)) (b := b43) (o := o44) (E := 71) (s := 7) (by_ := 64) e20 e22 (by kernel_rfl) hi41) ?_
   refine V 13 71 (lx 71 12 0 7 true 7 (.agg #[(.string ⟨(x39.Text).toArray⟩), (vi x39.Country), (vi x39.Zone), (vi x39.Continent), (vi x39.From), (vi x39.To), (.bool x39.Whole)]) (hs14.pers _ _ hF49) hc52) ?_
   refine Al 5 0 71 #[(.string ⟨(([] : List UInt8)).toArray⟩), (vi 0), (vi 0), (vi 0), (vi 0), (vi 0), (.bool false)] hs14 (fun b53 w54 (hs55 : HS w0 F0 w54 F1 ((sb b53 #[(.string ⟨(([] : List UInt8)).toArray⟩), (vi 0), (vi 0), (vi 0), (vi 0), (vi 0), (.bool false)] 71) :: Lf16)) => ?_)
   refine V 4 3 (ma 11 (vi s12.1)) ?_
   refine RWP.store (ty := 0) (g := none) (by kernel_rfl) rfl (x := (.tmp 5)) (y := (.tmp 13)) (t := 71) (gg := true) (s := 7) (v := (.agg #[(.string ⟨(x39.Text).toArray⟩), (vi x39.Country), (vi x39.Zone), (vi x39.Continent), (vi x39.From), (vi x39.To), (.bool x39.Whole)])) (b := b53) (o := 0) (C := #[(.string ⟨(([] : List UInt8)).toArray⟩), (vi 0), (vi 0), (vi 0), (vi 0), (vi 0), (.bool false)]) rfl rfl (by kernel_rfl) hs55 (k := 0) rfl rfl rfl rfl (C' := #[(.string ⟨(x39.Text).toArray⟩), (vi x39.Country), (vi x39.Zone), (vi x39.Continent), (vi x39.From), (vi x39.To), (.bool x39.Whole)]) rfl (fun w56 (hs57 : HS w0 F0 w56 F1 ((sb b53 #[(.string ⟨(x39.Text).toArray⟩), (vi x39.Country), (vi x39.Zone), (vi x39.Continent), (vi x39.From), (vi x39.To), (.bool x39.Whole)] 71) :: Lf16)) => ?_)
   refine Nt ?_
   obtain ⟨j63, hj71, h72⟩ := bind_some h42
   refine CWP.regionD (by kernel_rfl) (by kernel_rfl) (by kernel_rfl) (by kernel_rfl) (z := 10) (F := F1) (Lc := [(sb b53 #[(.string ⟨(x39.Text).toArray⟩), (vi x39.Country), (vi x39.Zone), (vi x39.Continent), (vi x39.From), (vi x39.To), (.bool x39.Whole)] 71)]) (Lz := []) (l := [false, false, false, false, false, false, false, false, false, false, false]) (fuel := 11) (by kernel_rfl) (by kernel_rfl) hs57 (by simp) (by simp) (fun f w => ∃ (F3 : Mem) (Lf64 : Own), HS w0 F0 w F3 Lf64 ∧ Mem.le F1 F3 ∧ f.d = [] ∧ f 3 = (.map (some b1)) ∧ f 7 = (.slice (some ⟨b43, o44, none⟩) x0.length n0_0) ∧ f 8 = (vi (x0.length : Int)) ∧ f 9 = (vi s12.1) ∧ GrpJ tair_key tInt 3 b1 j63 F3 Lf64) (fun wd58 hw59 => ?_) ?_
   ·refine Df 0 14 116 _ (fun _ hq => mv 3 (.map (some b1)) e19) ?_
    refine Df 1 15 71 _ (fun _ hq => ld 71 5 b53 0 true 7 (.agg #[(.string ⟨(x39.Text).toArray⟩), (vi x39.Country), (vi x39.Zone), (vi x39.Continent), (vi x39.From), (vi x39.To), (.bool x39.Whole)]) (hq.1.2 0 _ _ rfl)) ?_
    refine Df 3 17 116 _ (fun _ hq => mv 3 (.map (some b1)) e19) ?_
    refine Df 4 18 71 _ (fun _ hq => ld 71 5 b53 0 true 7 (.agg #[(.string ⟨(x39.Text).toArray⟩), (vi x39.Country), (vi x39.Zone), (vi x39.Continent), (vi x39.From), (vi x39.To), (.bool x39.Whole)]) (hq.1.2 0 _ _ rfl)) ?_
    refine Df 7 21 3 _ (fun _ hq => mv 4 (vi s12.1)) ?_
    refine DWP.two (i := 2) (j := 8) (by kernel_rfl) ?_ ?_
    ·obtain ⟨r73, hr74, h75⟩ := bind_some hj71
     refine DStep.call (l' := [true, true, true, true, true, false, false, true, false, false, false]) (zd := false) (by kernel_rfl) (by kernel_rfl) (by kernel_rfl) (dst := (some 16)) (ty := 119) (g := none) (by kernel_rfl) rfl (f0 := (.func 94)) (aos := #[(.tmp 15)]) (ats := #[71]) (fid := 94) (first := #[]) (cap := #[]) (args := [(.agg #[(.string ⟨(x39.Text).toArray⟩), (vi x39.Country), (vi x39.Zone), (vi x39.Continent), (vi x39.From), (vi x39.To), (.bool x39.Whole)])]) rfl co_air_keyOf (rfl) hw59 (c_air_keyOf N wd58 F1 hw59.pers (x39) _ hr74) ?_
     intro v76 F4 w77 hs78 le79 hp80
     obtain rfl := hp80
     refine DWP.two (i := 5) (j := 8) (by kernel_rfl) ?_ ?_
     ·obtain ⟨r81, hr82, h83⟩ := bind_some h75
      refine DStep.call (l' := [true, true, true, true, true, true, false, true, false, false, false]) (zd := false) (by kernel_rfl) (by kernel_rfl) (by kernel_rfl) (dst := (some 19)) (ty := 119) (g := none) (by kernel_rfl) rfl (f0 := (.func 94)) (aos := #[(.tmp 18)]) (ats := #[71]) (fid := 94) (first := #[]) (cap := #[]) (args := [(.agg #[(.string ⟨(x39.Text).toArray⟩), (vi x39.Country), (vi x39.Zone), (vi x39.Continent), (vi x39.From), (vi x39.To), (.bool x39.Whole)])]) rfl co_air_keyOf (rfl) hs78 (c_air_keyOf N w77 F4 hs78.pers (x39) _ hr82) ?_
      intro v84 F5 w85 hs86 le87 hp88
      obtain rfl := hp88
      refine DWP.two (i := 6) (j := 8) (by kernel_rfl) ?_ ?_
      ·obtain ⟨l89, e90, Rs91, a92, n93, e94, q95, hs96, hm97, hv98, hq99, hrow100, hput101⟩ := GrpJ.look (X := [(sb b53 #[(.string ⟨(x39.Text).toArray⟩), (vi x39.Country), (vi x39.Zone), (vi x39.Continent), (vi x39.From), (vi x39.To), (.bool x39.Whole)] 71)]) (GrpJ.mono _ _ _ _ hJ17 (le79.trans le87)) hs86 r81
       have hs102 : HS w0 F0 w85 F5 ((sb b53 #[(.string ⟨(x39.Text).toArray⟩), (vi x39.Country), (vi x39.Zone), (vi x39.Continent), (vi x39.From), (vi x39.To), (.bool x39.Whole)] 71) :: e90 :: Rs91) := hs96
       refine DStep.val (l' := [true, true, true, true, true, true, true, true, false, false, false]) (zd := false) (by kernel_rfl) (by kernel_rfl) (dst := (some 20)) (ty := 77) (g := none) (by kernel_rfl) rfl (run_lookV1 (mt := 116) (k := 119) (vt := 77) (m := (.tmp 17)) (x := (.tmp 19)) (kv := (.agg #[(.string ⟨(r81.text_).toArray⟩), (.bool r81.whole_)])) (kx := r81) (z := .slice none 0 0) (zx := .slice none 0 0) (K := tair_key) (T := tRaw) kl119 rfl rfl ⟨_, rfl, rfl⟩ (by kernel_rfl) (by kernel_rfl) (tRaw_R _) (MapR.mpw hs102 (i := 1) rfl hm97) (fun h => (tRaw_V h).trans hv98)) (dz_of hs102 (le79.trans le87) (by simp) (fun _ => by simp)) ?_
       refine DWP.one (i := 8) (by kernel_rfl) ?_
       refine DStep.buildSlice (l' := [true, true, true, true, true, true, true, true, true, false, false]) (zd := false) (by kernel_rfl) (by kernel_rfl) (dst := (some 22)) (ty := 77) (g := none) (by kernel_rfl) rfl (t := 77) (len := 1) (parts := #[(0, (.tmp 21))]) (vs := [(0, (vi s12.1))]) (rfl) (E := 3) (cs := [(vi s12.1)]) (by kernel_rfl) hs102 (le79.trans le87) (by simp) (fun _ => by simp) (fun b103 w104 (hs105 : HS w0 F0 w104 F5 ((some b103, .cells ([(vi s12.1)] : List Value).toArray 3 (0, 0)) :: (sb b53 #[(.string ⟨(x39.Text).toArray⟩), (vi x39.Country), (vi x39.Zone), (vi x39.Continent), (vi x39.From), (vi x39.To), (.bool x39.Whole)] 71) :: e90 :: Rs91)) => ?_)
       have hr107 : RowR tInt 3 F5 (some ⟨b103, 0, none⟩) 1 [s12.1] (some b103, .cells ([(vi s12.1)] : List Value).toArray 3 (0, 0)) := RowR.lit ⟨rfl, rfl⟩ (by simp)
       refine DWP.one (i := 9) (by kernel_rfl) ?_
       obtain ⟨r108, hap109, h110⟩ := bind_some h83
       refine DStep.append (l' := [true, true, true, true, true, true, true, true, true, true, false]) (zd := false) (by kernel_rfl) (by kernel_rfl) (dst := (some 23)) (ty := 77) (g := none) (by kernel_rfl) rfl (x := (.tmp 20)) (y := (.tmp 22)) (t := 77) (t2 := 77) (by_ := 8) (z := (vi 0)) (a2 := (some ⟨b103, 0, none⟩)) (c2 := 1) (m := [s12.1]) (T := tInt) (E := 3) (a := a92) (cap := n93) (l := (mgetD s12.2 r81 [])) rfl rfl (by kernel_rfl) (by decide) (by kernel_rfl) (by kernel_rfl) rfl oInt hs105 (k := q95 + 3) hq99 hrow100 (RowR.rd hs105 (k := 0) rfl hr107) (r := r108) hap109 (le79.trans le87) (fun _ => by simp) (fun _ _ => by simp) (fun a111 n112 e113 w114 (hs115 : HS w0 F0 w114 F5 ((some b103, .cells ([(vi s12.1)] : List Value).toArray 3 (0, 0)) :: (sb b53 #[(.string ⟨(x39.Text).toArray⟩), (vi x39.Country), (vi x39.Zone), (vi x39.Continent), (vi x39.From), (vi x39.To), (.bool x39.Whole)] 71) :: e90 :: (Rs91.set q95 e113))) hr116 => ?_)
       refine DWP.one (i := 10) (by kernel_rfl) ?_
       refine DStep.mapPut (l' := [true, true, true, true, true, true, true, true, true, true, true]) (zd := true) (by kernel_rfl) (by kernel_rfl) kl119 (ty := 0) (g := none) (mt := 116) (k := 119) (vt := 77) (m := (.tmp 14)) (x := (.tmp 16)) (y := (.tmp 23)) (b := b1) (kx := r81) (u := (.slice a111 r108.length n112)) (kv := (.agg #[(.string ⟨(r73.text_).toArray⟩), (.bool r73.whole_)])) (v := (.slice a111 r108.length n112)) (K := tair_key) (T := tRaw) (by kernel_rfl) rfl rfl rfl rfl (Eq.mp (congrArg (tair_key.V _ (.agg #[(.string ⟨(r73.text_).toArray⟩), (.bool r73.whole_)])) (some_inj (hr74.symm.trans hr82))) ⟨_, rfl, rfl⟩) (tRaw_R _) (by kernel_rfl) hs115 (q := 2) rfl hm97 (le79.trans le87) (fun _ => by simp) (fun e => by cases e) (fun e117 w118 (hs119 : HS w0 F0 w118 F5 ((some b103, .cells ([(vi s12.1)] : List Value).toArray 3 (0, 0)) :: (sb b53 #[(.string ⟨(x39.Text).toArray⟩), (vi x39.Country), (vi x39.Zone), (vi x39.Continent), (vi x39.From), (vi x39.To), (.bool x39.Whole)] 71) :: e117 :: (Rs91.set q95 e113))) hr120 => ?_)
       have hJ121 : GrpJ tair_key tInt 3 b1 (mput s12.2 r81 r108) F5 (e117 :: (Rs91.set q95 e113)) := hput101 _ _ _ _ _ _ (Mem.le.refl _) hr116 hr120
       obtain rfl := some_inj h110
       have hs122 : HS w0 F0 w118 F5 ((sb b53 #[(.string ⟨(x39.Text).toArray⟩), (vi x39.Country), (vi x39.Zone), (vi x39.Continent), (vi x39.From), (vi x39.To), (.bool x39.Whole)] 71) :: (e117 :: (Rs91.set q95 e113))) := hs119.drop 0
       have hs123 : HS w0 F0 w118 F5 (e117 :: (Rs91.set q95 e113)) := hs122.drop 0
       exact DWP.done (by kernel_rfl) ⟨F5, (e117 :: (Rs91.set q95 e113)), hs123, (le79.trans le87), e18, e19, e20, e21, e22, hJ121⟩
      ·refine DStep.buildSlice (l' := [true, true, true, true, true, true, false, true, true, false, false]) (zd := false) (by kernel_rfl) (by kernel_rfl) (dst := (some 22)) (ty := 77) (g := none) (by kernel_rfl) rfl (t := 77) (len := 1) (parts := #[(0, (.tmp 21))]) (vs := [(0, (vi s12.1))]) (rfl) (E := 3) (cs := [(vi s12.1)]) (by kernel_rfl) hs86 (le79.trans le87) (by simp) (fun _ => by simp) (fun b124 w125 (hs126 : HS w0 F0 w125 F5 ((some b124, .cells ([(vi s12.1)] : List Value).toArray 3 (0, 0)) :: (sb b53 #[(.string ⟨(x39.Text).toArray⟩), (vi x39.Country), (vi x39.Zone), (vi x39.Continent), (vi x39.From), (vi x39.To), (.bool x39.Whole)] 71) :: Lf16)) => ?_)
       have hr128 : RowR tInt 3 F5 (some ⟨b124, 0, none⟩) 1 [s12.1] (some b124, .cells ([(vi s12.1)] : List Value).toArray 3 (0, 0)) := RowR.lit ⟨rfl, rfl⟩ (by simp)
       refine DWP.one (i := 6) (by kernel_rfl) ?_
       obtain ⟨l129, e130, Rs131, a132, n133, e134, q135, hs136, hm137, hv138, hq139, hrow140, hput141⟩ := GrpJ.look (X := [(some b124, .cells ([(vi s12.1)] : List Value).toArray 3 (0, 0)), (sb b53 #[(.string ⟨(x39.Text).toArray⟩), (vi x39.Country), (vi x39.Zone), (vi x39.Continent), (vi x39.From), (vi x39.To), (.bool x39.Whole)] 71)]) (GrpJ.mono _ _ _ _ hJ17 (le79.trans le87)) hs126 r81
       have hs142 : HS w0 F0 w125 F5 ((some b124, .cells ([(vi s12.1)] : List Value).toArray 3 (0, 0)) :: (sb b53 #[(.string ⟨(x39.Text).toArray⟩), (vi x39.Country), (vi x39.Zone), (vi x39.Continent), (vi x39.From), (vi x39.To), (.bool x39.Whole)] 71) :: e130 :: Rs131) := hs136
       refine DStep.val (l' := [true, true, true, true, true, true, true, true, true, false, false]) (zd := false) (by kernel_rfl) (by kernel_rfl) (dst := (some 20)) (ty := 77) (g := none) (by kernel_rfl) rfl (run_lookV1 (mt := 116) (k := 119) (vt := 77) (m := (.tmp 17)) (x := (.tmp 19)) (kv := (.agg #[(.string ⟨(r81.text_).toArray⟩), (.bool r81.whole_)])) (kx := r81) (z := .slice none 0 0) (zx := .slice none 0 0) (K := tair_key) (T := tRaw) kl119 rfl rfl ⟨_, rfl, rfl⟩ (by kernel_rfl) (by kernel_rfl) (tRaw_R _) (MapR.mpw hs142 (i := 2) rfl hm137) (fun h => (tRaw_V h).trans hv138)) (dz_of hs142 (le79.trans le87) (by simp) (fun _ => by simp)) ?_
       refine DWP.one (i := 9) (by kernel_rfl) ?_
       obtain ⟨r143, hap144, h145⟩ := bind_some h83
       refine DStep.append (l' := [true, true, true, true, true, true, true, true, true, true, false]) (zd := false) (by kernel_rfl) (by kernel_rfl) (dst := (some 23)) (ty := 77) (g := none) (by kernel_rfl) rfl (x := (.tmp 20)) (y := (.tmp 22)) (t := 77) (t2 := 77) (by_ := 8) (z := (vi 0)) (a2 := (some ⟨b124, 0, none⟩)) (c2 := 1) (m := [s12.1]) (T := tInt) (E := 3) (a := a132) (cap := n133) (l := (mgetD s12.2 r81 [])) rfl rfl (by kernel_rfl) (by decide) (by kernel_rfl) (by kernel_rfl) rfl oInt hs142 (k := q135 + 3) hq139 hrow140 (RowR.rd hs142 (k := 0) rfl hr128) (r := r143) hap144 (le79.trans le87) (fun _ => by simp) (fun _ _ => by simp) (fun a146 n147 e148 w149 (hs150 : HS w0 F0 w149 F5 ((some b124, .cells ([(vi s12.1)] : List Value).toArray 3 (0, 0)) :: (sb b53 #[(.string ⟨(x39.Text).toArray⟩), (vi x39.Country), (vi x39.Zone), (vi x39.Continent), (vi x39.From), (vi x39.To), (.bool x39.Whole)] 71) :: e130 :: (Rs131.set q135 e148))) hr151 => ?_)
       refine DWP.one (i := 10) (by kernel_rfl) ?_
       refine DStep.mapPut (l' := [true, true, true, true, true, true, true, true, true, true, true]) (zd := true) (by kernel_rfl) (by kernel_rfl) kl119 (ty := 0) (g := none) (mt := 116) (k := 119) (vt := 77) (m := (.tmp 14)) (x := (.tmp 16)) (y := (.tmp 23)) (b := b1) (kx := r81) (u := (.slice a146 r143.length n147)) (kv := (.agg #[(.string ⟨(r73.text_).toArray⟩), (.bool r73.whole_)])) (v := (.slice a146 r143.length n147)) (K := tair_key) (T := tRaw) (by kernel_rfl) rfl rfl rfl rfl (Eq.mp (congrArg (tair_key.V _ (.agg #[(.string ⟨(r73.text_).toArray⟩), (.bool r73.whole_)])) (some_inj (hr74.symm.trans hr82))) ⟨_, rfl, rfl⟩) (tRaw_R _) (by kernel_rfl) hs150 (q := 2) rfl hm137 (le79.trans le87) (fun _ => by simp) (fun e => by cases e) (fun e152 w153 (hs154 : HS w0 F0 w153 F5 ((some b124, .cells ([(vi s12.1)] : List Value).toArray 3 (0, 0)) :: (sb b53 #[(.string ⟨(x39.Text).toArray⟩), (vi x39.Country), (vi x39.Zone), (vi x39.Continent), (vi x39.From), (vi x39.To), (.bool x39.Whole)] 71) :: e152 :: (Rs131.set q135 e148))) hr155 => ?_)
       have hJ156 : GrpJ tair_key tInt 3 b1 (mput s12.2 r81 r143) F5 (e152 :: (Rs131.set q135 e148)) := hput141 _ _ _ _ _ _ (Mem.le.refl _) hr151 hr155
       obtain rfl := some_inj h145
       have hs157 : HS w0 F0 w153 F5 ((sb b53 #[(.string ⟨(x39.Text).toArray⟩), (vi x39.Country), (vi x39.Zone), (vi x39.Continent), (vi x39.From), (vi x39.To), (.bool x39.Whole)] 71) :: (e152 :: (Rs131.set q135 e148))) := hs154.drop 0
       have hs158 : HS w0 F0 w153 F5 (e152 :: (Rs131.set q135 e148)) := hs157.drop 0
       exact DWP.done (by kernel_rfl) ⟨F5, (e152 :: (Rs131.set q135 e148)), hs158, (le79.trans le87), e18, e19, e20, e21, e22, hJ156⟩
     ·refine DStep.buildSlice (l' := [true, true, true, true, true, false, false, true, true, false, false]) (zd := false) (by kernel_rfl) (by kernel_rfl) (dst := (some 22)) (ty := 77) (g := none) (by kernel_rfl) rfl (t := 77) (len := 1) (parts := #[(0, (.tmp 21))]) (vs := [(0, (vi s12.1))]) (rfl) (E := 3) (cs := [(vi s12.1)]) (by kernel_rfl) hs78 le79 (by simp) (fun _ => by simp) (fun b159 w160 (hs161 : HS w0 F0 w160 F4 ((some b159, .cells ([(vi s12.1)] : List Value).toArray 3 (0, 0)) :: (sb b53 #[(.string ⟨(x39.Text).toArray⟩), (vi x39.Country), (vi x39.Zone), (vi x39.Continent), (vi x39.From), (vi x39.To), (.bool x39.Whole)] 71) :: Lf16)) => ?_)
      have hr163 : RowR tInt 3 F4 (some ⟨b159, 0, none⟩) 1 [s12.1] (some b159, .cells ([(vi s12.1)] : List Value).toArray 3 (0, 0)) := RowR.lit ⟨rfl, rfl⟩ (by simp)
      refine DWP.one (i := 5) (by kernel_rfl) ?_
      obtain ⟨r164, hr165, h166⟩ := bind_some h75
      refine DStep.call (l' := [true, true, true, true, true, true, false, true, true, false, false]) (zd := false) (by kernel_rfl) (by kernel_rfl) (by kernel_rfl) (dst := (some 19)) (ty := 119) (g := none) (by kernel_rfl) rfl (f0 := (.func 94)) (aos := #[(.tmp 18)]) (ats := #[71]) (fid := 94) (first := #[]) (cap := #[]) (args := [(.agg #[(.string ⟨(x39.Text).toArray⟩), (vi x39.Country), (vi x39.Zone), (vi x39.Continent), (vi x39.From), (vi x39.To), (.bool x39.Whole)])]) rfl co_air_keyOf (rfl) hs161 (c_air_keyOf N w160 F4 hs161.pers (x39) _ hr165) ?_
      intro v167 F6 w168 hs169 le170 hp171
      obtain rfl := hp171
      refine DWP.one (i := 6) (by kernel_rfl) ?_
      obtain ⟨l172, e173, Rs174, a175, n176, e177, q178, hs179, hm180, hv181, hq182, hrow183, hput184⟩ := GrpJ.look (X := [(some b159, .cells ([(vi s12.1)] : List Value).toArray 3 (0, 0)), (sb b53 #[(.string ⟨(x39.Text).toArray⟩), (vi x39.Country), (vi x39.Zone), (vi x39.Continent), (vi x39.From), (vi x39.To), (.bool x39.Whole)] 71)]) (GrpJ.mono _ _ _ _ hJ17 (le79.trans le170)) hs169 r164
      have hs185 : HS w0 F0 w168 F6 ((some b159, .cells ([(vi s12.1)] : List Value).toArray 3 (0, 0)) :: (sb b53 #[(.string ⟨(x39.Text).toArray⟩), (vi x39.Country), (vi x39.Zone), (vi x39.Continent), (vi x39.From), (vi x39.To), (.bool x39.Whole)] 71) :: e173 :: Rs174) := hs179
      refine DStep.val (l' := [true, true, true, true, true, true, true, true, true, false, false]) (zd := false) (by kernel_rfl) (by kernel_rfl) (dst := (some 20)) (ty := 77) (g := none) (by kernel_rfl) rfl (run_lookV1 (mt := 116) (k := 119) (vt := 77) (m := (.tmp 17)) (x := (.tmp 19)) (kv := (.agg #[(.string ⟨(r164.text_).toArray⟩), (.bool r164.whole_)])) (kx := r164) (z := .slice none 0 0) (zx := .slice none 0 0) (K := tair_key) (T := tRaw) kl119 rfl rfl ⟨_, rfl, rfl⟩ (by kernel_rfl) (by kernel_rfl) (tRaw_R _) (MapR.mpw hs185 (i := 2) rfl hm180) (fun h => (tRaw_V h).trans hv181)) (dz_of hs185 (le79.trans le170) (by simp) (fun _ => by simp)) ?_
      refine DWP.one (i := 9) (by kernel_rfl) ?_
      obtain ⟨r186, hap187, h188⟩ := bind_some h166
      refine DStep.append (l' := [true, true, true, true, true, true, true, true, true, true, false]) (zd := false) (by kernel_rfl) (by kernel_rfl) (dst := (some 23)) (ty := 77) (g := none) (by kernel_rfl) rfl (x := (.tmp 20)) (y := (.tmp 22)) (t := 77) (t2 := 77) (by_ := 8) (z := (vi 0)) (a2 := (some ⟨b159, 0, none⟩)) (c2 := 1) (m := [s12.1]) (T := tInt) (E := 3) (a := a175) (cap := n176) (l := (mgetD s12.2 r164 [])) rfl rfl (by kernel_rfl) (by decide) (by kernel_rfl) (by kernel_rfl) rfl oInt hs185 (k := q178 + 3) hq182 hrow183 (RowR.rd hs185 (k := 0) rfl (hr163.mono le170)) (r := r186) hap187 (le79.trans le170) (fun _ => by simp) (fun _ _ => by simp) (fun a189 n190 e191 w192 (hs193 : HS w0 F0 w192 F6 ((some b159, .cells ([(vi s12.1)] : List Value).toArray 3 (0, 0)) :: (sb b53 #[(.string ⟨(x39.Text).toArray⟩), (vi x39.Country), (vi x39.Zone), (vi x39.Continent), (vi x39.From), (vi x39.To), (.bool x39.Whole)] 71) :: e173 :: (Rs174.set q178 e191))) hr194 => ?_)
      refine DWP.one (i := 10) (by kernel_rfl) ?_
      refine DStep.mapPut (l' := [true, true, true, true, true, true, true, true, true, true, true]) (zd := true) (by kernel_rfl) (by kernel_rfl) kl119 (ty := 0) (g := none) (mt := 116) (k := 119) (vt := 77) (m := (.tmp 14)) (x := (.tmp 16)) (y := (.tmp 23)) (b := b1) (kx := r164) (u := (.slice a189 r186.length n190)) (kv := (.agg #[(.string ⟨(r73.text_).toArray⟩), (.bool r73.whole_)])) (v := (.slice a189 r186.length n190)) (K := tair_key) (T := tRaw) (by kernel_rfl) rfl rfl rfl rfl (Eq.mp (congrArg (tair_key.V _ (.agg #[(.string ⟨(r73.text_).toArray⟩), (.bool r73.whole_)])) (some_inj (hr74.symm.trans hr165))) ⟨_, rfl, rfl⟩) (tRaw_R _) (by kernel_rfl) hs193 (q := 2) rfl hm180 (le79.trans le170) (fun _ => by simp) (fun e => by cases e) (fun e195 w196 (hs197 : HS w0 F0 w196 F6 ((some b159, .cells ([(vi s12.1)] : List Value).toArray 3 (0, 0)) :: (sb b53 #[(.string ⟨(x39.Text).toArray⟩), (vi x39.Country), (vi x39.Zone), (vi x39.Continent), (vi x39.From), (vi x39.To), (.bool x39.Whole)] 71) :: e195 :: (Rs174.set q178 e191))) hr198 => ?_)
      have hJ199 : GrpJ tair_key tInt 3 b1 (mput s12.2 r164 r186) F6 (e195 :: (Rs174.set q178 e191)) := hput184 _ _ _ _ _ _ (Mem.le.refl _) hr194 hr198
      obtain rfl := some_inj h188
      have hs200 : HS w0 F0 w196 F6 ((sb b53 #[(.string ⟨(x39.Text).toArray⟩), (vi x39.Country), (vi x39.Zone), (vi x39.Continent), (vi x39.From), (vi x39.To), (.bool x39.Whole)] 71) :: (e195 :: (Rs174.set q178 e191))) := hs197.drop 0
      have hs201 : HS w0 F0 w196 F6 (e195 :: (Rs174.set q178 e191)) := hs200.drop 0
      exact DWP.done (by kernel_rfl) ⟨F6, (e195 :: (Rs174.set q178 e191)), hs201, (le79.trans le170), e18, e19, e20, e21, e22, hJ199⟩
    ·refine DStep.buildSlice (l' := [true, true, false, true, true, false, false, true, true, false, false]) (zd := false) (by kernel_rfl) (by kernel_rfl) (dst := (some 22)) (ty := 77) (g := none) (by kernel_rfl) rfl (t := 77) (len := 1) (parts := #[(0, (.tmp 21))]) (vs := [(0, (vi s12.1))]) (rfl) (E := 3) (cs := [(vi s12.1)]) (by kernel_rfl) hw59 (Mem.le.refl _) (by simp) (fun _ => by simp) (fun b202 w203 (hs204 : HS w0 F0 w203 F1 ((some b202, .cells ([(vi s12.1)] : List Value).toArray 3 (0, 0)) :: (sb b53 #[(.string ⟨(x39.Text).toArray⟩), (vi x39.Country), (vi x39.Zone), (vi x39.Continent), (vi x39.From), (vi x39.To), (.bool x39.Whole)] 71) :: Lf16)) => ?_)
     have hr206 : RowR tInt 3 F1 (some ⟨b202, 0, none⟩) 1 [s12.1] (some b202, .cells ([(vi s12.1)] : List Value).toArray 3 (0, 0)) := RowR.lit ⟨rfl, rfl⟩ (by simp)
     refine DWP.one (i := 2) (by kernel_rfl) ?_
     obtain ⟨r207, hr208, h209⟩ := bind_some hj71
     refine DStep.call (l' := [true, true, true, true, true, false, false, true, true, false, false]) (zd := false) (by kernel_rfl) (by kernel_rfl) (by kernel_rfl) (dst := (some 16)) (ty := 119) (g := none) (by kernel_rfl) rfl (f0 := (.func 94)) (aos := #[(.tmp 15)]) (ats := #[71]) (fid := 94) (first := #[]) (cap := #[]) (args := [(.agg #[(.string ⟨(x39.Text).toArray⟩), (vi x39.Country), (vi x39.Zone), (vi x39.Continent), (vi x39.From), (vi x39.To), (.bool x39.Whole)])]) rfl co_air_keyOf (rfl) hs204 (c_air_keyOf N w203 F1 hs204.pers (x39) _ hr208) ?_
     intro v210 F7 w211 hs212 le213 hp214
     obtain rfl := hp214
     refine DWP.one (i := 5) (by kernel_rfl) ?_
     obtain ⟨r215, hr216, h217⟩ := bind_some h209
     refine DStep.call (l' := [true, true, true, true, true, true, false, true, true, false, false]) (zd := false) (by kernel_rfl) (by kernel_rfl) (by kernel_rfl) (dst := (some 19)) (ty := 119) (g := none) (by kernel_rfl) rfl (f0 := (.func 94)) (aos := #[(.tmp 18)]) (ats := #[71]) (fid := 94) (first := #[]) (cap := #[]) (args := [(.agg #[(.string ⟨(x39.Text).toArray⟩), (vi x39.Country), (vi x39.Zone), (vi x39.Continent), (vi x39.From), (vi x39.To), (.bool x39.Whole)])]) rfl co_air_keyOf (rfl) hs212 (c_air_keyOf N w211 F7 hs212.pers (x39) _ hr216) ?_
     intro v218 F8 w219 hs220 le221 hp222
     obtain rfl := hp222
     refine DWP.one (i := 6) (by kernel_rfl) ?_
     obtain ⟨l223, e224, Rs225, a226, n227, e228, q229, hs230, hm231, hv232, hq233, hrow234, hput235⟩ := GrpJ.look (X := [(some b202, .cells ([(vi s12.1)] : List Value).toArray 3 (0, 0)), (sb b53 #[(.string ⟨(x39.Text).toArray⟩), (vi x39.Country), (vi x39.Zone), (vi x39.Continent), (vi x39.From), (vi x39.To), (.bool x39.Whole)] 71)]) (GrpJ.mono _ _ _ _ hJ17 (le213.trans le221)) hs220 r215
     have hs236 : HS w0 F0 w219 F8 ((some b202, .cells ([(vi s12.1)] : List Value).toArray 3 (0, 0)) :: (sb b53 #[(.string ⟨(x39.Text).toArray⟩), (vi x39.Country), (vi x39.Zone), (vi x39.Continent), (vi x39.From), (vi x39.To), (.bool x39.Whole)] 71) :: e224 :: Rs225) := hs230
     refine DStep.val (l' := [true, true, true, true, true, true, true, true, true, false, false]) (zd := false) (by kernel_rfl) (by kernel_rfl) (dst := (some 20)) (ty := 77) (g := none) (by kernel_rfl) rfl (run_lookV1 (mt := 116) (k := 119) (vt := 77) (m := (.tmp 17)) (x := (.tmp 19)) (kv := (.agg #[(.string ⟨(r215.text_).toArray⟩), (.bool r215.whole_)])) (kx := r215) (z := .slice none 0 0) (zx := .slice none 0 0) (K := tair_key) (T := tRaw) kl119 rfl rfl ⟨_, rfl, rfl⟩ (by kernel_rfl) (by kernel_rfl) (tRaw_R _) (MapR.mpw hs236 (i := 2) rfl hm231) (fun h => (tRaw_V h).trans hv232)) (dz_of hs236 (le213.trans le221) (by simp) (fun _ => by simp)) ?_
     refine DWP.one (i := 9) (by kernel_rfl) ?_
     obtain ⟨r237, hap238, h239⟩ := bind_some h217
     refine DStep.append (l' := [true, true, true, true, true, true, true, true, true, true, false]) (zd := false) (by kernel_rfl) (by kernel_rfl) (dst := (some 23)) (ty := 77) (g := none) (by kernel_rfl) rfl (x := (.tmp 20)) (y := (.tmp 22)) (t := 77) (t2 := 77) (by_ := 8) (z := (vi 0)) (a2 := (some ⟨b202, 0, none⟩)) (c2 := 1) (m := [s12.1]) (T := tInt) (E := 3) (a := a226) (cap := n227) (l := (mgetD s12.2 r215 [])) rfl rfl (by kernel_rfl) (by decide) (by kernel_rfl) (by kernel_rfl) rfl oInt hs236 (k := q229 + 3) hq233 hrow234 (RowR.rd hs236 (k := 0) rfl (hr206.mono (le213.trans le221))) (r := r237) hap238 (le213.trans le221) (fun _ => by simp) (fun _ _ => by simp) (fun a240 n241 e242 w243 (hs244 : HS w0 F0 w243 F8 ((some b202, .cells ([(vi s12.1)] : List Value).toArray 3 (0, 0)) :: (sb b53 #[(.string ⟨(x39.Text).toArray⟩), (vi x39.Country), (vi x39.Zone), (vi x39.Continent), (vi x39.From), (vi x39.To), (.bool x39.Whole)] 71) :: e224 :: (Rs225.set q229 e242))) hr245 => ?_)
     refine DWP.one (i := 10) (by kernel_rfl) ?_
     refine DStep.mapPut (l' := [true, true, true, true, true, true, true, true, true, true, true]) (zd := true) (by kernel_rfl) (by kernel_rfl) kl119 (ty := 0) (g := none) (mt := 116) (k := 119) (vt := 77) (m := (.tmp 14)) (x := (.tmp 16)) (y := (.tmp 23)) (b := b1) (kx := r215) (u := (.slice a240 r237.length n241)) (kv := (.agg #[(.string ⟨(r207.text_).toArray⟩), (.bool r207.whole_)])) (v := (.slice a240 r237.length n241)) (K := tair_key) (T := tRaw) (by kernel_rfl) rfl rfl rfl rfl (Eq.mp (congrArg (tair_key.V _ (.agg #[(.string ⟨(r207.text_).toArray⟩), (.bool r207.whole_)])) (some_inj (hr208.symm.trans hr216))) ⟨_, rfl, rfl⟩) (tRaw_R _) (by kernel_rfl) hs244 (q := 2) rfl hm231 (le213.trans le221) (fun _ => by simp) (fun e => by cases e) (fun e246 w247 (hs248 : HS w0 F0 w247 F8 ((some b202, .cells ([(vi s12.1)] : List Value).toArray 3 (0, 0)) :: (sb b53 #[(.string ⟨(x39.Text).toArray⟩), (vi x39.Country), (vi x39.Zone), (vi x39.Continent), (vi x39.From), (vi x39.To), (.bool x39.Whole)] 71) :: e246 :: (Rs225.set q229 e242))) hr249 => ?_)
     have hJ250 : GrpJ tair_key tInt 3 b1 (mput s12.2 r215 r237) F8 (e246 :: (Rs225.set q229 e242)) := hput235 _ _ _ _ _ _ (Mem.le.refl _) hr245 hr249
     obtain rfl := some_inj h239
     have hs251 : HS w0 F0 w247 F8 ((sb b53 #[(.string ⟨(x39.Text).toArray⟩), (vi x39.Country), (vi x39.Zone), (vi x39.Continent), (vi x39.From), (vi x39.To), (.bool x39.Whole)] 71) :: (e246 :: (Rs225.set q229 e242))) := hs248.drop 0
     have hs252 : HS w0 F0 w247 F8 (e246 :: (Rs225.set q229 e242)) := hs251.drop 0
     exact DWP.done (by kernel_rfl) ⟨F8, (e246 :: (Rs225.set q229 e242)), hs252, (le213.trans le221), e18, e19, e20, e21, e22, hJ250⟩
   ·rintro f w60 ⟨F3, Lf64, hs61, le62, e66, e67, e68, e69, e70, hJ65⟩
    refine blockQ_nrm ?_
    refine thenQ_nrm ?_
    refine Rg [0, 1] ?_
    refine V 24 3 (run_add (t := 3) (t' := 3) (x := (.tmp 9)) (y := (.const (vi 1))) (k := .i64) (a := s12.1) (b := 1) e70 rfl) ?_
    refine V 9 3 (mv 24 (vi (W64 (s12.1 + 1)))) ?_
    refine RWP.nil ?_
    have hn253 := iter_next h72 hnx36
    exact ⟨m33, Nat.lt_succ_self _, ((W64 (s12.1 + 1)), j63), F3, Lf64, hn253, hs61, (le15.trans le62), e66, e67, e68, e69, rfl, hJ65⟩
  ·have h254 := cond_f hb35 hb37
   refine CWP.exit (by kernel_rfl) ?_
   refine thenQ_ex ?_
   refine thenQ_ex ?_
   refine blockQ_hit rfl ?_
   have ho255 := iter_done h254 hnx36
   exact .inl ⟨rfl, (s12.1, s12.2), F1, Lf16, ho255, hs14, le15, e18, e19, hJ17⟩
 ·rintro f w24 ⟨s23, F2, Lf27, rfl, hs25, le26, e29, e30, hJ28⟩
  have h256 := k_done h11
  refine thenQ_nrm ?_
  refine Sq (Rg [0, 1] ?_)
  refine V 25 116 (mv 3 (.map (some b1)) e30) ?_
  refine V 2 116 (ma 25 (.map (some b1))) ?_
  refine Nt ?_
  refine CWP.ret (by kernel_rfl) ?_
  obtain ⟨F9, hs257, le258, hm259⟩ : ∃ Fq, HS w0 F0 w24 Fq [] ∧ Mem.le F2 Fq ∧ MpA tair_key (tSl tInt) Fq (some b1) s23.2 := GrpJ.freeze hs25 hJ28
  have hfin := some_inj h256
  subst hfin
  exact ⟨e29, (.map (some b1)), res_of (l := [.tmp 2]) (by kernel_rfl) (vs := [(.map (some b1))]) ⟨rfl, trivial⟩, (.map (some b1)), F9, rfl, hs257.clear, ⟨(some b1), rfl, hm259⟩⟩
end Go.Proofs.YtlddakefmfcblaaGreatDoor
namespace Go.Proofs.YtlddakefmfcblaaGreatDoor
open Go.Proofs
def air_Overlap_L1 (N : Nat) (x0 : (List Prefix)) (r1 : Bool) (r12 : (List (air_key × (List Int)))) (s23 : Int) (x46 : Prefix) (r65 : air_key) : Int → Option (Flow (Int × Int × Int) Int) := fun s80 =>
 (bif (decide (s80 < ((mgetD r12 r65 ([] : List Int)).length : Int))) then ((idx (mgetD r12 r65 ([] : List Int)) s80).bind fun x113 => ((bif (decide (x113 > s23)) then ((idx x0 x113).bind fun x150 => (bif (decide (x46.From ≤ x150.To)) then ((idx x0 x113).bind fun x158 => some (decide (x158.From ≤ x46.To))) else some false)) else some false).bind fun j132 => (bif j132 then some (.ret (s23, x113, 0)) else some (.next (W64 (s80 + 1)))))) else some (.done s80))
def air_Overlap_L0 (N : Nat) (x0 : (List Prefix)) (r1 : Bool) (r12 : (List (air_key × (List Int)))) : Int → Option (Flow (Int × Int × Int) Int) := fun s23 =>
 (bif (decide (s23 < (x0.length : Int))) then ((idx x0 s23).bind fun x46 => ((air_keyOf N x46).bind fun r65 => ((iter (air_Overlap_L1 N x0 r1 r12 s23 x46 r65) N 0).bind fun o => o.k (fun r => some (.ret r)) (fun s95 => some (.next (W64 (s23 + 1))))))) else some (.done s23))
def air_Overlap (N : Nat) (x0 : (List Prefix)) : Option (Int × Int × Int) :=
 ((air_rows N x0).bind fun r1 => (bif (!r1) then some (0, 0, 12) else ((air_tableOf N x0).bind fun r12 => ((iter (air_Overlap_L0 N x0 r1 r12) N 0).bind fun o => o.k (fun r => some r) (fun s33 => some (0, 0, 3))))))
theorem co_air_Overlap : CallOk Tryz.prog 50 := fun _ _ => by kernel_rfl
set_option maxHeartbeats 4000000 in
set_option maxRecDepth 100000 in
theorem c_air_Overlap (N : Nat) (w0 : World) (F0 : Mem) (hF : ∀ b o, F0 b = some o → w0.heap[b]? = some o) (x0 : (List Prefix)) (a0_0 : Option Addr) (n0_0 : Nat) (hb0_0 : LC x0.length n0_0) (hs0_0 : SlA tPrefix F0 a0_0 x0) (r : (Int × Int × Int)) (h : air_Overlap N x0 = some r) :
  Calls Tryz.prog 50 ([(.slice a0_0 x0.length n0_0)] : List Value).toArray w0 (FRet w0 F0 fun F' v => v = (.tuple #[(vi r.1), (vi r.2.1), (vi r.2.2)])) := by
 have hs0 := HS.start hF
 refine calls_of (n := 58) (c := bodyOf Tryz.f50) Tryz.func50 (by kernel_rfl) (by kernel_rfl) (by kernel_rfl) ?_
 refine Sq (Rg [0, 1, 2] ?_)
 refine V 2 3 (mc (vi 0) (vi 0)) ?_
 refine V 3 3 (mc (vi 0) (vi 0)) ?_
 refine V 4 23 (mc (vi 0) (vi 0)) ?_
 refine Nss ?_
 refine Sq (Rg [0, 1, 2] ?_)
 refine V 10 61 (mv 0 (.slice a0_0 x0.length n0_0)) ?_
 obtain ⟨r1, hr2, h3⟩ := bind_some h
 refine Cl 11 4 92 #[(.tmp 10)] #[61] co_air_rows hs0 (c_air_rows N w0 F0 hs0.pers (x0) a0_0 n0_0 hb0_0 hs0_0 _ hr2) ?_
 intro v4 F1 w5 hs6 le7 hp8
 obtain rfl := hp8
 refine V 12 4 (run_not (t := 4) (x := (.tmp 11)) (a := r1) rfl) ?_
 refine Nt ?_
 refine CWP.cond (t := (!r1)) (by kernel_rfl) rfl (fun hb9 => ?_) (fun hb9 => ?_)
 ·have h10 := cond_t h3 hb9
  refine Sq (Rg [0, 1, 2] ?_)
  refine V 2 3 (mc (vi 0) (vi 0)) ?_
  refine V 3 3 (mc (vi 0) (vi 0)) ?_
  refine V 4 23 (mc (vi 12) (vi 12)) ?_
  refine Nt ?_
  refine CWP.ret (by kernel_rfl) ?_
  refine thenQ_ret ?_
  have hfin := some_inj h10
  subst hfin
  exact ⟨rfl, (.tuple #[(vi 0), (vi 0), (vi 12)]), res_of (l := [.tmp 2, .tmp 3, .tmp 4]) (by kernel_rfl) (vs := [(vi 0), (vi 0), (vi 12)]) ⟨rfl, ⟨rfl, ⟨rfl, trivial⟩⟩⟩, (.tuple #[(vi 0), (vi 0), (vi 12)]), F1, rfl, hs6.clear, rfl⟩
 ·have h11 := cond_f h3 hb9
  refine Sc ?_
  refine thenQ_nrm ?_
  refine Sq (Rg [0, 1, 2] ?_)
  refine V 13 61 (mv 0 (.slice a0_0 x0.length n0_0)) ?_
  obtain ⟨r12, hr13, h14⟩ := bind_some h11
  refine Cl 14 116 93 #[(.tmp 13)] #[61] co_air_tableOf hs6 (c_air_tableOf N w5 F1 hs6.pers (x0) a0_0 n0_0 hb0_0 (SlA.mono hs0_0 le7) _ hr13) ?_
  intro v15 F2 w16 hs17 le18 hp19
  obtain ⟨or12_0_0, rfl, hmr12_0_0⟩ := hp19
  refine V 5 116 (ma 14 (.map or12_0_0)) ?_
  refine Nss ?_
  refine Sq (Rg [0, 1, 2] ?_)
  refine V 15 61 (mv 0 (.slice a0_0 x0.length n0_0)) ?_
  refine V 16 3 (ln 15 61 a0_0 x0.length n0_0 71 7 64) ?_
  refine V 17 3 (run_move (x := (.const (vi 0))) (v := (vi 0)) rfl) ?_
  refine Nt ?_
  obtain ⟨o20, ho21, h22⟩ := bind_some h14
  refine CWP.cut (fun f w => ∃ (s33 : Int) (F4 : Mem), o20 = .done s33 ∧ HS w0 F0 w F4 [] ∧ Mem.le F2 F4 ∧ f.d = []) ?_ ?_
  ·refine Bk ?_
   refine CWP.loop (by kernel_rfl) (fun m f w => ∃ (s23 : Int) (F3 : Mem), iter (air_Overlap_L0 N x0 r1 r12) m s23 = some o20 ∧ HS w0 F0 w F3 [] ∧ Mem.le F2 F3 ∧ f.d = [] ∧ f 0 = (.slice a0_0 x0.length n0_0) ∧ f 5 = (.map or12_0_0) ∧ f 15 = (.slice a0_0 x0.length n0_0) ∧ f 16 = (vi (x0.length : Int)) ∧ f 17 = (vi s23)) N ⟨0, F2, ho21, hs17, (Mem.le.refl _), rfl, rfl, rfl, rfl, rfl, rfl⟩ ?_
   rintro m38 f w24 ⟨s23, F3, hit39, hs25, le26, e27, e28, e29, e30, e31, e32⟩
   obtain ⟨m40, fl41, rfl, hb42, hnx43⟩ := iter_step hit39
   refine Sq (Rg [0] ?_)
   refine V 18 0 (run_lss (t := 3) (t' := 3) (x := (.tmp 17)) (y := (.tmp 16)) (k := .i64) (a := s23) (b := (x0.length : Int)) e32 e31) ?_
   refine Nss ?_
   refine CWP.cond (t := (decide (s23 < (x0.length : Int)))) (by kernel_rfl) rfl (fun hb44 => ?_) (fun hb44 => ?_)
   ·have h45 := cond_t hb42 hb44
    refine Sc ?_
    refine thenQ_nrm ?_
    refine Sq ?_
    refine Bk ?_
    refine Sq (Rg [0, 1, 2, 3, 4, 5] ?_)
    refine V 19 3 (mv 17 (vi s23) e32) ?_
    obtain ⟨x46, hx47, h49⟩ := bind_some h45
    obtain ⟨hi48, hx47'⟩ := idx_spec hx47
    obtain ⟨b50, o51, C52, E53, fz54, rfl, hF56, hE57⟩ := SlA.open (SlA.mono hs0_0 ((le7.trans le18).trans le26)) hx47'
    have hc59 := hE57 _ _ hx47'
    refine V 20 0 (run_index (t := 61) (x := (.tmp 15)) (y := (.tmp 17)) (b := b50) (o := o51) (E := 71) (s := 7) (by_ := 64) e30 e32 (by kernel_rfl) hi48) ?_
    refine V 21 71 (lx 71 20 0 7 true 7 (.agg #[(.string ⟨(x46.Text).toArray⟩), (vi x46.Country), (vi x46.Zone), (vi x46.Continent), (vi x46.From), (vi x46.To), (.bool x46.Whole)]) (hs25.pers _ _ hF56) hc59) ?_
    refine Al 7 0 71 #[(.string ⟨(([] : List UInt8)).toArray⟩), (vi 0), (vi 0), (vi 0), (vi 0), (vi 0), (.bool false)] hs25 (fun b60 w61 (hs62 : HS w0 F0 w61 F3 [(sb b60 #[(.string ⟨(([] : List UInt8)).toArray⟩), (vi 0), (vi 0), (vi 0), (vi 0), (vi 0), (.bool false)] 71)]) => ?_)
    refine V 6 3 (ma 19 (vi s23)) ?_
    refine RWP.store (ty := 0) (g := none) (by kernel_rfl) rfl (x := (.tmp 7)) (y := (.tmp 21)) (t := 71) (gg := true) (s := 7) (v := (.agg #[(.string ⟨(x46.Text).toArray⟩), (vi x46.Country), (vi x46.Zone), (vi x46.Continent), (vi x46.From), (vi x46.To), (.bool x46.Whole)])) (b := b60) (o := 0) (C := #[(.string ⟨(([] : List UInt8)).toArray⟩), (vi 0), (vi 0), (vi 0), (vi 0), (vi 0), (.bool false)]) rfl rfl (by kernel_rfl) hs62 (k := 0) rfl rfl rfl rfl (C' := #[(.string ⟨(x46.Text).toArray⟩), (vi x46.Country), (vi x46.Zone), (vi x46.Continent), (vi x46.From), (vi x46.To), (.bool x46.Whole)]) rfl (fun w63 (hs64 : HS w0 F0 w63 F3 [(sb b60 #[(.string ⟨(x46.Text).toArray⟩), (vi x46.Country), (vi x46.Zone), (vi x46.Continent), (vi x46.From), (vi x46.To), (.bool x46.Whole)] 71)]) => ?_)
    refine Nss (Rg [0, 1, 2, 3, 4, 5] ?_)
    refine V 22 116 (mv 5 (.map or12_0_0) e29) ?_
    refine V 23 71 (ld 71 7 b60 0 true 7 (.agg #[(.string ⟨(x46.Text).toArray⟩), (vi x46.Country), (vi x46.Zone), (vi x46.Continent), (vi x46.From), (vi x46.To), (.bool x46.Whole)]) (hs64.ownAt (k := 0) rfl)) ?_
    obtain ⟨r65, hr66, h67⟩ := bind_some h49
    refine Cl 24 119 94 #[(.tmp 23)] #[71] co_air_keyOf hs64 (c_air_keyOf N w63 F3 hs64.pers (x46) _ hr66) ?_
    intro v68 F5 w69 hs70 le71 hp72
    obtain rfl := hp72
    refine RWP.look1 kl119 (dst := (some 25))  (g := none) (by kernel_rfl) rfl (ty := 77) (mt := 116) (k := 119) (vt := 77) (m := (.tmp 22)) (x := (.tmp 24)) (kv := (.agg #[(.string ⟨(r65.text_).toArray⟩), (.bool r65.whole_)])) (kx := r65) (z := (.slice none ([] : List Int).length 0)) (zx := ([] : List Int)) (K := tair_key) (T := (tSl tInt)) rfl rfl ⟨_, rfl, rfl⟩ (by kernel_rfl) (by kernel_rfl) ⟨_, ⟨none, 0, rfl, LC.nil, (.inl rfl)⟩, rfl⟩ (MpA.mpw hs70.pers (MpA.mono hmr12_0_0 (le26.trans le71))) (fun v73 hv74 => ?_)
    obtain ⟨ay75_0, ny75_0, rfl, hby75_0, hsy75_0⟩ : ∃ (ay75_0 : Option Addr) (ny75_0 : Nat), v73 = (.slice ay75_0 (mgetD r12 r65 ([] : List Int)).length ny75_0) ∧ LC (mgetD r12 r65 ([] : List Int)).length ny75_0 ∧ SlA tInt F5 ay75_0 (mgetD r12 r65 ([] : List Int)) := by obtain ⟨_, ⟨ay75_0, ny75_0, rfl, hby75_0, hsy75_0⟩, rfl⟩ := hv74; exact ⟨ay75_0, ny75_0, rfl, hby75_0, hsy75_0⟩
    refine V 26 3 (ln 25 77 ay75_0 (mgetD r12 r65 ([] : List Int)).length ny75_0 3 1 8) ?_
    refine V 27 3 (run_move (x := (.const (vi 0))) (v := (vi 0)) rfl) ?_
    refine Nt ?_
    obtain ⟨o77, ho78, h79⟩ := bind_some h67
    refine CWP.cut (fun f w => ∃ (s95 : Int) (F7 : Mem), o77 = .done s95 ∧ HS w0 F0 w F7 [] ∧ Mem.le F5 F7 ∧ f.d = [] ∧ f 0 = (.slice (some ⟨b50, o51, none⟩) x0.length n0_0) ∧ f 5 = (.map or12_0_0) ∧ f 15 = (.slice (some ⟨b50, o51, none⟩) x0.length n0_0) ∧ f 16 = (vi (x0.length : Int)) ∧ f 17 = (vi s23)) ?_ ?_
    ·refine Bk ?_
     refine CWP.loop (by kernel_rfl) (fun m f w => ∃ (s80 : Int) (F6 : Mem), iter (air_Overlap_L1 N x0 r1 r12 s23 x46 r65) m s80 = some o77 ∧ HS w0 F0 w F6 [(sb b60 #[(.string ⟨(x46.Text).toArray⟩), (vi x46.Country), (vi x46.Zone), (vi x46.Continent), (vi x46.From), (vi x46.To), (.bool x46.Whole)] 71)] ∧ Mem.le F5 F6 ∧ f.d = [] ∧ f 0 = (.slice (some ⟨b50, o51, none⟩) x0.length n0_0) ∧ f 5 = (.map or12_0_0) ∧ f 6 = (vi s23) ∧ f 7 = (.pointer (some ⟨b60, 0, none⟩)) ∧ f 15 = (.slice (some ⟨b50, o51, none⟩) x0.length n0_0) ∧ f 16 = (vi (x0.length : Int)) ∧ f 17 = (vi s23) ∧ f 25 = (.slice ay75_0 (mgetD r12 r65 ([] : List Int)).length ny75_0) ∧ f 26 = (vi ((mgetD r12 r65 ([] : List Int)).length : Int)) ∧ f 27 = (vi s80)) N ⟨0, F5, ho78, hs70, (Mem.le.refl _), e27, e28, e29, rfl, rfl, e30, e31, e32, rfl, rfl, rfl⟩ ?_
     rintro m105 f w81 ⟨s80, F6, hit106, hs82, le83, e84, e85, e86, e87, e88, e89, e90, e91, e92, e93, e94⟩
     obtain ⟨m107, fl108, rfl, hb109, hnx110⟩ := iter_step hit106
     refine Sq (Rg [0] ?_)
     refine V 28 0 (run_lss (t := 3) (t' := 3) (x := (.tmp 27)) (y := (.tmp 26)) (k := .i64) (a := s80) (b := ((mgetD r12 r65 ([] : List Int)).length : Int)) e94 e93) ?_
     refine Nss ?_
     refine CWP.cond (t := (decide (s80 < ((mgetD r12 r65 ([] : List Int)).length : Int)))) (by kernel_rfl) rfl (fun hb111 => ?_) (fun hb111 => ?_)
     ·have h112 := cond_t hb109 hb111
      refine Sc ?_
      refine thenQ_nrm ?_
      refine Sq ?_
      refine Bk ?_
      refine Sq (Rg [0, 1, 2] ?_)
      obtain ⟨x113, hx114, h116⟩ := bind_some h112
      obtain ⟨hi115, hx114'⟩ := idx_spec hx114
      obtain ⟨b117, o118, C119, E120, fz121, rfl, hF123, hE124⟩ := SlA.open (SlA.mono hsy75_0 le83) hx114'
      have hc126 := hE124 _ _ hx114'
      refine V 29 0 (run_index (t := 77) (x := (.tmp 25)) (y := (.tmp 27)) (b := b117) (o := o118) (E := 3) (s := 1) (by_ := 8) e92 e94 (by kernel_rfl) hi115) ?_
      refine V 30 3 (lx 3 29 0 1 false 1 (vi x113) (hs82.pers _ _ hF123) hc126) ?_
      refine V 9 3 (ma 30 (vi x113)) ?_
      refine Nss ?_
      obtain ⟨j132, hj146, h147⟩ := bind_some h116
      refine CWP.regionD (by kernel_rfl) (by kernel_rfl) (by kernel_rfl) (by kernel_rfl) (z := 23) (F := F6) (Lc := [(sb b60 #[(.string ⟨(x46.Text).toArray⟩), (vi x46.Country), (vi x46.Zone), (vi x46.Continent), (vi x46.From), (vi x46.To), (.bool x46.Whole)] 71)]) (Lz := []) (l := [false, false, false, false, false, false, false, false, false, false, false, false, false, false, false, false, false, false, false, false, false, false, false]) (fuel := 23) (by kernel_rfl) (by kernel_rfl) hs82 (by simp) (by simp) (fun f w => ∃ (F8 : Mem), HS w0 F0 w F8 [(sb b60 #[(.string ⟨(x46.Text).toArray⟩), (vi x46.Country), (vi x46.Zone), (vi x46.Continent), (vi x46.From), (vi x46.To), (.bool x46.Whole)] 71)] ∧ Mem.le F6 F8 ∧ f.d = [] ∧ f 0 = (.slice (some ⟨b50, o51, none⟩) x0.length n0_0) ∧ f 5 = (.map or12_0_0) ∧ f 6 = (vi s23) ∧ f 7 = (.pointer (some ⟨b60, 0, none⟩)) ∧ f 9 = (vi x113) ∧ f 15 = (.slice (some ⟨b50, o51, none⟩) x0.length n0_0) ∧ f 16 = (vi (x0.length : Int)) ∧ f 17 = (vi s23) ∧ f 25 = (.slice (some ⟨b117, o118, none⟩) (mgetD r12 r65 ([] : List Int)).length ny75_0) ∧ f 26 = (vi ((mgetD r12 r65 ([] : List Int)).length : Int)) ∧ f 27 = (vi s80) ∧ f 53 = (.bool j132)) (fun wd127 hw128 => ?_) ?_
      ·refine Dtl 0 31 3 _ [tt, ff, ff, ff, ff, ff, ff, ff, ff, ff, ff, ff, ff, ff, ff, ff, ff, ff, ff, ff, ff, ff, ff] (fun _ hq => mv 9 (vi x113)) ?_
       refine Dtl 1 32 3 _ [tt, tt, ff, ff, ff, ff, ff, ff, ff, ff, ff, ff, ff, ff, ff, ff, ff, ff, ff, ff, ff, ff, ff] (fun _ hq => mv 6 (vi s23) e87) ?_
       refine Dtl 2 33 4 (.bool (decide (x113 > s23))) [tt, tt, tt, ff, ff, ff, ff, ff, ff, ff, ff, ff, ff, ff, ff, ff, ff, ff, ff, ff, ff, ff, ff] (fun _ hq => run_gtr (t := 3) (t' := 3) (x := (.tmp 31)) (y := (.tmp 32)) (k := .i64) (a := x113) (b := s23) rfl rfl) ?_
       refine Dtl 3 34 4 _ [tt, tt, tt, tt, ff, ff, ff, ff, ff, ff, ff, ff, ff, ff, ff, ff, ff, ff, ff, ff, ff, ff, ff] (fun _ hq => mv 33 (.bool (decide (x113 > s23)))) ?_
       refine DWP.split (decide (x113 > s23)) (fun hb148 => ?_) (fun hb148 => ?_)
       ·have h149 := cond_t hj146 hb148
        refine Dgl 4 35 0 (.pointer (some ⟨b60, 4, none⟩)) [tt, tt, tt, tt, tt, ff, ff, ff, ff, ff, ff, ff, ff, ff, ff, ff, ff, ff, ff, ff, ff, ff, ff] 3 true 34 hb148 (fun _ hq => fa 71 7 4 4 1 b60 0 4 e88) ?_
        refine Dgl 5 36 3 _ [tt, tt, tt, tt, tt, tt, ff, ff, ff, ff, ff, ff, ff, ff, ff, ff, ff, ff, ff, ff, ff, ff, ff] 3 true 34 hb148 (fun _ hq => ld 3 35 b60 4 false 1 (vi x46.From) (hq.1.2 0 _ _ rfl)) ?_
        refine Dgl 6 37 61 _ [tt, tt, tt, tt, tt, tt, tt, ff, ff, ff, ff, ff, ff, ff, ff, ff, ff, ff, ff, ff, ff, ff, ff] 3 true 34 hb148 (fun _ hq => mv 0 (.slice (some ⟨b50, o51, none⟩) x0.length n0_0) e85) ?_
        refine Dgl 7 38 3 _ [tt, tt, tt, tt, tt, tt, tt, tt, ff, ff, ff, ff, ff, ff, ff, ff, ff, ff, ff, ff, ff, ff, ff] 3 true 34 hb148 (fun _ hq => mv 9 (vi x113)) ?_
        obtain ⟨x150, hx151, h153⟩ := bind_some h149
        obtain ⟨hi152, hx151'⟩ := idx_spec hx151
        have hc155 := hE57 _ _ hx151'
        refine Dgl 8 39 0 (.pointer (some ⟨b50, (o51 + (x113 : Int).toNat * 7), none⟩)) [tt, tt, tt, tt, tt, tt, tt, tt, tt, ff, ff, ff, ff, ff, ff, ff, ff, ff, ff, ff, ff, ff, ff] 3 true 34 hb148 (fun _ hq => ix 61 37 38 b50 o51 71 7 64 hi152) ?_
        refine Dgl 9 40 0 (.pointer (some ⟨b50, ((o51 + (x113 : Int).toNat * 7) + 5), none⟩)) [tt, tt, tt, tt, tt, tt, tt, tt, tt, tt, ff, ff, ff, ff, ff, ff, ff, ff, ff, ff, ff, ff, ff] 3 true 34 hb148 (fun _ hq => fa 71 39 5 5 1 b50 (o51 + (x113 : Int).toNat * 7) ((o51 + (x113 : Int).toNat * 7) + 5)) ?_
        refine Dgl 10 41 3 _ [tt, tt, tt, tt, tt, tt, tt, tt, tt, tt, tt, ff, ff, ff, ff, ff, ff, ff, ff, ff, ff, ff, ff] 3 true 34 hb148 (fun _ hq => lx 3 40 5 7 false 1 (vi x150.To) (hq.1.1 _ _ ((le71.trans le83) _ _ hF56)) hc155) ?_
        refine Dgl 11 42 4 (.bool (decide (x46.From ≤ x150.To))) [tt, tt, tt, tt, tt, tt, tt, tt, tt, tt, tt, tt, ff, ff, ff, ff, ff, ff, ff, ff, ff, ff, ff] 3 true 34 hb148 (fun _ hq => run_leq (t := 3) (t' := 3) (x := (.tmp 36)) (y := (.tmp 41)) (k := .i64) (a := x46.From) (b := x150.To) rfl rfl) ?_
        refine Dtl 12 43 4 _ [tt, tt, tt, tt, tt, tt, tt, tt, tt, tt, tt, tt, tt, ff, ff, ff, ff, ff, ff, ff, ff, ff, ff] (fun _ hq => p1 34 (.tmp 42) (.const (.bool false)) (.bool (decide (x46.From ≤ x150.To))) hb148) ?_
        refine Dtl 13 44 4 _ [tt, tt, tt, tt, tt, tt, tt, tt, tt, tt, tt, tt, tt, tt, ff, ff, ff, ff, ff, ff, ff, ff, ff] (fun _ hq => mv 43 (.bool (decide (x46.From ≤ x150.To)))) ?_
        refine DWP.split (decide (x46.From ≤ x150.To)) (fun hb156 => ?_) (fun hb156 => ?_)
        ·have h157 := cond_t h153 hb156
         refine Dgl 14 45 61 _ [tt, tt, tt, tt, tt, tt, tt, tt, tt, tt, tt, tt, tt, tt, tt, ff, ff, ff, ff, ff, ff, ff, ff] 13 true 44 hb156 (fun _ hq => mv 0 (.slice (some ⟨b50, o51, none⟩) x0.length n0_0) e85) ?_
         refine Dgl 15 46 3 _ [tt, tt, tt, tt, tt, tt, tt, tt, tt, tt, tt, tt, tt, tt, tt, tt, ff, ff, ff, ff, ff, ff, ff] 13 true 44 hb156 (fun _ hq => mv 9 (vi x113)) ?_
         obtain ⟨x158, hx159, h161⟩ := bind_some h157
         obtain ⟨hi160, hx159'⟩ := idx_spec hx159
         have hc163 := hE57 _ _ hx159'
         refine Dgl 16 47 0 (.pointer (some ⟨b50, (o51 + (x113 : Int).toNat * 7), none⟩)) [tt, tt, tt, tt, tt, tt, tt, tt, tt, tt, tt, tt, tt, tt, tt, tt, tt, ff, ff, ff, ff, ff, ff] 13 true 44 hb156 (fun _ hq => ix 61 45 46 b50 o51 71 7 64 hi160) ?_
         refine Dgl 17 48 0 (.pointer (some ⟨b50, ((o51 + (x113 : Int).toNat * 7) + 4), none⟩)) [tt, tt, tt, tt, tt, tt, tt, tt, tt, tt, tt, tt, tt, tt, tt, tt, tt, tt, ff, ff, ff, ff, ff] 13 true 44 hb156 (fun _ hq => fa 71 47 4 4 1 b50 (o51 + (x113 : Int).toNat * 7) ((o51 + (x113 : Int).toNat * 7) + 4)) ?_
         refine Dgl 18 49 3 _ [tt, tt, tt, tt, tt, tt, tt, tt, tt, tt, tt, tt, tt, tt, tt, tt, tt, tt, tt, ff, ff, ff, ff] 13 true 44 hb156 (fun _ hq => lx 3 48 4 7 false 1 (vi x158.From) (hq.1.1 _ _ ((le71.trans le83) _ _ hF56)) hc163) ?_
         refine Dgl 19 50 0 (.pointer (some ⟨b60, 5, none⟩)) [tt, tt, tt, tt, tt, tt, tt, tt, tt, tt, tt, tt, tt, tt, tt, tt, tt, tt, tt, tt, ff, ff, ff] 13 true 44 hb156 (fun _ hq => fa 71 7 5 5 1 b60 0 5 e88) ?_
         refine Dgl 20 51 3 _ [tt, tt, tt, tt, tt, tt, tt, tt, tt, tt, tt, tt, tt, tt, tt, tt, tt, tt, tt, tt, tt, ff, ff] 13 true 44 hb156 (fun _ hq => ld 3 50 b60 5 false 1 (vi x46.To) (hq.1.2 0 _ _ rfl)) ?_
         refine Dgl 21 52 4 (.bool (decide (x158.From ≤ x46.To))) [tt, tt, tt, tt, tt, tt, tt, tt, tt, tt, tt, tt, tt, tt, tt, tt, tt, tt, tt, tt, tt, tt, ff] 13 true 44 hb156 (fun _ hq => run_leq (t := 3) (t' := 3) (x := (.tmp 49)) (y := (.tmp 51)) (k := .i64) (a := x158.From) (b := x46.To) rfl rfl) ?_
         refine Dtl 22 53 4 _ [tt, tt, tt, tt, tt, tt, tt, tt, tt, tt, tt, tt, tt, tt, tt, tt, tt, tt, tt, tt, tt, tt, tt] (fun _ hq => p1 44 (.tmp 52) (.const (.bool false)) (.bool (decide (x158.From ≤ x46.To))) hb156) ?_
         obtain rfl := some_inj h161
         exact DWP.done (by kernel_rfl) ⟨F6, hw128, (Mem.le.refl _), e84, e85, e86, e87, e88, rfl, e89, e90, e91, e92, e93, e94, rfl⟩
        ·have h164 := cond_f h153 hb156
         refine Dkl [(14, 45), (15, 46), (16, 47), (17, 48), (18, 49), (19, 50)] 13 true 44 hb156 [tt, tt, tt, tt, tt, tt, tt, tt, tt, tt, tt, tt, tt, tt, tt, tt, tt, tt, tt, tt, ff, ff, ff] ?_
         refine Dkl [(20, 51), (21, 52)] 13 true 44 hb156 [tt, tt, tt, tt, tt, tt, tt, tt, tt, tt, tt, tt, tt, tt, tt, tt, tt, tt, tt, tt, tt, tt, ff] ?_
         refine Dtl 22 53 4 _ [tt, tt, tt, tt, tt, tt, tt, tt, tt, tt, tt, tt, tt, tt, tt, tt, tt, tt, tt, tt, tt, tt, tt] (fun _ hq => p0 44 (.tmp 52) (.const (.bool false)) (.bool false) hb156) ?_
         obtain rfl := some_inj h164
         exact DWP.done (by kernel_rfl) ⟨F6, hw128, (Mem.le.refl _), e84, e85, e86, e87, e88, rfl, e89, e90, e91, e92, e93, e94, rfl⟩
       ·have h165 := cond_f hj146 hb148
        refine Dkl [(4, 35), (5, 36), (6, 37), (7, 38), (8, 39), (9, 40)] 3 true 34 hb148 [tt, tt, tt, tt, tt, tt, tt, tt, tt, tt, ff, ff, ff, ff, ff, ff, ff, ff, ff, ff, ff, ff, ff] ?_
        refine Dkl [(10, 41), (11, 42)] 3 true 34 hb148 [tt, tt, tt, tt, tt, tt, tt, tt, tt, tt, tt, tt, ff, ff, ff, ff, ff, ff, ff, ff, ff, ff, ff] ?_
        refine Dtl 12 43 4 _ [tt, tt, tt, tt, tt, tt, tt, tt, tt, tt, tt, tt, tt, ff, ff, ff, ff, ff, ff, ff, ff, ff, ff] (fun _ hq => p0 34 (.tmp 42) (.const (.bool false)) (.bool false) hb148) ?_
        refine Dtl 13 44 4 _ [tt, tt, tt, tt, tt, tt, tt, tt, tt, tt, tt, tt, tt, tt, ff, ff, ff, ff, ff, ff, ff, ff, ff] (fun _ hq => mv 43 (.bool false)) ?_
        refine Dkl [(14, 45), (15, 46), (16, 47), (17, 48), (18, 49), (19, 50)] 13 true 44 rfl [tt, tt, tt, tt, tt, tt, tt, tt, tt, tt, tt, tt, tt, tt, tt, tt, tt, tt, tt, tt, ff, ff, ff] ?_
        refine Dkl [(20, 51), (21, 52)] 13 true 44 rfl [tt, tt, tt, tt, tt, tt, tt, tt, tt, tt, tt, tt, tt, tt, tt, tt, tt, tt, tt, tt, tt, tt, ff] ?_
        refine Dtl 22 53 4 _ [tt, tt, tt, tt, tt, tt, tt, tt, tt, tt, tt, tt, tt, tt, tt, tt, tt, tt, tt, tt, tt, tt, tt] (fun _ hq => p0 44 (.tmp 52) (.const (.bool false)) (.bool false) rfl) ?_
        obtain rfl := some_inj h165
        exact DWP.done (by kernel_rfl) ⟨F6, hw128, (Mem.le.refl _), e84, e85, e86, e87, e88, rfl, e89, e90, e91, e92, e93, e94, rfl⟩
      ·rintro f w129 ⟨F8, hs130, le131, e133, e134, e135, e136, e137, e138, e139, e140, e141, e142, e143, e144, e145⟩
       refine thenQ_nrm ?_
       refine CWP.cond (t := j132) (by kernel_rfl) e145 (fun hb166 => ?_) (fun hb166 => ?_)
       ·have h167 := cond_t h147 hb166
        refine Sq (Rg [0, 1, 2, 3, 4] ?_)
        refine V 54 3 (mv 6 (vi s23) e136) ?_
        refine V 55 3 (mv 9 (vi x113) e138) ?_
        refine V 2 3 (ma 54 (vi s23)) ?_
        refine V 3 3 (ma 55 (vi x113)) ?_
        refine V 4 23 (mc (vi 0) (vi 0)) ?_
        refine Nt ?_
        refine CWP.ret (by kernel_rfl) ?_
        refine blockQ_ret ?_
        refine thenQ_ret ?_
        refine thenQ_ret ?_
        refine blockQ_ret ?_
        have hret := iter_ret h167 hnx110
        subst hret
        refine .inr ?_
        refine blockQ_ret ?_
        refine thenQ_ret ?_
        refine thenQ_ret ?_
        refine blockQ_ret ?_
        have hret := iter_ret h79 hnx43
        subst hret
        refine .inr ?_
        refine thenQ_ret ?_
        have hfin := some_inj h22
        subst hfin
        exact ⟨e133, (.tuple #[(vi s23), (vi x113), (vi 0)]), res_of (l := [.tmp 2, .tmp 3, .tmp 4]) (by kernel_rfl) (vs := [(vi s23), (vi x113), (vi 0)]) ⟨rfl, ⟨rfl, ⟨rfl, trivial⟩⟩⟩, (.tuple #[(vi s23), (vi x113), (vi 0)]), F8, rfl, hs130.clear, rfl⟩
       ·have h168 := cond_f h147 hb166
        refine Sc ?_
        refine blockQ_nrm ?_
        refine thenQ_nrm ?_
        refine Rg [0, 1] ?_
        refine V 56 3 (run_add (t := 3) (t' := 3) (x := (.tmp 27)) (y := (.const (vi 1))) (k := .i64) (a := s80) (b := 1) e144 rfl) ?_
        refine V 27 3 (mv 56 (vi (W64 (s80 + 1)))) ?_
        refine RWP.nil ?_
        have hn169 := iter_next h168 hnx110
        exact ⟨m107, Nat.lt_succ_self _, (W64 (s80 + 1)), F8, hn169, hs130, (le83.trans le131), e133, e134, e135, e136, e137, e139, e140, e141, e142, e143, rfl⟩
     ·have h170 := cond_f hb109 hb111
      refine CWP.exit (by kernel_rfl) ?_
      refine thenQ_ex ?_
      refine thenQ_ex ?_
      refine blockQ_hit rfl ?_
      have hs171 : HS w0 F0 w81 F6 [] := hs82.drop 0
      have ho172 := iter_done h170 hnx110
      exact .inl ⟨rfl, s80, F6, ho172, hs171, le83, e84, e85, e86, e89, e90, e91⟩
    ·rintro f w96 ⟨s95, F7, rfl, hs97, le98, e99, e100, e101, e102, e103, e104⟩
     have h173 := k_done h79
     refine blockQ_nrm ?_
     refine thenQ_nrm ?_
     refine Rg [0, 1] ?_
     refine V 57 3 (run_add (t := 3) (t' := 3) (x := (.tmp 17)) (y := (.const (vi 1))) (k := .i64) (a := s23) (b := 1) e104 rfl) ?_
     refine V 17 3 (mv 57 (vi (W64 (s23 + 1)))) ?_
     refine RWP.nil ?_
     have hn174 := iter_next h173 hnx43
     exact ⟨m40, Nat.lt_succ_self _, (W64 (s23 + 1)), F7, hn174, hs97, ((le26.trans le71).trans le98), e99, e100, e101, e102, e103, rfl⟩
   ·have h175 := cond_f hb42 hb44
    refine CWP.exit (by kernel_rfl) ?_
    refine thenQ_ex ?_
    refine thenQ_ex ?_
    refine blockQ_hit rfl ?_
    have ho176 := iter_done h175 hnx43
    exact .inl ⟨rfl, s23, F3, ho176, hs25, le26, e27⟩
  ·rintro f w34 ⟨s33, F4, rfl, hs35, le36, e37⟩
   have h177 := k_done h22
   refine thenQ_nrm ?_
   refine Sq (Rg [0, 1, 2] ?_)
   refine V 2 3 (mc (vi 0) (vi 0)) ?_
   refine V 3 3 (mc (vi 0) (vi 0)) ?_
   refine V 4 23 (mc (vi 3) (vi 3)) ?_
   refine Nt ?_
   refine CWP.ret (by kernel_rfl) ?_
   have hfin := some_inj h177
   subst hfin
   exact ⟨e37, (.tuple #[(vi 0), (vi 0), (vi 3)]), res_of (l := [.tmp 2, .tmp 3, .tmp 4]) (by kernel_rfl) (vs := [(vi 0), (vi 0), (vi 3)]) ⟨rfl, ⟨rfl, ⟨rfl, trivial⟩⟩⟩, (.tuple #[(vi 0), (vi 0), (vi 3)]), F4, rfl, hs35.clear, rfl⟩
end Go.Proofs.YtlddakefmfcblaaGreatDoor
namespace Go.Proofs.YtlddakefmfcblaaGreatDoor
open Go.Proofs
end Go.Proofs.YtlddakefmfcblaaGreatDoor
namespace Go.Proofs.YtlddakefmfcblaaGreatDoor
open Go.Proofs
end Go.Proofs.YtlddakefmfcblaaGreatDoor
namespace Go.Proofs.YtlddakefmfcblaaGreatDoor
open Go.Proofs
end Go.Proofs.YtlddakefmfcblaaGreatDoor
namespace Go.Proofs.YtlddakefmfcblaaGreatDoor
open Go.Proofs
def air_ValidTable (N : Nat) (x0 : (List Prefix)) : Option Bool :=
 ((air_Overlap N x0).bind fun r1 => some (r1.2.2 == 3))
theorem co_air_ValidTable : CallOk Tryz.prog 56 := fun _ _ => by kernel_rfl
set_option maxHeartbeats 4000000 in
set_option maxRecDepth 100000 in
theorem c_air_ValidTable (N : Nat) (w0 : World) (F0 : Mem) (hF : ∀ b o, F0 b = some o → w0.heap[b]? = some o) (x0 : (List Prefix)) (a0_0 : Option Addr) (n0_0 : Nat) (hb0_0 : LC x0.length n0_0) (hs0_0 : SlA tPrefix F0 a0_0 x0) (r : Bool) (h : air_ValidTable N x0 = some r) :
  Calls Tryz.prog 56 ([(.slice a0_0 x0.length n0_0)] : List Value).toArray w0 (FRet w0 F0 fun F' v => v = (.bool r)) := by
 have hs0 := HS.start hF
 refine calls_of (n := 14) (c := bodyOf Tryz.f56) Tryz.func56 (by kernel_rfl) (by kernel_rfl) (by kernel_rfl) ?_
 refine Sq (Rg [0] ?_)
 refine V 2 4 (mc (.bool false) (.bool false)) ?_
 refine Nss (Rg [0, 1, 2, 3, 4, 5, 6, 7, 8] ?_)
 refine V 7 61 (mv 0 (.slice a0_0 x0.length n0_0)) ?_
 obtain ⟨r1, hr2, h3⟩ := bind_some h
 refine Cl 8 35 50 #[(.tmp 7)] #[61] co_air_Overlap hs0 (c_air_Overlap N w0 F0 hs0.pers (x0) a0_0 n0_0 hb0_0 hs0_0 _ hr2) ?_
 intro v4 F1 w5 hs6 le7 hp8
 obtain rfl := hp8
 refine V 6 35 (mv 8 (.tuple #[(vi r1.1), (vi r1.2.1), (vi r1.2.2)])) ?_
 refine V 9 3 (ex 6 0 (vi r1.1) (vs := #[(vi r1.1), (vi r1.2.1), (vi r1.2.2)])) ?_
 refine V 10 3 (ex 6 1 (vi r1.2.1) (vs := #[(vi r1.1), (vi r1.2.1), (vi r1.2.2)])) ?_
 refine V 11 23 (ex 6 2 (vi r1.2.2) (vs := #[(vi r1.1), (vi r1.2.1), (vi r1.2.2)])) ?_
 refine V 3 3 (ma 9 (vi r1.1)) ?_
 refine V 4 3 (ma 10 (vi r1.2.1)) ?_
 refine V 5 23 (ma 11 (vi r1.2.2)) ?_
 refine Nss (Rg [0, 1, 2] ?_)
 refine V 12 23 (mv 5 (vi r1.2.2)) ?_
 refine V 13 4 (run_eql (t := 23) (t' := 23) (x := (.tmp 12)) (y := (.const (vi 3))) (k := .i64) (a := r1.2.2) (b := 3) rfl rfl) ?_
 refine V 2 4 (ma 13 (.bool (r1.2.2 == 3))) ?_
 refine Nt ?_
 refine CWP.ret (by kernel_rfl) ?_
 have hfin := some_inj h3
 subst hfin
 exact ⟨rfl, (.bool (r1.2.2 == 3)), res_of (l := [.tmp 2]) (by kernel_rfl) (vs := [(.bool (r1.2.2 == 3))]) ⟨rfl, trivial⟩, (.bool (r1.2.2 == 3)), F1, rfl, hs6.clear, rfl⟩
end Go.Proofs.YtlddakefmfcblaaGreatDoor
namespace Go.Proofs.YtlddakefmfcblaaGreatDoor
open Go.Proofs
def air_wrong (N : Nat) (x0 : (List Prefix)) (x1 : (List UInt8)) (x2 : Int) : Option Int :=
 ((air_ValidTable N x0).bind fun r1 => (bif (!r1) then some 12 else ((air_ValidCall N x1).bind fun r12 => (bif (!r12) then some 10 else ((air_within N x2 0 99999).bind fun r23 => (bif (!r23) then some 1 else some 0))))))
theorem co_air_wrong : CallOk Tryz.prog 96 := fun _ _ => by kernel_rfl
set_option maxHeartbeats 4000000 in
set_option maxRecDepth 100000 in
theorem c_air_wrong (N : Nat) (w0 : World) (F0 : Mem) (hF : ∀ b o, F0 b = some o → w0.heap[b]? = some o) (hG : Glob F0) (x0 : (List Prefix)) (a0_0 : Option Addr) (n0_0 : Nat) (hb0_0 : LC x0.length n0_0) (hs0_0 : SlA tPrefix F0 a0_0 x0) (x1 : (List UInt8)) (x2 : Int) (r : Int) (h : air_wrong N x0 x1 x2 = some r) :
  Calls Tryz.prog 96 ([(.slice a0_0 x0.length n0_0), (.string ⟨(x1).toArray⟩), (vi x2)] : List Value).toArray w0 (FRet w0 F0 fun F' v => v = (vi r)) := by
 have hs0 := HS.start hF
 refine calls_of (n := 19) (c := bodyOf Tryz.f96) Tryz.func96 (by kernel_rfl) (by kernel_rfl) (by kernel_rfl) ?_
 refine Sq (Rg [0] ?_)
 refine V 6 23 (mc (vi 0) (vi 0)) ?_
 refine Nss ?_
 refine Bk ?_
 refine Sq (Rg [0, 1, 2, 3] ?_)
 refine V 8 61 (mv 0 (.slice a0_0 x0.length n0_0)) ?_
 obtain ⟨r1, hr2, h3⟩ := bind_some h
 refine Cl 9 4 56 #[(.tmp 8)] #[61] co_air_ValidTable hs0 (c_air_ValidTable N w0 F0 hs0.pers (x0) a0_0 n0_0 hb0_0 hs0_0 _ hr2) ?_
 intro v4 F1 w5 hs6 le7 hp8
 obtain rfl := hp8
 refine V 10 4 (run_not (t := 4) (x := (.tmp 9)) (a := r1) rfl) ?_
 refine V 7 4 (ma 10 (.bool (!r1))) ?_
 refine Nt ?_
 refine CWP.cond (t := (!r1)) (by kernel_rfl) rfl (fun hb9 => ?_) (fun hb9 => ?_)
 ·have h10 := cond_t h3 hb9
  refine Sq (Rg [0] ?_)
  refine V 6 23 (mc (vi 12) (vi 12)) ?_
  refine Nt ?_
  refine CWP.ret (by kernel_rfl) ?_
  refine blockQ_ret ?_
  refine thenQ_ret ?_
  have hfin := some_inj h10
  subst hfin
  exact ⟨rfl, (vi 12), res_of (l := [.tmp 6]) (by kernel_rfl) (vs := [(vi 12)]) ⟨rfl, trivial⟩, (vi 12), F1, rfl, hs6.clear, rfl⟩
 ·have h11 := cond_f h3 hb9
  refine Sq (Rg [0, 1, 2, 3] ?_)
  refine V 12 9 (mv 1 (.string ⟨(x1).toArray⟩)) ?_
  obtain ⟨r12, hr13, h14⟩ := bind_some h11
  refine Cl 13 4 37 #[(.tmp 12)] #[9] co_air_ValidCall hs6 (c_air_ValidCall N w5 F1 hs6.pers (hG.mono le7) (x1) _ hr13) ?_
  intro v15 F2 w16 hs17 le18 hp19
  obtain rfl := hp19
  refine V 14 4 (run_not (t := 4) (x := (.tmp 13)) (a := r12) rfl) ?_
  refine V 11 4 (ma 14 (.bool (!r12))) ?_
  refine Nt ?_
  refine CWP.cond (t := (!r12)) (by kernel_rfl) rfl (fun hb20 => ?_) (fun hb20 => ?_)
  ·have h21 := cond_t h14 hb20
   refine Sq (Rg [0] ?_)
   refine V 6 23 (mc (vi 10) (vi 10)) ?_
   refine Nt ?_
   refine CWP.ret (by kernel_rfl) ?_
   refine blockQ_ret ?_
   refine thenQ_ret ?_
   have hfin := some_inj h21
   subst hfin
   exact ⟨rfl, (vi 10), res_of (l := [.tmp 6]) (by kernel_rfl) (vs := [(vi 10)]) ⟨rfl, trivial⟩, (vi 10), F2, rfl, hs17.clear, rfl⟩
  ·have h22 := cond_f h14 hb20
   refine Sq (Rg [0, 1, 2, 3] ?_)
   refine V 16 3 (mv 2 (vi x2)) ?_
   obtain ⟨r23, hr24, h25⟩ := bind_some h22
   refine Cl 17 4 73 #[(.tmp 16), (.const (vi 0)), (.const (vi 99999))] #[3, 3, 3] co_air_within hs17 (c_air_within N w16 F2 hs17.pers (x2) (0) (99999) _ hr24) ?_
   intro v26 F3 w27 hs28 le29 hp30
   obtain rfl := hp30
   refine V 18 4 (run_not (t := 4) (x := (.tmp 17)) (a := r23) rfl) ?_
   refine V 15 4 (ma 18 (.bool (!r23))) ?_
   refine Nt ?_
   refine CWP.cond (t := (!r23)) (by kernel_rfl) rfl (fun hb31 => ?_) (fun hb31 => ?_)
   ·have h32 := cond_t h25 hb31
    refine Sq (Rg [0] ?_)
    refine V 6 23 (mc (vi 1) (vi 1)) ?_
    refine Nt ?_
    refine CWP.ret (by kernel_rfl) ?_
    refine blockQ_ret ?_
    refine thenQ_ret ?_
    have hfin := some_inj h32
    subst hfin
    exact ⟨rfl, (vi 1), res_of (l := [.tmp 6]) (by kernel_rfl) (vs := [(vi 1)]) ⟨rfl, trivial⟩, (vi 1), F3, rfl, hs28.clear, rfl⟩
   ·have h33 := cond_f h25 hb31
    refine Sc ?_
    refine blockQ_nrm ?_
    refine thenQ_nrm ?_
    refine Sq (Rg [0] ?_)
    refine V 6 23 (mc (vi 0) (vi 0)) ?_
    refine Nt ?_
    refine CWP.ret (by kernel_rfl) ?_
    have hfin := some_inj h33
    subst hfin
    exact ⟨rfl, (vi 0), res_of (l := [.tmp 6]) (by kernel_rfl) (vs := [(vi 0)]) ⟨rfl, trivial⟩, (vi 0), F3, rfl, hs28.clear, rfl⟩
end Go.Proofs.YtlddakefmfcblaaGreatDoor
namespace Go.Proofs.YtlddakefmfcblaaGreatDoor
open Go.Proofs
def air_table_row_1_L0 (N : Nat) (x0 : air_key) (z0 : (List (air_key × (List Int)))) (z1 : Int) (z2 : (List Prefix)) : Int → Option (Flow Int Int) := fun s12 =>
 (bif (decide (s12 < ((mgetD z0 x0 ([] : List Int)).length : Int))) then ((idx (mgetD z0 x0 ([] : List Int)) s12).bind fun x35 => (((idx z2 x35).bind fun x65 => ((idx z2 x35).bind fun x79 => ((air_within N z1 x65.From x79.To).bind fun r85 => some r85))).bind fun j54 => (bif j54 then some (.ret x35) else some (.next (W64 (s12 + 1)))))) else some (.done s12))
def air_table_row_1 (N : Nat) (x0 : air_key) (z0 : (List (air_key × (List Int)))) (z1 : Int) (z2 : (List Prefix)) : Option Int :=
 ((iter (air_table_row_1_L0 N x0 z0 z1 z2) N 0).bind fun o => o.k (fun r => some r) (fun s22 => some (-1)))
theorem co_air_table_row_1 : CallOk Tryz.prog 126 := fun _ _ => by kernel_rfl
set_option maxHeartbeats 4000000 in
set_option maxRecDepth 100000 in
theorem c_air_table_row_1 (N : Nat) (w0 : World) (F0 : Mem) (hF : ∀ b o, F0 b = some o → w0.heap[b]? = some o) (x0 : air_key) (bz0 : Nat) (z0 : (List (air_key × (List Int)))) (oz0_0 : Option Nat) (hmz0_0 : MpA tair_key (tSl tInt) F0 oz0_0 z0) (hz0 : F0 bz0 = some (oc #[(.map oz0_0)] 116)) (bz1 : Nat) (z1 : Int) (hz1 : F0 bz1 = some (oc #[(vi z1)] 3)) (bz2 : Nat) (z2 : (List Prefix)) (az2_0 : Option Addr) (nz2_0 : Nat) (hbz2_0 : LC z2.length nz2_0) (hsz2_0 : SlA tPrefix F0 az2_0 z2) (hz2 : F0 bz2 = some (oc #[(.slice az2_0 z2.length nz2_0)] 61)) (r : Int) (h : air_table_row_1 N x0 z0 z1 z2 = some r) :
  Calls Tryz.prog 126 ([(.agg #[(.string ⟨(x0.text_).toArray⟩), (.bool x0.whole_)]), (.pointer (some ⟨bz0, 0, none⟩)), (.pointer (some ⟨bz1, 0, none⟩)), (.pointer (some ⟨bz2, 0, none⟩))] : List Value).toArray w0 (FRet w0 F0 fun F' v => v = (vi r)) := by
 have hs0 := HS.start hF
 refine calls_of (n := 30) (c := bodyOf Tryz.f126) Tryz.func126 (by kernel_rfl) (by kernel_rfl) (by kernel_rfl) ?_
 refine Sq (Rg [0, 1] ?_)
 refine Bx 4 0 0 119 #[(.string ⟨(x0.text_).toArray⟩), (.bool x0.whole_)] hs0 (fun b1 w2 (hs3 : HS w0 F0 w2 F0 [(sb b1 #[(.string ⟨(x0.text_).toArray⟩), (.bool x0.whole_)] 119)]) => ?_)
 refine V 5 3 (mc (vi 0) (vi 0)) ?_
 refine Nss ?_
 refine Sq (Rg [0, 1, 2, 3, 4] ?_)
 refine V 8 116 (ld 116 1 bz0 0 false 1 (.map oz0_0) (hs3.pers _ _ hz0)) ?_
 refine V 9 119 (ld 119 4 b1 0 true 2 (.agg #[(.string ⟨(x0.text_).toArray⟩), (.bool x0.whole_)]) (hs3.ownAt (k := 0) rfl)) ?_
 refine RWP.look1 kl119 (dst := (some 10))  (g := none) (by kernel_rfl) rfl (ty := 77) (mt := 116) (k := 119) (vt := 77) (m := (.tmp 8)) (x := (.tmp 9)) (kv := (.agg #[(.string ⟨(x0.text_).toArray⟩), (.bool x0.whole_)])) (kx := x0) (z := (.slice none ([] : List Int).length 0)) (zx := ([] : List Int)) (K := tair_key) (T := (tSl tInt)) rfl rfl ⟨_, rfl, rfl⟩ (by kernel_rfl) (by kernel_rfl) ⟨_, ⟨none, 0, rfl, LC.nil, (.inl rfl)⟩, rfl⟩ (MpA.mpw hs3.pers hmz0_0) (fun v4 hv5 => ?_)
 obtain ⟨ay6_0, ny6_0, rfl, hby6_0, hsy6_0⟩ : ∃ (ay6_0 : Option Addr) (ny6_0 : Nat), v4 = (.slice ay6_0 (mgetD z0 x0 ([] : List Int)).length ny6_0) ∧ LC (mgetD z0 x0 ([] : List Int)).length ny6_0 ∧ SlA tInt F0 ay6_0 (mgetD z0 x0 ([] : List Int)) := by obtain ⟨_, ⟨ay6_0, ny6_0, rfl, hby6_0, hsy6_0⟩, rfl⟩ := hv5; exact ⟨ay6_0, ny6_0, rfl, hby6_0, hsy6_0⟩
 refine V 11 3 (ln 10 77 ay6_0 (mgetD z0 x0 ([] : List Int)).length ny6_0 3 1 8) ?_
 refine V 12 3 (run_move (x := (.const (vi 0))) (v := (vi 0)) rfl) ?_
 refine Nt ?_
 have hs8 : HS w0 F0 w2 F0 [] := hs3.drop 0
 obtain ⟨o9, ho10, h11⟩ := bind_some h
 refine CWP.cut (fun f w => ∃ (s22 : Int) (F2 : Mem), o9 = .done s22 ∧ HS w0 F0 w F2 [] ∧ Mem.le F0 F2 ∧ f.d = []) ?_ ?_
 ·refine Bk ?_
  refine CWP.loop (by kernel_rfl) (fun m f w => ∃ (s12 : Int) (F1 : Mem), iter (air_table_row_1_L0 N x0 z0 z1 z2) m s12 = some o9 ∧ HS w0 F0 w F1 [] ∧ Mem.le F0 F1 ∧ f.d = [] ∧ f 2 = (.pointer (some ⟨bz1, 0, none⟩)) ∧ f 3 = (.pointer (some ⟨bz2, 0, none⟩)) ∧ f 10 = (.slice ay6_0 (mgetD z0 x0 ([] : List Int)).length ny6_0) ∧ f 11 = (vi ((mgetD z0 x0 ([] : List Int)).length : Int)) ∧ f 12 = (vi s12)) N ⟨0, F0, ho10, hs8, (Mem.le.refl _), rfl, rfl, rfl, rfl, rfl, rfl⟩ ?_
  rintro m27 f w13 ⟨s12, F1, hit28, hs14, le15, e16, e17, e18, e19, e20, e21⟩
  obtain ⟨m29, fl30, rfl, hb31, hnx32⟩ := iter_step hit28
  refine Sq (Rg [0] ?_)
  refine V 13 0 (run_lss (t := 3) (t' := 3) (x := (.tmp 12)) (y := (.tmp 11)) (k := .i64) (a := s12) (b := ((mgetD z0 x0 ([] : List Int)).length : Int)) e21 e20) ?_
  refine Nss ?_
  refine CWP.cond (t := (decide (s12 < ((mgetD z0 x0 ([] : List Int)).length : Int)))) (by kernel_rfl) rfl (fun hb33 => ?_) (fun hb33 => ?_)
  ·have h34 := cond_t hb31 hb33
   refine Sc ?_
   refine thenQ_nrm ?_
   refine Sq ?_
   refine Bk ?_
   refine Sq (Rg [0, 1, 2] ?_)
   obtain ⟨x35, hx36, h38⟩ := bind_some h34
   obtain ⟨hi37, hx36'⟩ := idx_spec hx36
   obtain ⟨b39, o40, C41, E42, fz43, rfl, hF45, hE46⟩ := SlA.open (SlA.mono hsy6_0 le15) hx36'
   have hc48 := hE46 _ _ hx36'
   refine V 14 0 (run_index (t := 77) (x := (.tmp 10)) (y := (.tmp 12)) (b := b39) (o := o40) (E := 3) (s := 1) (by_ := 8) e19 e21 (by kernel_rfl) hi37) ?_
   refine V 15 3 (lx 3 14 0 1 false 1 (vi x35) (hs14.pers _ _ hF45) hc48) ?_
   refine V 7 3 (ma 15 (vi x35)) ?_
   refine Nss ?_
   obtain ⟨j54, hj63, h64⟩ := bind_some h38
   refine CWP.regionD (by kernel_rfl) (by kernel_rfl) (by kernel_rfl) (by kernel_rfl) (z := 12) (F := F1) (Lc := []) (Lz := []) (l := [false, false, false, false, false, false, false, false, false, false, false, false]) (fuel := 12) (by kernel_rfl) (by kernel_rfl) hs14 (by simp) (by simp) (fun f w => ∃ (F3 : Mem), HS w0 F0 w F3 [] ∧ Mem.le F1 F3 ∧ f.d = [] ∧ f 2 = (.pointer (some ⟨bz1, 0, none⟩)) ∧ f 3 = (.pointer (some ⟨bz2, 0, none⟩)) ∧ f 7 = (vi x35) ∧ f 10 = (.slice (some ⟨b39, o40, none⟩) (mgetD z0 x0 ([] : List Int)).length ny6_0) ∧ f 11 = (vi ((mgetD z0 x0 ([] : List Int)).length : Int)) ∧ f 12 = (vi s12) ∧ f 27 = (.bool j54)) (fun wd49 hw50 => ?_) ?_
   ·refine Dt 0 16 3 _ (fun _ hq => ld 3 2 bz1 0 false 1 (vi z1) (hq.1.1 _ _ (le15 _ _ hz1)) e17) ?_
    refine Dt 1 17 61 _ (fun _ hq => ld 61 3 bz2 0 false 1 (.slice az2_0 z2.length nz2_0) (hq.1.1 _ _ (le15 _ _ hz2)) e18) ?_
    refine Dt 2 18 3 _ (fun _ hq => mv 7 (vi x35)) ?_
    obtain ⟨x65, hx66, h68⟩ := bind_some hj63
    obtain ⟨hi67, hx66'⟩ := idx_spec hx66
    obtain ⟨b69, o70, C71, E72, fz73, rfl, hF75, hE76⟩ := SlA.open (SlA.mono hsz2_0 le15) hx66'
    have hc78 := hE76 _ _ hx66'
    refine Dt 3 19 0 (.pointer (some ⟨b69, (o70 + (x35 : Int).toNat * 7), none⟩)) (fun _ hq => ix 61 17 18 b69 o70 71 7 64 hi67) ?_
    refine Dt 4 20 0 (.pointer (some ⟨b69, ((o70 + (x35 : Int).toNat * 7) + 4), none⟩)) (fun _ hq => fa 71 19 4 4 1 b69 (o70 + (x35 : Int).toNat * 7) ((o70 + (x35 : Int).toNat * 7) + 4)) ?_
    refine Dt 5 21 3 _ (fun _ hq => lx 3 20 4 7 false 1 (vi x65.From) (hq.1.1 _ _ hF75) hc78) ?_
    refine Dt 6 22 61 _ (fun _ hq => ld 61 3 bz2 0 false 1 (.slice (some ⟨b69, o70, none⟩) z2.length nz2_0) (hq.1.1 _ _ (le15 _ _ hz2)) e18) ?_
    refine Dt 7 23 3 _ (fun _ hq => mv 7 (vi x35)) ?_
    obtain ⟨x79, hx80, h82⟩ := bind_some h68
    obtain ⟨hi81, hx80'⟩ := idx_spec hx80
    have hc84 := hE76 _ _ hx80'
    refine Dt 8 24 0 (.pointer (some ⟨b69, (o70 + (x35 : Int).toNat * 7), none⟩)) (fun _ hq => ix 61 22 23 b69 o70 71 7 64 hi81) ?_
    refine Dt 9 25 0 (.pointer (some ⟨b69, ((o70 + (x35 : Int).toNat * 7) + 5), none⟩)) (fun _ hq => fa 71 24 5 5 1 b69 (o70 + (x35 : Int).toNat * 7) ((o70 + (x35 : Int).toNat * 7) + 5)) ?_
    refine Dt 10 26 3 _ (fun _ hq => lx 3 25 5 7 false 1 (vi x79.To) (hq.1.1 _ _ hF75) hc84) ?_
    refine DWP.one (i := 11) (by kernel_rfl) ?_
    obtain ⟨r85, hr86, h87⟩ := bind_some h82
    refine DStep.call (l' := [true, true, true, true, true, true, true, true, true, true, true, true]) (zd := true) (by kernel_rfl) (by kernel_rfl) (by kernel_rfl) (dst := (some 27)) (ty := 4) (g := none) (by kernel_rfl) rfl (f0 := (.func 73)) (aos := #[(.tmp 16), (.tmp 21), (.tmp 26)]) (ats := #[3, 3, 3]) (fid := 73) (first := #[]) (cap := #[]) (args := [(vi z1), (vi x65.From), (vi x79.To)]) rfl co_air_within (rfl) hw50 (c_air_within N wd49 F1 hw50.pers (z1) (x65.From) (x79.To) _ hr86) ?_
    intro v88 F4 w89 hs90 le91 hp92
    obtain rfl := hp92
    obtain rfl := some_inj h87
    exact DWP.done (by kernel_rfl) ⟨F4, hs90, le91, e16, e17, e18, rfl, e19, e20, e21, rfl⟩
   ·rintro f w51 ⟨F3, hs52, le53, e55, e56, e57, e58, e59, e60, e61, e62⟩
    refine thenQ_nrm ?_
    refine CWP.cond (t := j54) (by kernel_rfl) e62 (fun hb93 => ?_) (fun hb93 => ?_)
    ·have h94 := cond_t h64 hb93
     refine Sq (Rg [0, 1] ?_)
     refine V 28 3 (mv 7 (vi x35) e58) ?_
     refine V 5 3 (ma 28 (vi x35)) ?_
     refine Nt ?_
     refine CWP.ret (by kernel_rfl) ?_
     refine blockQ_ret ?_
     refine thenQ_ret ?_
     refine thenQ_ret ?_
     refine blockQ_ret ?_
     have hret := iter_ret h94 hnx32
     subst hret
     refine .inr ?_
     refine thenQ_ret ?_
     have hfin := some_inj h11
     subst hfin
     exact ⟨e55, (vi x35), res_of (l := [.tmp 5]) (by kernel_rfl) (vs := [(vi x35)]) ⟨rfl, trivial⟩, (vi x35), F3, rfl, hs52.clear, rfl⟩
    ·have h95 := cond_f h64 hb93
     refine Sc ?_
     refine blockQ_nrm ?_
     refine thenQ_nrm ?_
     refine Rg [0, 1] ?_
     refine V 29 3 (run_add (t := 3) (t' := 3) (x := (.tmp 12)) (y := (.const (vi 1))) (k := .i64) (a := s12) (b := 1) e61 rfl) ?_
     refine V 12 3 (mv 29 (vi (W64 (s12 + 1)))) ?_
     refine RWP.nil ?_
     have hn96 := iter_next h95 hnx32
     exact ⟨m29, Nat.lt_succ_self _, (W64 (s12 + 1)), F3, hn96, hs52, (le15.trans le53), e55, e56, e57, e59, e60, rfl⟩
  ·have h97 := cond_f hb31 hb33
   refine CWP.exit (by kernel_rfl) ?_
   refine thenQ_ex ?_
   refine thenQ_ex ?_
   refine blockQ_hit rfl ?_
   have ho98 := iter_done h97 hnx32
   exact .inl ⟨rfl, s12, F1, ho98, hs14, le15, e16⟩
 ·rintro f w23 ⟨s22, F2, rfl, hs24, le25, e26⟩
  have h99 := k_done h11
  refine thenQ_nrm ?_
  refine Sq (Rg [0] ?_)
  refine V 5 3 (mc (vi (-1)) (vi (-1))) ?_
  refine Nt ?_
  refine CWP.ret (by kernel_rfl) ?_
  have hfin := some_inj h99
  subst hfin
  exact ⟨e26, (vi (-1)), res_of (l := [.tmp 5]) (by kernel_rfl) (vs := [(vi (-1))]) ⟨rfl, trivial⟩, (vi (-1)), F2, rfl, hs24.clear, rfl⟩
end Go.Proofs.YtlddakefmfcblaaGreatDoor
namespace Go.Proofs.YtlddakefmfcblaaGreatDoor
open Go.Proofs
def cmp_Or_string_L0 (N : Nat) (x0 : (List (List UInt8))) : Int → Option (Flow (List UInt8) Int) := fun s4 =>
 (bif (decide (s4 < (x0.length : Int))) then ((idx x0 s4).bind fun x27 => (bif (x27 != ([] : List UInt8)) then some (.ret x27) else some (.next (W64 (s4 + 1))))) else some (.done s4))
def cmp_Or_string (N : Nat) (x0 : (List (List UInt8))) : Option (List UInt8) :=
 ((iter (cmp_Or_string_L0 N x0) N 0).bind fun o => o.k (fun r => some r) (fun s13 => some ([] : List UInt8)))
theorem co_cmp_Or_string : CallOk Tryz.prog 85 := fun _ _ => by kernel_rfl
set_option maxHeartbeats 4000000 in
set_option maxRecDepth 100000 in
theorem c_cmp_Or_string (N : Nat) (w0 : World) (F0 : Mem) (hF : ∀ b o, F0 b = some o → w0.heap[b]? = some o) (x0 : (List (List UInt8))) (a0_0 : Option Addr) (n0_0 : Nat) (hb0_0 : LC x0.length n0_0) (hs0_0 : SlA tStr F0 a0_0 x0) (r : (List UInt8)) (h : cmp_Or_string N x0 = some r) :
  Calls Tryz.prog 85 ([(.slice a0_0 x0.length n0_0)] : List Value).toArray w0 (FRet w0 F0 fun F' v => v = (.string ⟨(r).toArray⟩)) := by
 have hs0 := HS.start hF
 refine calls_of (n := 18) (c := bodyOf Tryz.f85) Tryz.func85 (by kernel_rfl) (by kernel_rfl) (by kernel_rfl) ?_
 refine Sq (Rg [0] ?_)
 refine V 2 9 (mc (.string ⟨([] : List UInt8).toArray⟩) (.string ⟨(([] : List UInt8)).toArray⟩)) ?_
 refine Nss (Rg [0] ?_)
 refine V 3 9 (mc (.string ⟨([] : List UInt8).toArray⟩) (.string ⟨(([] : List UInt8)).toArray⟩)) ?_
 refine Nss ?_
 refine Sq (Rg [0, 1, 2] ?_)
 refine V 6 80 (mv 0 (.slice a0_0 x0.length n0_0)) ?_
 refine V 7 3 (ln 6 80 a0_0 x0.length n0_0 9 1 16) ?_
 refine V 8 3 (run_move (x := (.const (vi 0))) (v := (vi 0)) rfl) ?_
 refine Nt ?_
 obtain ⟨o1, ho2, h3⟩ := bind_some h
 refine CWP.cut (fun f w => ∃ (s13 : Int) (F2 : Mem), o1 = .done s13 ∧ HS w0 F0 w F2 [] ∧ Mem.le F0 F2 ∧ f.d = [] ∧ f 3 = (.string ⟨(([] : List UInt8)).toArray⟩)) ?_ ?_
 ·refine Bk ?_
  refine CWP.loop (by kernel_rfl) (fun m f w => ∃ (s4 : Int) (F1 : Mem), iter (cmp_Or_string_L0 N x0) m s4 = some o1 ∧ HS w0 F0 w F1 [] ∧ Mem.le F0 F1 ∧ f.d = [] ∧ f 3 = (.string ⟨(([] : List UInt8)).toArray⟩) ∧ f 6 = (.slice a0_0 x0.length n0_0) ∧ f 7 = (vi (x0.length : Int)) ∧ f 8 = (vi s4)) N ⟨0, F0, ho2, hs0, (Mem.le.refl _), rfl, rfl, rfl, rfl, rfl⟩ ?_
  rintro m19 f w5 ⟨s4, F1, hit20, hs6, le7, e8, e9, e10, e11, e12⟩
  obtain ⟨m21, fl22, rfl, hb23, hnx24⟩ := iter_step hit20
  refine Sq (Rg [0] ?_)
  refine V 9 0 (run_lss (t := 3) (t' := 3) (x := (.tmp 8)) (y := (.tmp 7)) (k := .i64) (a := s4) (b := (x0.length : Int)) e12 e11) ?_
  refine Nss ?_
  refine CWP.cond (t := (decide (s4 < (x0.length : Int)))) (by kernel_rfl) rfl (fun hb25 => ?_) (fun hb25 => ?_)
  ·have h26 := cond_t hb23 hb25
   refine Sc ?_
   refine thenQ_nrm ?_
   refine Sq ?_
   refine Bk ?_
   refine Sq (Rg [0, 1, 2] ?_)
   obtain ⟨x27, hx28, h30⟩ := bind_some h26
   obtain ⟨hi29, hx28'⟩ := idx_spec hx28
   obtain ⟨b31, o32, C33, E34, fz35, rfl, hF37, hE38⟩ := SlA.open (SlA.mono hs0_0 le7) hx28'
   have hc40 := hE38 _ _ hx28'
   refine V 10 0 (run_index (t := 80) (x := (.tmp 6)) (y := (.tmp 8)) (b := b31) (o := o32) (E := 9) (s := 1) (by_ := 16) e10 e12 (by kernel_rfl) hi29) ?_
   refine V 11 9 (lx 9 10 0 1 false 1 (.string ⟨(x27).toArray⟩) (hs6.pers _ _ hF37) hc40) ?_
   refine V 5 9 (ma 11 (.string ⟨(x27).toArray⟩)) ?_
   refine Nss (Rg [0, 1, 2] ?_)
   refine V 12 9 (mv 5 (.string ⟨(x27).toArray⟩)) ?_
   refine V 13 9 (mv 3 (.string ⟨(([] : List UInt8)).toArray⟩) e9) ?_
   refine V 14 4 (run_scmp (t := 9) (t' := 9) (x := (.tmp 12)) (y := (.tmp 13)) (op := .neq) (a := x27) (b := ([] : List UInt8)) (v := (x27 != ([] : List UInt8))) rfl rfl rfl) ?_
   refine Nt ?_
   refine CWP.cond (t := (x27 != ([] : List UInt8))) (by kernel_rfl) rfl (fun hb41 => ?_) (fun hb41 => ?_)
   ·have h42 := cond_t h30 hb41
    refine Sq (Rg [0, 1] ?_)
    refine V 15 9 (mv 5 (.string ⟨(x27).toArray⟩)) ?_
    refine V 2 9 (ma 15 (.string ⟨(x27).toArray⟩)) ?_
    refine Nt ?_
    refine CWP.ret (by kernel_rfl) ?_
    refine blockQ_ret ?_
    refine thenQ_ret ?_
    refine thenQ_ret ?_
    refine blockQ_ret ?_
    have hret := iter_ret h42 hnx24
    subst hret
    refine .inr ?_
    refine thenQ_ret ?_
    have hfin := some_inj h3
    subst hfin
    exact ⟨e8, (.string ⟨(x27).toArray⟩), res_of (l := [.tmp 2]) (by kernel_rfl) (vs := [(.string ⟨(x27).toArray⟩)]) ⟨rfl, trivial⟩, (.string ⟨(x27).toArray⟩), F1, rfl, hs6.clear, rfl⟩
   ·have h43 := cond_f h30 hb41
    refine Sc ?_
    refine blockQ_nrm ?_
    refine thenQ_nrm ?_
    refine Rg [0, 1] ?_
    refine V 16 3 (run_add (t := 3) (t' := 3) (x := (.tmp 8)) (y := (.const (vi 1))) (k := .i64) (a := s4) (b := 1) e12 rfl) ?_
    refine V 8 3 (mv 16 (vi (W64 (s4 + 1)))) ?_
    refine RWP.nil ?_
    have hn44 := iter_next h43 hnx24
    exact ⟨m21, Nat.lt_succ_self _, (W64 (s4 + 1)), F1, hn44, hs6, le7, e8, e9, e10, e11, rfl⟩
  ·have h45 := cond_f hb23 hb25
   refine CWP.exit (by kernel_rfl) ?_
   refine thenQ_ex ?_
   refine thenQ_ex ?_
   refine blockQ_hit rfl ?_
   have ho46 := iter_done h45 hnx24
   exact .inl ⟨rfl, s4, F1, ho46, hs6, le7, e8, e9⟩
 ·rintro f w14 ⟨s13, F2, rfl, hs15, le16, e17, e18⟩
  have h47 := k_done h3
  refine thenQ_nrm ?_
  refine Sq (Rg [0, 1] ?_)
  refine V 17 9 (mv 3 (.string ⟨(([] : List UInt8)).toArray⟩) e18) ?_
  refine V 2 9 (ma 17 (.string ⟨(([] : List UInt8)).toArray⟩)) ?_
  refine Nt ?_
  refine CWP.ret (by kernel_rfl) ?_
  have hfin := some_inj h47
  subst hfin
  exact ⟨e17, (.string ⟨(([] : List UInt8)).toArray⟩), res_of (l := [.tmp 2]) (by kernel_rfl) (vs := [(.string ⟨(([] : List UInt8)).toArray⟩)]) ⟨rfl, trivial⟩, (.string ⟨(([] : List UInt8)).toArray⟩), F2, rfl, hs15.clear, rfl⟩
end Go.Proofs.YtlddakefmfcblaaGreatDoor
namespace Go.Proofs.YtlddakefmfcblaaGreatDoor
open Go.Proofs
def air_table_row_L0 (N : Nat) (x0 : (List (air_key × (List Int)))) (x1 : (List Prefix)) (x2 : (List UInt8)) (x3 : Int) (r19 : Int) (r30 : (Parts × Bool)) (r43 : List UInt8) (r55 : (List UInt8)) : Int → Option (Flow Int Int) := fun s67 =>
 (bif (decide (s67 > 0)) then ((ssub r55 0 s67).bind fun r88 => ((air_table_row_1 N ({ text_ := r88, whole_ := false } : air_key) x0 x3 x1).bind fun r91 => (bif (decide (r91 ≥ 0)) then some (.ret r91) else some (.next (W64 (s67 - 1)))))) else some (.done s67))
def air_table_row (N : Nat) (x0 : (List (air_key × (List Int)))) (x1 : (List Prefix)) (x2 : (List UInt8)) (x3 : Int) : Option Int :=
 ((air_table_row_1 N ({ text_ := x2, whole_ := true } : air_key) x0 x3 x1).bind fun r19 => (bif (decide (r19 ≥ 0)) then some r19 else ((air_split N x2).bind fun r30 => ((sadd r30.1.Prefix r30.1.Suffix).bind fun r43 => ((cmp_Or_string N ([r30.1.Area, r43])).bind fun r55 => ((iter (air_table_row_L0 N x0 x1 x2 x3 r19 r30 r43 r55) N (r55.length : Int)).bind fun o => o.k (fun r => some r) (fun s75 => some (-1))))))))
theorem co_air_table_row : CallOk Tryz.prog 97 := fun _ _ => by kernel_rfl
set_option maxHeartbeats 4000000 in
set_option maxRecDepth 100000 in
theorem c_air_table_row (N : Nat) (w0 : World) (F0 : Mem) (hF : ∀ b o, F0 b = some o → w0.heap[b]? = some o) (hG : Glob F0) (x0 : (List (air_key × (List Int)))) (o0_0 : Option Nat) (hm0_0 : MpA tair_key (tSl tInt) F0 o0_0 x0) (x1 : (List Prefix)) (a1_0 : Option Addr) (n1_0 : Nat) (hb1_0 : LC x1.length n1_0) (hs1_0 : SlA tPrefix F0 a1_0 x1) (x2 : (List UInt8)) (x3 : Int) (r : Int) (h : air_table_row N x0 x1 x2 x3 = some r) :
  Calls Tryz.prog 97 ([(.map o0_0), (.slice a1_0 x1.length n1_0), (.string ⟨(x2).toArray⟩), (vi x3)] : List Value).toArray w0 (FRet w0 F0 fun F' v => v = (vi r)) := by
 have hs0 := HS.start hF
 refine calls_of (n := 53) (c := bodyOf Tryz.f97) Tryz.func97 (by kernel_rfl) (by kernel_rfl) (by kernel_rfl) ?_
 refine Sq (Rg [0, 1, 2, 3] ?_)
 refine Bx 4 0 0 116 #[(.map o0_0)] hs0 (fun b1 w2 (hs3 : HS w0 F0 w2 F0 [(sb b1 #[(.map o0_0)] 116)]) => ?_)
 refine Bx 5 0 1 61 #[(.slice a1_0 x1.length n1_0)] hs3 (fun b4 w5 (hs6 : HS w0 F0 w5 F0 [(sb b4 #[(.slice a1_0 x1.length n1_0)] 61), (sb b1 #[(.map o0_0)] 116)]) => ?_)
 refine Bx 7 0 3 3 #[(vi x3)] hs6 (fun b7 w8 (hs9 : HS w0 F0 w8 F0 [(sb b7 #[(vi x3)] 3), (sb b4 #[(.slice a1_0 x1.length n1_0)] 61), (sb b1 #[(.map o0_0)] 116)]) => ?_)
 refine V 8 3 (mc (vi 0) (vi 0)) ?_
 refine Nss (Rg [0, 1] ?_)
 refine V 16 152 (run_makeFunc (fn := .func 126) (first := #[]) (cap := #[(.tmp 4), (.tmp 7), (.tmp 5)]) (fl := []) (cl := [(.pointer (some ⟨b1, 0, none⟩)), (.pointer (some ⟨b7, 0, none⟩)), (.pointer (some ⟨b4, 0, none⟩))]) rfl (rfl)) ?_
 refine V 9 152 (ma 16 (.func (.func 126) #[] #[(.pointer (some ⟨b1, 0, none⟩)), (.pointer (some ⟨b7, 0, none⟩)), (.pointer (some ⟨b4, 0, none⟩))])) ?_
 refine Nss ?_
 refine Sq (Rg [0, 1, 2, 3, 4] ?_)
 refine V 17 152 (mv 9 (.func (.func 126) #[] #[(.pointer (some ⟨b1, 0, none⟩)), (.pointer (some ⟨b7, 0, none⟩)), (.pointer (some ⟨b4, 0, none⟩))])) ?_
 refine V 18 9 (mv 2 (.string ⟨(x2).toArray⟩)) ?_
 refine V 19 119 (run_build2 (t := 119) (parts := #[(0, (.tmp 18)), (1, (.const (.bool true)))]) (vs := [(0, (.string ⟨(x2).toArray⟩)), (1, (.bool true))]) (rfl) (cs := [(.string ⟨(x2).toArray⟩), (.bool true)]) (by kernel_rfl)) ?_
 obtain ⟨F1, hs10, le11, hF12⟩ : ∃ Fq, HS w0 F0 w8 Fq [(sb b7 #[(vi x3)] 3), (sb b4 #[(.slice a1_0 x1.length n1_0)] 61)] ∧ Mem.le F0 Fq ∧ Fq b1 = some (oc #[(.map o0_0)] 116) := HS.freezeC hs9 (k := 2) rfl
 obtain ⟨F2, hs13, le14, hF15⟩ : ∃ Fq, HS w0 F0 w8 Fq [(sb b4 #[(.slice a1_0 x1.length n1_0)] 61)] ∧ Mem.le F1 Fq ∧ Fq b7 = some (oc #[(vi x3)] 3) := HS.freezeC hs10 (k := 0) rfl
 obtain ⟨F3, hs16, le17, hF18⟩ : ∃ Fq, HS w0 F0 w8 Fq [] ∧ Mem.le F2 Fq ∧ Fq b4 = some (oc #[(.slice a1_0 x1.length n1_0)] 61) := HS.freezeC hs13 (k := 0) rfl
 obtain ⟨r19, hr20, h21⟩ := bind_some h
 refine RWP.call (dst := (some 20)) (ty := 3) (g := none) (by kernel_rfl) rfl (f0 := (.tmp 17)) (aos := #[(.tmp 19)]) (ats := #[119]) (fid := 126) (first := #[]) (cap := #[(.pointer (some ⟨b1, 0, none⟩)), (.pointer (some ⟨b7, 0, none⟩)), (.pointer (some ⟨b4, 0, none⟩))]) (args := [(.agg #[(.string ⟨(x2).toArray⟩), (.bool true)]), (.pointer (some ⟨b1, 0, none⟩)), (.pointer (some ⟨b7, 0, none⟩)), (.pointer (some ⟨b4, 0, none⟩))]) rfl co_air_table_row_1 (rfl) hs16 (c_air_table_row_1 N w8 F3 hs16.pers (({ text_ := x2, whole_ := true } : air_key)) b1 x0 o0_0 (MpA.mono hm0_0 ((le11.trans le14).trans le17)) ((le14.trans le17) _ _ hF12) b7 x3 (le17 _ _ hF15) b4 x1 a1_0 n1_0 hb1_0 (SlA.mono hs1_0 ((le11.trans le14).trans le17)) hF18 _ hr20) ?_
 intro v22 F4 w23 hs24 le25 hp26
 obtain rfl := hp26
 refine V 10 3 (ma 20 (vi r19)) ?_
 refine Nss (Rg [0, 1] ?_)
 refine V 21 3 (mv 10 (vi r19)) ?_
 refine V 22 4 (run_geq (t := 3) (t' := 3) (x := (.tmp 21)) (y := (.const (vi 0))) (k := .i64) (a := r19) (b := 0) rfl rfl) ?_
 refine Nt ?_
 refine CWP.cond (t := (decide (r19 ≥ 0))) (by kernel_rfl) rfl (fun hb27 => ?_) (fun hb27 => ?_)
 ·have h28 := cond_t h21 hb27
  refine Sq (Rg [0, 1] ?_)
  refine V 23 3 (mv 10 (vi r19)) ?_
  refine V 8 3 (ma 23 (vi r19)) ?_
  refine Nt ?_
  refine CWP.ret (by kernel_rfl) ?_
  refine thenQ_ret ?_
  have hfin := some_inj h28
  subst hfin
  exact ⟨rfl, (vi r19), res_of (l := [.tmp 8]) (by kernel_rfl) (vs := [(vi r19)]) ⟨rfl, trivial⟩, (vi r19), F4, rfl, hs24.clear, rfl⟩
 ·have h29 := cond_f h21 hb27
  refine Sc ?_
  refine thenQ_nrm ?_
  refine Sq (Rg [0, 1, 2, 3, 4, 5, 6, 7] ?_)
  refine V 25 9 (mv 2 (.string ⟨(x2).toArray⟩)) ?_
  obtain ⟨r30, hr31, h32⟩ := bind_some h29
  refine Cl 26 86 66 #[(.tmp 25)] #[9] co_air_split hs24 (c_air_split N w23 F4 hs24.pers (hG.mono (((le11.trans le14).trans le17).trans le25)) (x2) _ hr31) ?_
  intro v33 F5 w34 hs35 le36 hp37
  obtain rfl := hp37
  refine V 24 86 (mv 26 (.tuple #[(.agg #[(.string ⟨(r30.1.Area).toArray⟩), (.string ⟨(r30.1.Prefix).toArray⟩), (.string ⟨(r30.1.Suffix).toArray⟩), (.string ⟨(r30.1.Stroke).toArray⟩)]), (.bool r30.2)])) ?_
  refine V 27 27 (ex 24 0 (.agg #[(.string ⟨(r30.1.Area).toArray⟩), (.string ⟨(r30.1.Prefix).toArray⟩), (.string ⟨(r30.1.Suffix).toArray⟩), (.string ⟨(r30.1.Stroke).toArray⟩)]) (vs := #[(.agg #[(.string ⟨(r30.1.Area).toArray⟩), (.string ⟨(r30.1.Prefix).toArray⟩), (.string ⟨(r30.1.Suffix).toArray⟩), (.string ⟨(r30.1.Stroke).toArray⟩)]), (.bool r30.2)])) ?_
  refine V 28 4 (ex 24 1 (.bool r30.2) (vs := #[(.agg #[(.string ⟨(r30.1.Area).toArray⟩), (.string ⟨(r30.1.Prefix).toArray⟩), (.string ⟨(r30.1.Suffix).toArray⟩), (.string ⟨(r30.1.Stroke).toArray⟩)]), (.bool r30.2)])) ?_
  refine Al 11 0 27 #[(.string ⟨(([] : List UInt8)).toArray⟩), (.string ⟨(([] : List UInt8)).toArray⟩), (.string ⟨(([] : List UInt8)).toArray⟩), (.string ⟨(([] : List UInt8)).toArray⟩)] hs35 (fun b38 w39 (hs40 : HS w0 F0 w39 F5 [(sb b38 #[(.string ⟨(([] : List UInt8)).toArray⟩), (.string ⟨(([] : List UInt8)).toArray⟩), (.string ⟨(([] : List UInt8)).toArray⟩), (.string ⟨(([] : List UInt8)).toArray⟩)] 27)]) => ?_)
  refine RWP.store (ty := 0) (g := none) (by kernel_rfl) rfl (x := (.tmp 11)) (y := (.tmp 27)) (t := 27) (gg := true) (s := 4) (v := (.agg #[(.string ⟨(r30.1.Area).toArray⟩), (.string ⟨(r30.1.Prefix).toArray⟩), (.string ⟨(r30.1.Suffix).toArray⟩), (.string ⟨(r30.1.Stroke).toArray⟩)])) (b := b38) (o := 0) (C := #[(.string ⟨(([] : List UInt8)).toArray⟩), (.string ⟨(([] : List UInt8)).toArray⟩), (.string ⟨(([] : List UInt8)).toArray⟩), (.string ⟨(([] : List UInt8)).toArray⟩)]) rfl rfl (by kernel_rfl) hs40 (k := 0) rfl rfl rfl rfl (C' := #[(.string ⟨(r30.1.Area).toArray⟩), (.string ⟨(r30.1.Prefix).toArray⟩), (.string ⟨(r30.1.Suffix).toArray⟩), (.string ⟨(r30.1.Stroke).toArray⟩)]) rfl (fun w41 (hs42 : HS w0 F0 w41 F5 [(sb b38 #[(.string ⟨(r30.1.Area).toArray⟩), (.string ⟨(r30.1.Prefix).toArray⟩), (.string ⟨(r30.1.Suffix).toArray⟩), (.string ⟨(r30.1.Stroke).toArray⟩)] 27)]) => ?_)
  refine V 12 4 (ma 28 (.bool r30.2)) ?_
  refine Nss (Rg [0, 1, 2, 3, 4, 5, 6, 7, 8, 9] ?_)
  refine V 29 0 (fa 27 11 0 0 1 b38 0 0) ?_
  refine V 30 9 (ld 9 29 b38 0 false 1 (.string ⟨(r30.1.Area).toArray⟩) (hs42.ownAt (k := 0) rfl)) ?_
  refine V 31 0 (fa 27 11 1 1 1 b38 0 1) ?_
  refine V 32 9 (ld 9 31 b38 1 false 1 (.string ⟨(r30.1.Prefix).toArray⟩) (hs42.ownAt (k := 0) rfl)) ?_
  refine V 33 0 (fa 27 11 2 2 1 b38 0 2) ?_
  refine V 34 9 (ld 9 33 b38 2 false 1 (.string ⟨(r30.1.Suffix).toArray⟩) (hs42.ownAt (k := 0) rfl)) ?_
  obtain ⟨r43, hr44, h45⟩ := bind_some h32
  refine V 35 9 (run_sadd (t := 9) (t' := 9) (x := (.tmp 32)) (y := (.tmp 34)) (a := r30.1.Prefix) (b := r30.1.Suffix) (v := r43) rfl rfl hr44) ?_
  refine RWP.buildSlice (dst := (some 36)) (ty := 80) (g := none) (by kernel_rfl) rfl (t := 80) (len := 2) (parts := #[(0, (.tmp 30)), (1, (.tmp 35))]) (vs := [(0, (.string ⟨(r30.1.Area).toArray⟩)), (1, (.string ⟨(r43).toArray⟩))]) (rfl) (E := 9) (cs := [(.string ⟨(r30.1.Area).toArray⟩), (.string ⟨(r43).toArray⟩)]) (by kernel_rfl) hs42 (fun b46 w47 (hs48 : HS w0 F0 w47 F5 [(some b46, .cells ([(.string ⟨(r30.1.Area).toArray⟩), (.string ⟨(r43).toArray⟩)] : List Value).toArray 9 (0, 0)), (sb b38 #[(.string ⟨(r30.1.Area).toArray⟩), (.string ⟨(r30.1.Prefix).toArray⟩), (.string ⟨(r30.1.Suffix).toArray⟩), (.string ⟨(r30.1.Stroke).toArray⟩)] 27)]) => ?_)
  have hr50 : RowR tStr 9 F5 (some ⟨b46, 0, none⟩) 2 [r30.1.Area, r43] (some b46, .cells ([(.string ⟨(r30.1.Area).toArray⟩), (.string ⟨(r43).toArray⟩)] : List Value).toArray 9 (0, 0)) := RowR.lit ⟨rfl, ⟨rfl, rfl⟩⟩ (by simp)
  have hb54 := RowR.bound hr50
  obtain ⟨F6, hs51, le52, hs53⟩ : ∃ Fq, HS w0 F0 w47 Fq [(sb b38 #[(.string ⟨(r30.1.Area).toArray⟩), (.string ⟨(r30.1.Prefix).toArray⟩), (.string ⟨(r30.1.Suffix).toArray⟩), (.string ⟨(r30.1.Stroke).toArray⟩)] 27)] ∧ Mem.le F5 Fq ∧ SlA tStr Fq (some ⟨b46, 0, none⟩) [r30.1.Area, r43] := HS.freezeRow hs48 (k := 0) rfl hr50
  obtain ⟨r55, hr56, h57⟩ := bind_some h45
  refine Cl 37 9 85 #[(.tmp 36)] #[80] co_cmp_Or_string hs51 (c_cmp_Or_string N w47 F6 hs51.pers ([r30.1.Area, r43]) (some ⟨b46, 0, none⟩) 2 hb54 hs53 _ hr56) ?_
  intro v58 F7 w59 hs60 le61 hp62
  obtain rfl := hp62
  refine V 13 9 (ma 37 (.string ⟨(r55).toArray⟩)) ?_
  refine Nss ?_
  refine Sq (Rg [0, 1, 2] ?_)
  refine V 38 9 (mv 13 (.string ⟨(r55).toArray⟩)) ?_
  refine V 39 3 (run_slen (x := (.tmp 38)) (ats := #[9]) (t := 9) (a := r55) rfl rfl (by kernel_rfl)) ?_
  refine V 14 3 (ma 39 (vi (r55.length : Int))) ?_
  refine Nt ?_
  have hs63 : HS w0 F0 w59 F7 [] := hs60.drop 0
  obtain ⟨o64, ho65, h66⟩ := bind_some h57
  refine CWP.cut (fun f w => ∃ (s75 : Int) (F9 : Mem), o64 = .done s75 ∧ HS w0 F0 w F9 [] ∧ Mem.le F7 F9 ∧ f.d = []) ?_ ?_
  ·refine Bk ?_
   refine CWP.loop (by kernel_rfl) (fun m f w => ∃ (s67 : Int) (F8 : Mem), iter (air_table_row_L0 N x0 x1 x2 x3 r19 r30 r43 r55) m s67 = some o64 ∧ HS w0 F0 w F8 [] ∧ Mem.le F7 F8 ∧ f.d = [] ∧ f 9 = (.func (.func 126) #[] #[(.pointer (some ⟨b1, 0, none⟩)), (.pointer (some ⟨b7, 0, none⟩)), (.pointer (some ⟨b4, 0, none⟩))]) ∧ f 13 = (.string ⟨(r55).toArray⟩) ∧ f 14 = (vi s67)) N ⟨(r55.length : Int), F7, ho65, hs63, (Mem.le.refl _), rfl, rfl, rfl, rfl⟩ ?_
   rintro m80 f w68 ⟨s67, F8, hit81, hs69, le70, e71, e72, e73, e74⟩
   obtain ⟨m82, fl83, rfl, hb84, hnx85⟩ := iter_step hit81
   refine Sq ?_
   refine Sq (Rg [0, 1] ?_)
   refine V 40 3 (mv 14 (vi s67) e74) ?_
   refine V 41 4 (run_gtr (t := 3) (t' := 3) (x := (.tmp 40)) (y := (.const (vi 0))) (k := .i64) (a := s67) (b := 0) rfl rfl) ?_
   refine Nt ?_
   refine CWP.cond (t := (decide (s67 > 0))) (by kernel_rfl) rfl (fun hb86 => ?_) (fun hb86 => ?_)
   ·have h87 := cond_t hb84 hb86
    refine Sc ?_
    refine thenQ_nrm ?_
    refine Sq ?_
    refine Bk ?_
    refine Sq (Rg [0, 1, 2, 3, 4, 5, 6] ?_)
    refine V 44 152 (mv 9 (.func (.func 126) #[] #[(.pointer (some ⟨b1, 0, none⟩)), (.pointer (some ⟨b7, 0, none⟩)), (.pointer (some ⟨b4, 0, none⟩))]) e72) ?_
    refine V 45 9 (mv 13 (.string ⟨(r55).toArray⟩) e73) ?_
    refine V 46 3 (mv 14 (vi s67) e74) ?_
    obtain ⟨r88, hr89, h90⟩ := bind_some h87
    refine V 47 9 (run_ssub (t := 9) (x := (.tmp 45)) (lo := none) (hi := (some (.tmp 46))) (a := r55) (il := 0) (ih := s67) (v := r88) rfl (by kernel_rfl) rfl rfl hr89) ?_
    refine V 48 119 (run_build2 (t := 119) (parts := #[(0, (.tmp 47)), (1, (.const (.bool false)))]) (vs := [(0, (.string ⟨(r88).toArray⟩)), (1, (.bool false))]) (rfl) (cs := [(.string ⟨(r88).toArray⟩), (.bool false)]) (by kernel_rfl)) ?_
    obtain ⟨r91, hr92, h93⟩ := bind_some h90
    refine RWP.call (dst := (some 49)) (ty := 3) (g := none) (by kernel_rfl) rfl (f0 := (.tmp 44)) (aos := #[(.tmp 48)]) (ats := #[119]) (fid := 126) (first := #[]) (cap := #[(.pointer (some ⟨b1, 0, none⟩)), (.pointer (some ⟨b7, 0, none⟩)), (.pointer (some ⟨b4, 0, none⟩))]) (args := [(.agg #[(.string ⟨(r88).toArray⟩), (.bool false)]), (.pointer (some ⟨b1, 0, none⟩)), (.pointer (some ⟨b7, 0, none⟩)), (.pointer (some ⟨b4, 0, none⟩))]) rfl co_air_table_row_1 (rfl) hs69 (c_air_table_row_1 N w68 F8 hs69.pers (({ text_ := r88, whole_ := false } : air_key)) b1 x0 o0_0 (MpA.mono hm0_0 (((((((le11.trans le14).trans le17).trans le25).trans le36).trans le52).trans le61).trans le70)) (((((((le14.trans le17).trans le25).trans le36).trans le52).trans le61).trans le70) _ _ hF12) b7 x3 ((((((le17.trans le25).trans le36).trans le52).trans le61).trans le70) _ _ hF15) b4 x1 a1_0 n1_0 hb1_0 (SlA.mono hs1_0 (((((((le11.trans le14).trans le17).trans le25).trans le36).trans le52).trans le61).trans le70)) (((((le25.trans le36).trans le52).trans le61).trans le70) _ _ hF18) _ hr92) ?_
    intro v94 F10 w95 hs96 le97 hp98
    obtain rfl := hp98
    refine V 15 3 (ma 49 (vi r91)) ?_
    refine Nss (Rg [0, 1] ?_)
    refine V 50 3 (mv 15 (vi r91)) ?_
    refine V 51 4 (run_geq (t := 3) (t' := 3) (x := (.tmp 50)) (y := (.const (vi 0))) (k := .i64) (a := r91) (b := 0) rfl rfl) ?_
    refine Nt ?_
    refine CWP.cond (t := (decide (r91 ≥ 0))) (by kernel_rfl) rfl (fun hb99 => ?_) (fun hb99 => ?_)
    ·have h100 := cond_t h93 hb99
     refine Sq (Rg [0, 1] ?_)
     refine V 52 3 (mv 15 (vi r91)) ?_
     refine V 8 3 (ma 52 (vi r91)) ?_
     refine Nt ?_
     refine CWP.ret (by kernel_rfl) ?_
     refine blockQ_ret ?_
     refine thenQ_ret ?_
     refine thenQ_ret ?_
     refine blockQ_ret ?_
     have hret := iter_ret h100 hnx85
     subst hret
     refine .inr ?_
     refine thenQ_ret ?_
     have hfin := some_inj h66
     subst hfin
     exact ⟨e71, (vi r91), res_of (l := [.tmp 8]) (by kernel_rfl) (vs := [(vi r91)]) ⟨rfl, trivial⟩, (vi r91), F10, rfl, hs96.clear, rfl⟩
    ·have h101 := cond_f h93 hb99
     refine Sc ?_
     refine blockQ_nrm ?_
     refine thenQ_nrm ?_
     refine Rg [0, 1, 2] ?_
     refine V 42 3 (mv 14 (vi s67) e74) ?_
     refine V 43 3 (run_sub (t := 3) (t' := 3) (x := (.tmp 42)) (y := (.const (vi 1))) (k := .i64) (a := s67) (b := 1) rfl rfl) ?_
     refine V 14 3 (ma 43 (vi (W64 (s67 - 1)))) ?_
     refine RWP.nil ?_
     have hn102 := iter_next h101 hnx85
     exact ⟨m82, Nat.lt_succ_self _, (W64 (s67 - 1)), F10, hn102, hs96, (le70.trans le97), e71, e72, e73, rfl⟩
   ·have h103 := cond_f hb84 hb86
    refine CWP.exit (by kernel_rfl) ?_
    refine thenQ_ex ?_
    refine thenQ_ex ?_
    refine blockQ_hit rfl ?_
    have ho104 := iter_done h103 hnx85
    exact .inl ⟨rfl, s67, F8, ho104, hs69, le70, e71⟩
  ·rintro f w76 ⟨s75, F9, rfl, hs77, le78, e79⟩
   have h105 := k_done h66
   refine thenQ_nrm ?_
   refine Sq (Rg [0] ?_)
   refine V 8 3 (mc (vi (-1)) (vi (-1))) ?_
   refine Nt ?_
   refine CWP.ret (by kernel_rfl) ?_
   have hfin := some_inj h105
   subst hfin
   exact ⟨e79, (vi (-1)), res_of (l := [.tmp 8]) (by kernel_rfl) (vs := [(vi (-1))]) ⟨rfl, trivial⟩, (vi (-1)), F9, rfl, hs77.clear, rfl⟩
end Go.Proofs.YtlddakefmfcblaaGreatDoor
namespace Go.Proofs.YtlddakefmfcblaaGreatDoor
open Go.Proofs
def air_RowOf (N : Nat) (x0 : (List Prefix)) (x1 : (List UInt8)) (x2 : Int) : Option (Int × Int) :=
 ((air_wrong N x0 x1 x2).bind fun r1 => (bif (r1 != 0) then some (0, r1) else ((air_tableOf N x0).bind fun r12 => ((air_table_row N r12 x0 x1 x2).bind fun r20 => (bif (decide (r20 < 0)) then some (0, 3) else some (r20, 0))))))
theorem co_air_RowOf : CallOk Tryz.prog 52 := fun _ _ => by kernel_rfl
set_option maxHeartbeats 4000000 in
set_option maxRecDepth 100000 in
theorem c_air_RowOf (N : Nat) (w0 : World) (F0 : Mem) (hF : ∀ b o, F0 b = some o → w0.heap[b]? = some o) (hG : Glob F0) (x0 : (List Prefix)) (a0_0 : Option Addr) (n0_0 : Nat) (hb0_0 : LC x0.length n0_0) (hs0_0 : SlA tPrefix F0 a0_0 x0) (x1 : (List UInt8)) (x2 : Int) (r : (Int × Int)) (h : air_RowOf N x0 x1 x2 = some r) :
  Calls Tryz.prog 52 ([(.slice a0_0 x0.length n0_0), (.string ⟨(x1).toArray⟩), (vi x2)] : List Value).toArray w0 (FRet w0 F0 fun F' v => v = (.tuple #[(vi r.1), (vi r.2)])) := by
 have hs0 := HS.start hF
 refine calls_of (n := 26) (c := bodyOf Tryz.f52) Tryz.func52 (by kernel_rfl) (by kernel_rfl) (by kernel_rfl) ?_
 refine Sq (Rg [0, 1] ?_)
 refine V 6 3 (mc (vi 0) (vi 0)) ?_
 refine V 7 23 (mc (vi 0) (vi 0)) ?_
 refine Nss ?_
 refine Sq (Rg [0, 1, 2, 3, 4] ?_)
 refine V 10 61 (mv 0 (.slice a0_0 x0.length n0_0)) ?_
 refine V 11 9 (mv 1 (.string ⟨(x1).toArray⟩)) ?_
 refine V 12 3 (mv 2 (vi x2)) ?_
 obtain ⟨r1, hr2, h3⟩ := bind_some h
 refine Cl 13 23 96 #[(.tmp 10), (.tmp 11), (.tmp 12)] #[61, 9, 3] co_air_wrong hs0 (c_air_wrong N w0 F0 hs0.pers hG (x0) a0_0 n0_0 hb0_0 hs0_0 (x1) (x2) _ hr2) ?_
 intro v4 F1 w5 hs6 le7 hp8
 obtain rfl := hp8
 refine V 8 23 (ma 13 (vi r1)) ?_
 refine Nss (Rg [0, 1] ?_)
 refine V 14 23 (mv 8 (vi r1)) ?_
 refine V 15 4 (run_neq (t := 23) (t' := 23) (x := (.tmp 14)) (y := (.const (vi 0))) (k := .i64) (a := r1) (b := 0) rfl rfl) ?_
 refine Nt ?_
 refine CWP.cond (t := (r1 != 0)) (by kernel_rfl) rfl (fun hb9 => ?_) (fun hb9 => ?_)
 ·have h10 := cond_t h3 hb9
  refine Sq (Rg [0, 1, 2] ?_)
  refine V 16 23 (mv 8 (vi r1)) ?_
  refine V 6 3 (mc (vi 0) (vi 0)) ?_
  refine V 7 23 (ma 16 (vi r1)) ?_
  refine Nt ?_
  refine CWP.ret (by kernel_rfl) ?_
  refine thenQ_ret ?_
  have hfin := some_inj h10
  subst hfin
  exact ⟨rfl, (.tuple #[(vi 0), (vi r1)]), res_of (l := [.tmp 6, .tmp 7]) (by kernel_rfl) (vs := [(vi 0), (vi r1)]) ⟨rfl, ⟨rfl, trivial⟩⟩, (.tuple #[(vi 0), (vi r1)]), F1, rfl, hs6.clear, rfl⟩
 ·have h11 := cond_f h3 hb9
  refine Sc ?_
  refine thenQ_nrm ?_
  refine Sq (Rg [0, 1, 2, 3, 4, 5, 6] ?_)
  refine V 17 61 (mv 0 (.slice a0_0 x0.length n0_0)) ?_
  obtain ⟨r12, hr13, h14⟩ := bind_some h11
  refine Cl 18 116 93 #[(.tmp 17)] #[61] co_air_tableOf hs6 (c_air_tableOf N w5 F1 hs6.pers (x0) a0_0 n0_0 hb0_0 (SlA.mono hs0_0 le7) _ hr13) ?_
  intro v15 F2 w16 hs17 le18 hp19
  obtain ⟨or12_0_0, rfl, hmr12_0_0⟩ := hp19
  refine V 19 61 (mv 0 (.slice a0_0 x0.length n0_0)) ?_
  refine V 20 9 (mv 1 (.string ⟨(x1).toArray⟩)) ?_
  refine V 21 3 (mv 2 (vi x2)) ?_
  obtain ⟨r20, hr21, h22⟩ := bind_some h14
  refine Cl 22 3 97 #[(.tmp 18), (.tmp 19), (.tmp 20), (.tmp 21)] #[116, 61, 9, 3] co_air_table_row hs17 (c_air_table_row N w16 F2 hs17.pers (hG.mono (le7.trans le18)) (r12) or12_0_0 hmr12_0_0 (x0) a0_0 n0_0 hb0_0 (SlA.mono hs0_0 (le7.trans le18)) (x1) (x2) _ hr21) ?_
  intro v23 F3 w24 hs25 le26 hp27
  obtain rfl := hp27
  refine V 9 3 (ma 22 (vi r20)) ?_
  refine Nss ?_
  refine Sq (Rg [0, 1] ?_)
  refine V 23 3 (mv 9 (vi r20)) ?_
  refine V 24 4 (run_lss (t := 3) (t' := 3) (x := (.tmp 23)) (y := (.const (vi 0))) (k := .i64) (a := r20) (b := 0) rfl rfl) ?_
  refine Nt ?_
  refine CWP.cond (t := (decide (r20 < 0))) (by kernel_rfl) rfl (fun hb28 => ?_) (fun hb28 => ?_)
  ·have h29 := cond_t h22 hb28
   refine Sq (Rg [0, 1] ?_)
   refine V 6 3 (mc (vi 0) (vi 0)) ?_
   refine V 7 23 (mc (vi 3) (vi 3)) ?_
   refine Nt ?_
   refine CWP.ret (by kernel_rfl) ?_
   refine thenQ_ret ?_
   have hfin := some_inj h29
   subst hfin
   exact ⟨rfl, (.tuple #[(vi 0), (vi 3)]), res_of (l := [.tmp 6, .tmp 7]) (by kernel_rfl) (vs := [(vi 0), (vi 3)]) ⟨rfl, ⟨rfl, trivial⟩⟩, (.tuple #[(vi 0), (vi 3)]), F3, rfl, hs25.clear, rfl⟩
  ·have h30 := cond_f h22 hb28
   refine Sc ?_
   refine thenQ_nrm ?_
   refine Sq (Rg [0, 1, 2] ?_)
   refine V 25 3 (mv 9 (vi r20)) ?_
   refine V 6 3 (ma 25 (vi r20)) ?_
   refine V 7 23 (mc (vi 0) (vi 0)) ?_
   refine Nt ?_
   refine CWP.ret (by kernel_rfl) ?_
   have hfin := some_inj h30
   subst hfin
   exact ⟨rfl, (.tuple #[(vi r20), (vi 0)]), res_of (l := [.tmp 6, .tmp 7]) (by kernel_rfl) (vs := [(vi r20), (vi 0)]) ⟨rfl, ⟨rfl, trivial⟩⟩, (.tuple #[(vi r20), (vi 0)]), F3, rfl, hs25.clear, rfl⟩
end Go.Proofs.YtlddakefmfcblaaGreatDoor
namespace Go.Proofs.YtlddakefmfcblaaGreatDoor
open Go.Proofs
end Go.Proofs.YtlddakefmfcblaaGreatDoor
namespace Go.Proofs.YtlddakefmfcblaaGreatDoor
open Go.Proofs
end Go.Proofs.YtlddakefmfcblaaGreatDoor
namespace Go.Proofs.YtlddakefmfcblaaGreatDoor
open Go.Proofs
end Go.Proofs.YtlddakefmfcblaaGreatDoor
namespace Go.Proofs.YtlddakefmfcblaaGreatDoor
open Go.Proofs
end Go.Proofs.YtlddakefmfcblaaGreatDoor
namespace Go.Proofs.YtlddakefmfcblaaGreatDoor
open Go.Proofs
end Go.Proofs.YtlddakefmfcblaaGreatDoor
namespace Go.Proofs.YtlddakefmfcblaaGreatDoor
open Go.Proofs
def air_placeOf (N : Nat) (x0 : Prefix) : Option Place :=
 some ({ Country := x0.Country, Zone := x0.Zone, Continent := x0.Continent } : Place)
theorem co_air_placeOf : CallOk Tryz.prog 100 := fun _ _ => by kernel_rfl
set_option maxHeartbeats 4000000 in
set_option maxRecDepth 100000 in
theorem c_air_placeOf (N : Nat) (w0 : World) (F0 : Mem) (hF : ∀ b o, F0 b = some o → w0.heap[b]? = some o) (x0 : Prefix) (r : Place) (h : air_placeOf N x0 = some r) :
  Calls Tryz.prog 100 ([(.agg #[(.string ⟨(x0.Text).toArray⟩), (vi x0.Country), (vi x0.Zone), (vi x0.Continent), (vi x0.From), (vi x0.To), (.bool x0.Whole)])] : List Value).toArray w0 (FRet w0 F0 fun F' v => v = (.agg #[(vi r.Country), (vi r.Zone), (vi r.Continent)])) := by
 have hs0 := HS.start hF
 refine calls_of (n := 10) (c := bodyOf Tryz.f100) Tryz.func100 (by kernel_rfl) (by kernel_rfl) (by kernel_rfl) ?_
 refine Sq (Rg [0, 1] ?_)
 refine Bx 1 0 0 71 #[(.string ⟨(x0.Text).toArray⟩), (vi x0.Country), (vi x0.Zone), (vi x0.Continent), (vi x0.From), (vi x0.To), (.bool x0.Whole)] hs0 (fun b1 w2 (hs3 : HS w0 F0 w2 F0 [(sb b1 #[(.string ⟨(x0.Text).toArray⟩), (vi x0.Country), (vi x0.Zone), (vi x0.Continent), (vi x0.From), (vi x0.To), (.bool x0.Whole)] 71)]) => ?_)
 refine Al 2 0 65 #[(vi 0), (vi 0), (vi 0)] hs3 (fun b4 w5 (hs6 : HS w0 F0 w5 F0 [(sb b4 #[(vi 0), (vi 0), (vi 0)] 65), (sb b1 #[(.string ⟨(x0.Text).toArray⟩), (vi x0.Country), (vi x0.Zone), (vi x0.Continent), (vi x0.From), (vi x0.To), (.bool x0.Whole)] 71)]) => ?_)
 refine Nss (Rg [0, 1, 2, 3, 4, 5, 6, 7] ?_)
 refine V 3 0 (fa 71 1 1 1 1 b1 0 1) ?_
 refine V 4 3 (ld 3 3 b1 1 false 1 (vi x0.Country) (hs6.ownAt (k := 1) rfl)) ?_
 refine V 5 0 (fa 71 1 2 2 1 b1 0 2) ?_
 refine V 6 3 (ld 3 5 b1 2 false 1 (vi x0.Zone) (hs6.ownAt (k := 1) rfl)) ?_
 refine V 7 0 (fa 71 1 3 3 1 b1 0 3) ?_
 refine V 8 3 (ld 3 7 b1 3 false 1 (vi x0.Continent) (hs6.ownAt (k := 1) rfl)) ?_
 refine V 9 65 (run_build2 (t := 65) (parts := #[(0, (.tmp 4)), (1, (.tmp 6)), (2, (.tmp 8))]) (vs := [(0, (vi x0.Country)), (1, (vi x0.Zone)), (2, (vi x0.Continent))]) (rfl) (cs := [(vi x0.Country), (vi x0.Zone), (vi x0.Continent)]) (by kernel_rfl)) ?_
 refine RWP.store (ty := 0) (g := none) (by kernel_rfl) rfl (x := (.tmp 2)) (y := (.tmp 9)) (t := 65) (gg := true) (s := 3) (v := (.agg #[(vi x0.Country), (vi x0.Zone), (vi x0.Continent)])) (b := b4) (o := 0) (C := #[(vi 0), (vi 0), (vi 0)]) rfl rfl (by kernel_rfl) hs6 (k := 0) rfl rfl rfl rfl (C' := #[(vi x0.Country), (vi x0.Zone), (vi x0.Continent)]) rfl (fun w7 (hs8 : HS w0 F0 w7 F0 [(sb b4 #[(vi x0.Country), (vi x0.Zone), (vi x0.Continent)] 65), (sb b1 #[(.string ⟨(x0.Text).toArray⟩), (vi x0.Country), (vi x0.Zone), (vi x0.Continent), (vi x0.From), (vi x0.To), (.bool x0.Whole)] 71)]) => ?_)
 refine Nt ?_
 refine CWP.ret (by kernel_rfl) ?_
 have hfin := some_inj h
 subst hfin
 exact ⟨rfl, (.agg #[(vi x0.Country), (vi x0.Zone), (vi x0.Continent)]), res_of (l := [.cell 2 65]) (by kernel_rfl) (vs := [(.agg #[(vi x0.Country), (vi x0.Zone), (vi x0.Continent)])]) ⟨b4, 0, rfl, run_loadVar' (t := 65) (g := true) (s := 3) (by kernel_rfl) (hs8.ownAt (k := 0) rfl) rfl (by decide), trivial⟩, (.agg #[(vi x0.Country), (vi x0.Zone), (vi x0.Continent)]), F0, rfl, hs8.clear, rfl⟩
end Go.Proofs.YtlddakefmfcblaaGreatDoor
namespace Go.Proofs.YtlddakefmfcblaaGreatDoor
open Go.Proofs
def air_PlaceOf (N : Nat) (x0 : (List Prefix)) (x1 : (List UInt8)) (x2 : Int) : Option (Place × Int) :=
 ((air_RowOf N x0 x1 x2).bind fun r4 => (bif (r4.2 != 0) then some (({ Country := 0, Zone := 0, Continent := 0 } : Place), r4.2) else ((idx x0 r4.1).bind fun x17 => ((air_placeOf N x17).bind fun r31 => some (({ Country := r31.Country, Zone := r31.Zone, Continent := r31.Continent } : Place), 0)))))
theorem co_air_PlaceOf : CallOk Tryz.prog 54 := fun _ _ => by kernel_rfl
set_option maxHeartbeats 4000000 in
set_option maxRecDepth 100000 in
theorem c_air_PlaceOf (N : Nat) (w0 : World) (F0 : Mem) (hF : ∀ b o, F0 b = some o → w0.heap[b]? = some o) (hG : Glob F0) (x0 : (List Prefix)) (a0_0 : Option Addr) (n0_0 : Nat) (hb0_0 : LC x0.length n0_0) (hs0_0 : SlA tPrefix F0 a0_0 x0) (x1 : (List UInt8)) (x2 : Int) (r : (Place × Int)) (h : air_PlaceOf N x0 x1 x2 = some r) :
  Calls Tryz.prog 54 ([(.slice a0_0 x0.length n0_0), (.string ⟨(x1).toArray⟩), (vi x2)] : List Value).toArray w0 (FRet w0 F0 fun F' v => v = (.tuple #[(.agg #[(vi r.1.Country), (vi r.1.Zone), (vi r.1.Continent)]), (vi r.2)])) := by
 have hs0 := HS.start hF
 refine calls_of (n := 26) (c := bodyOf Tryz.f54) Tryz.func54 (by kernel_rfl) (by kernel_rfl) (by kernel_rfl) ?_
 refine Sq (Rg [0, 1] ?_)
 refine Al 6 0 65 #[(vi 0), (vi 0), (vi 0)] hs0 (fun b1 w2 (hs3 : HS w0 F0 w2 F0 [(sb b1 #[(vi 0), (vi 0), (vi 0)] 65)]) => ?_)
 refine V 7 23 (mc (vi 0) (vi 0)) ?_
 refine Nss (Rg [0, 1, 2, 3, 4, 5, 6, 7, 8] ?_)
 refine V 11 61 (mv 0 (.slice a0_0 x0.length n0_0)) ?_
 refine V 12 9 (mv 1 (.string ⟨(x1).toArray⟩)) ?_
 refine V 13 3 (mv 2 (vi x2)) ?_
 obtain ⟨r4, hr5, h6⟩ := bind_some h
 refine Cl 14 33 52 #[(.tmp 11), (.tmp 12), (.tmp 13)] #[61, 9, 3] co_air_RowOf hs3 (c_air_RowOf N w2 F0 hs3.pers hG (x0) a0_0 n0_0 hb0_0 hs0_0 (x1) (x2) _ hr5) ?_
 intro v7 F1 w8 hs9 le10 hp11
 obtain rfl := hp11
 refine V 10 33 (mv 14 (.tuple #[(vi r4.1), (vi r4.2)])) ?_
 refine V 15 3 (ex 10 0 (vi r4.1) (vs := #[(vi r4.1), (vi r4.2)])) ?_
 refine V 16 23 (ex 10 1 (vi r4.2) (vs := #[(vi r4.1), (vi r4.2)])) ?_
 refine V 8 3 (ma 15 (vi r4.1)) ?_
 refine V 9 23 (ma 16 (vi r4.2)) ?_
 refine Nss ?_
 refine Sq (Rg [0, 1] ?_)
 refine V 17 23 (mv 9 (vi r4.2)) ?_
 refine V 18 4 (run_neq (t := 23) (t' := 23) (x := (.tmp 17)) (y := (.const (vi 0))) (k := .i64) (a := r4.2) (b := 0) rfl rfl) ?_
 refine Nt ?_
 refine CWP.cond (t := (r4.2 != 0)) (by kernel_rfl) rfl (fun hb12 => ?_) (fun hb12 => ?_)
 ·have h13 := cond_t h6 hb12
  refine Sq (Rg [0, 1, 2, 3] ?_)
  refine V 19 65 (run_build2 (t := 65) (parts := #[]) (vs := []) (rfl) (cs := [(vi 0), (vi 0), (vi 0)]) (by kernel_rfl)) ?_
  refine V 20 23 (mv 9 (vi r4.2)) ?_
  refine RWP.store (ty := 0) (g := none) (by kernel_rfl) rfl (x := (.tmp 6)) (y := (.tmp 19)) (t := 65) (gg := true) (s := 3) (v := (.agg #[(vi 0), (vi 0), (vi 0)])) (b := b1) (o := 0) (C := #[(vi 0), (vi 0), (vi 0)]) rfl rfl (by kernel_rfl) hs9 (k := 0) rfl rfl rfl rfl (C' := #[(vi 0), (vi 0), (vi 0)]) rfl (fun w14 (hs15 : HS w0 F0 w14 F1 [(sb b1 #[(vi 0), (vi 0), (vi 0)] 65)]) => ?_)
  refine V 7 23 (ma 20 (vi r4.2)) ?_
  refine Nt ?_
  refine CWP.ret (by kernel_rfl) ?_
  refine thenQ_ret ?_
  have hfin := some_inj h13
  subst hfin
  exact ⟨rfl, (.tuple #[(.agg #[(vi 0), (vi 0), (vi 0)]), (vi r4.2)]), res_of (l := [.cell 6 65, .tmp 7]) (by kernel_rfl) (vs := [(.agg #[(vi 0), (vi 0), (vi 0)]), (vi r4.2)]) ⟨b1, 0, rfl, run_loadVar' (t := 65) (g := true) (s := 3) (by kernel_rfl) (hs15.ownAt (k := 0) rfl) rfl (by decide), ⟨rfl, trivial⟩⟩, (.tuple #[(.agg #[(vi 0), (vi 0), (vi 0)]), (vi r4.2)]), F1, rfl, hs15.clear, rfl⟩
 ·have h16 := cond_f h6 hb12
  refine Sc ?_
  refine thenQ_nrm ?_
  refine Sq (Rg [0, 1, 2, 3, 4, 5, 6] ?_)
  refine V 21 61 (mv 0 (.slice a0_0 x0.length n0_0)) ?_
  refine V 22 3 (mv 8 (vi r4.1)) ?_
  obtain ⟨x17, hx18, h20⟩ := bind_some h16
  obtain ⟨hi19, hx18'⟩ := idx_spec hx18
  obtain ⟨b21, o22, C23, E24, fz25, rfl, hF27, hE28⟩ := SlA.open (SlA.mono hs0_0 le10) hx18'
  have hc30 := hE28 _ _ hx18'
  refine V 23 0 (ix 61 21 22 b21 o22 71 7 64 hi19) ?_
  refine V 24 71 (lx 71 23 0 7 true 7 (.agg #[(.string ⟨(x17.Text).toArray⟩), (vi x17.Country), (vi x17.Zone), (vi x17.Continent), (vi x17.From), (vi x17.To), (.bool x17.Whole)]) (hs9.pers _ _ hF27) hc30) ?_
  obtain ⟨r31, hr32, h33⟩ := bind_some h20
  refine Cl 25 65 100 #[(.tmp 24)] #[71] co_air_placeOf hs9 (c_air_placeOf N w8 F1 hs9.pers (x17) _ hr32) ?_
  intro v34 F2 w35 hs36 le37 hp38
  obtain rfl := hp38
  refine RWP.store (ty := 0) (g := none) (by kernel_rfl) rfl (x := (.tmp 6)) (y := (.tmp 25)) (t := 65) (gg := true) (s := 3) (v := (.agg #[(vi r31.Country), (vi r31.Zone), (vi r31.Continent)])) (b := b1) (o := 0) (C := #[(vi 0), (vi 0), (vi 0)]) rfl rfl (by kernel_rfl) hs36 (k := 0) rfl rfl rfl rfl (C' := #[(vi r31.Country), (vi r31.Zone), (vi r31.Continent)]) rfl (fun w39 (hs40 : HS w0 F0 w39 F2 [(sb b1 #[(vi r31.Country), (vi r31.Zone), (vi r31.Continent)] 65)]) => ?_)
  refine V 7 23 (mc (vi 0) (vi 0)) ?_
  refine Nt ?_
  refine CWP.ret (by kernel_rfl) ?_
  have hfin := some_inj h33
  subst hfin
  exact ⟨rfl, (.tuple #[(.agg #[(vi r31.Country), (vi r31.Zone), (vi r31.Continent)]), (vi 0)]), res_of (l := [.cell 6 65, .tmp 7]) (by kernel_rfl) (vs := [(.agg #[(vi r31.Country), (vi r31.Zone), (vi r31.Continent)]), (vi 0)]) ⟨b1, 0, rfl, run_loadVar' (t := 65) (g := true) (s := 3) (by kernel_rfl) (hs40.ownAt (k := 0) rfl) rfl (by decide), ⟨rfl, trivial⟩⟩, (.tuple #[(.agg #[(vi r31.Country), (vi r31.Zone), (vi r31.Continent)]), (vi 0)]), F2, rfl, hs40.clear, rfl⟩
end Go.Proofs.YtlddakefmfcblaaGreatDoor
namespace Go.Proofs.YtlddakefmfcblaaGreatDoor
open Go.Proofs
end Go.Proofs.YtlddakefmfcblaaGreatDoor
namespace Go.Proofs.YtlddakefmfcblaaGreatDoor
open Go.Proofs
end Go.Proofs.YtlddakefmfcblaaGreatDoor
namespace Go.Proofs.YtlddakefmfcblaaGreatDoor
def firstN {ρ : Type} (n : Nat) (f : Nat → Option ρ) (k : Nat) : Option ρ := ((List.range n).drop k).findSome? f
theorem firstN_step {ρ : Type} {n k : Nat} {f : Nat → Option ρ} (h : k < n) : firstN n f k = match f k with | some r => some r | none => firstN n f (k + 1) := by
 unfold firstN
 rw [List.drop_eq_getElem_cons (by simpa using h), List.findSome?_cons, List.getElem_range]
 rfl
theorem firstN_end {ρ : Type} {n : Nat} {f : Nat → Option ρ} : firstN n f n = none := by
 unfold firstN
 rw [List.drop_of_length_le (by simp)]; rfl
theorem iter_firstN {ρ τ : Type} {body : Int → Option (Flow ρ Int)} {n : Nat} (f : Nat → Option ρ) (hb : ∀ i, i < n → body (i : Int) = some ((f i).elim (.next ((i + 1 : Nat) : Int)) .ret))
  (he : body (n : Int) = some (.done (n : Int))) {N : Nat} (hN : n < N) (k : Nat) (hk : k ≤ n) (fd : Int → Option τ) (fr : ρ → Option τ) : ((iter body N (k : Int)).bind fun o => o.k fr fd) = (firstN n f k).elim (fd n) fr := by
 obtain ⟨o, ho, hR⟩ := iter_ex (body := body) n (fun i s => s = (i : Int) ∧ firstN n f k = firstN n f i) (fun o => (firstN n f k = none ∧ o = .done (n : Int)) ∨ ∃ r, firstN n f k = some r ∧ o = .ret r) (by
  rintro i s hi ⟨rfl, hkk⟩
  by_cases h : i < n
  ·rw [hb i h]
   rw [firstN_step h] at hkk
   cases e : f i with
   | some r => rw [e] at hkk; exact .inr ⟨_, rfl, (fun _ h => by cases h), .inr ⟨r, hkk, rfl⟩⟩
   | none => rw [e] at hkk; exact .inl ⟨_, rfl, ⟨rfl, hkk⟩, h⟩
  ·have : i = n := by omega
   subst this
   rw [he]
   rw [firstN_end] at hkk
   exact .inr ⟨_, rfl, (fun _ h => by cases h), .inl ⟨hkk, rfl⟩⟩) (n - k) N k (k : Int) (by omega) ⟨rfl, rfl⟩ (by omega)
 rw [ho]
 rcases hR with ⟨h1, rfl⟩ | ⟨r, h1, rfl⟩ <;> rw [h1] <;> rfl
theorem firstN_none {ρ : Type} {n : Nat} {f : Nat → Option ρ} : ∀ {k : Nat}, k ≤ n → (firstN n f k = none ↔ ∀ i, k ≤ i → i < n → f i = none) := by
 intro k hk
 unfold firstN
 rw [List.findSome?_eq_none_iff]
 constructor
 ·intro h i h1 h2
  refine h i ?_
  rw [List.mem_drop_iff_getElem]
  exact ⟨i - k, by simp; omega, by simp; omega⟩
 ·intro h x hx
  rw [List.mem_drop_iff_getElem] at hx
  obtain ⟨j, hj, rfl⟩ := hx
  simp at hj
  rw [List.getElem_range]
  exact h _ (by omega) (by omega)
theorem firstN_some {ρ : Type} {n : Nat} {f : Nat → Option ρ} {r : ρ} : ∀ {m k : Nat}, k + m = n → (firstN n f k = some r ↔ ∃ i, k ≤ i ∧ i < n ∧ f i = some r ∧ ∀ j, k ≤ j → j < i → f j = none) := by
 intro m
 induction m with
 | zero =>
  intro k hk
  have : k = n := by omega
  subst this
  rw [firstN_end]
  constructor
  ·intro h; cases h
  ·rintro ⟨i, h1, h2, _⟩; omega
 | succ m ih =>
  intro k hk
  rw [firstN_step (by omega)]
  cases e : f k with
  | some r' =>
   constructor
   ·intro h
    injection h with h
    subst h
    exact ⟨k, Nat.le_refl _, by omega, e, fun j h1 h2 => by omega⟩
   ·rintro ⟨i, h1, h2, h3, h4⟩
    by_cases hik : i = k
    ·subst hik; rw [e] at h3; exact h3
    ·have := h4 k (Nat.le_refl _) (by omega)
     rw [e] at this; cases this
  | none =>
   rw [show (match (none : Option ρ) with | some r => some r | none => firstN n f (k + 1)) = firstN n f (k + 1) from rfl, ih (by omega)]
   constructor
   ·rintro ⟨i, h1, h2, h3, h4⟩
    refine ⟨i, by omega, h2, h3, fun j h5 h6 => ?_⟩
    by_cases hjk : j = k
    ·subst hjk; exact e
    ·exact h4 j (by omega) h6
   ·rintro ⟨i, h1, h2, h3, h4⟩
    refine ⟨i, ?_, h2, h3, fun j h5 h6 => h4 j (by omega) h6⟩
    rcases Nat.lt_or_ge k i with h | h
    ·exact h
    ·have : i = k := by omega
     subst this; rw [e] at h3; cases h3
def zPre : Prefix := { Text := [], Country := 0, Zone := 0, Continent := 0, From := 0, To := 0, Whole := false }
def pAt (T : List Prefix) (i : Nat) : Prefix := T.getD i zPre
theorem idx_p {T : List Prefix} {i : Nat} (h : i < T.length) : idx T (i : Int) = some (pAt T i) := by
 rw [idx_nat h]; unfold pAt; rw [List.getD_eq_getElem?_getD, List.getElem?_eq_getElem h]; rfl
theorem pAt_get {T : List Prefix} {i : Nat} (h : i < T.length) : pAt T i = T[i] := by
 unfold pAt; rw [List.getD_eq_getElem?_getD, List.getElem?_eq_getElem h]; rfl
theorem pAt_mem {T : List Prefix} {i : Nat} (h : i < T.length) : pAt T i ∈ T := by
 rw [pAt_get h]; exact List.getElem_mem h
theorem mem_pAt {T : List Prefix} {p : Prefix} (h : p ∈ T) : ∃ i, i < T.length ∧ p = pAt T i := by
 obtain ⟨i, hi, rfl⟩ := List.getElem_of_mem h
 exact ⟨i, hi, (pAt_get hi).symm⟩
def keyP (p : Prefix) : air_key := { text_ := p.Text, whole_ := p.Whole }
def dayIn (p : Prefix) (d : Int) : Bool := decide (p.From ≤ d) && decide (d ≤ p.To)
def okC (W : Bool) (b : UInt8) : Bool := isE b || (W && decide (b = 47))
def lenB (s : List UInt8) : Bool := decide ((1 : Int) ≤ (s.length : Int)) && decide ((s.length : Int) ≤ 16)
def inI (x lo hi : Int) : Bool := decide (lo ≤ x) && decide (x ≤ hi)
def rowB (p : Prefix) : Bool := (p.Text.all (okC p.Whole) && lenB p.Text) && (inI p.Country 1 65535 && (inI p.Zone 1 99 && (inI p.Continent 1 7 && (inI p.From 0 p.To && decide (p.To ≤ 99999)))))
structure PreR (p : Prefix) : Prop where
 text : p.Text.all (okC p.Whole) = true
 l1 : 1 ≤ p.Text.length
 l2 : p.Text.length ≤ 16
 c1 : 1 ≤ p.Country
 f0 : 0 ≤ p.From
 ft : p.From ≤ p.To
 tle : p.To ≤ 99999
theorem rowB_ok {p : Prefix} (h : rowB p = true) : PreR p := by
 unfold rowB lenB inI at h
 simp only [Bool.and_eq_true, decide_eq_true_eq] at h
 obtain ⟨⟨h1, h2, h3⟩, ⟨h4, _⟩, _, _, ⟨h5, h6⟩, h7⟩ := h
 exact ⟨h1, by omega, by omega, h4, h5, h6, h7⟩
section
variable {N : Nat}
theorem predR (p : Prefix) : PredIs (fun y0 => air_validRow_1 N y0 p) (okC p.Whole) := by
 refine ⟨fun b hb => ?_, fun n hn => ?_, fun b hb => ?_⟩
 ·unfold air_validRow_1 okC
  rw [m_either, Option.bind_some, byte_eq b 47 47 rfl]
  cases isE b <;> cases p.Whole <;> rfl
 ·unfold air_validRow_1
  rw [m_either_big N hn, Option.bind_some, cond_false]
  have : ((n : Int) == 47) = false := by rw [beq_eq_false_iff_ne]; omega
  rw [this]
  cases p.Whole <;> rfl
 ·unfold okC
  have : decide (b = 47) = false := by
   rw [decide_eq_false_iff_not]; rintro rfl; revert hb; decide
  rw [isE_lt hb, this, Bool.and_false]; rfl
theorem s_row {p : Prefix} (hl : p.Text.length < N) : air_validRow N p = some (rowB p) := by
 unfold air_validRow rowB
 rw [only_spec (predR p) p.Text 16 hl, Option.bind_some]
 simp only [m_within, Option.bind_some]
 have e : (p.Text.all (okC p.Whole) && (decide (1 ≤ (p.Text.length : Int)) && decide ((p.Text.length : Int) ≤ 16))) = (p.Text.all (okC p.Whole) && lenB p.Text) := rfl
 rw [e]
 unfold inI
 cases (p.Text.all (okC p.Whole) && lenB p.Text) <;> cases (decide (1 ≤ p.Country) && decide (p.Country ≤ 65535)) <;> cases (decide (1 ≤ p.Zone) && decide (p.Zone ≤ 99)) <;> cases (decide (1 ≤ p.Continent) && decide (p.Continent ≤ 7)) <;> cases (decide (0 ≤ p.From) && decide (p.From ≤ p.To)) <;> rfl
theorem m_contains_pre {l : List Prefix} {p : Prefix → Option Bool} (F : Prefix → Bool) (hp : ∀ x, x ∈ l → p x = some (F x)) (hl : l.length < 4000000000) (hN : 4294967300 < N) : slices_ContainsFunc_api_Prefix_api_Prefix N l p = some (l.any F) := by
 unfold slices_ContainsFunc_api_Prefix_api_Prefix slices_IndexFunc_api_Prefix_api_Prefix
 rcases iter_check2 (body := slices_IndexFunc_api_Prefix_api_Prefix_L0 N l p) (n := l.length) (fun i => !((l[i]?.map F).getD false)) (fun i => (i : Int)) (by
   intro i hi
   unfold slices_IndexFunc_api_Prefix_api_Prefix_L0
   rw [lt_dec hi, cond_true, idx_nat hi, Option.bind_some, hp _ (List.getElem_mem hi), Option.bind_some, w64s i (by omega), List.getElem?_eq_getElem hi]
   simp only [Option.map_some, Option.getD_some]
   cases F l[i] <;> rfl) (by
   unfold slices_IndexFunc_api_Prefix_api_Prefix_L0
   rw [lt_dec', cond_false]) (N := N) (by omega) with ⟨g1, g2⟩ | ⟨i, hi, g1, _, g2⟩
 ·rw [g2]
  have : l.any F = false := by
   rw [List.any_eq_false]
   intro x hx
   obtain ⟨i, hi, rfl⟩ := List.getElem_of_mem hx
   have := g1 i hi
   rw [List.getElem?_eq_getElem hi] at this
   simpa using this
  rw [this]; rfl
 ·rw [g2]
  have : l.any F = true := by
   rw [List.any_eq_true]
   rw [List.getElem?_eq_getElem hi] at g1
   exact ⟨l[i], List.getElem_mem hi, by simpa using g1⟩
  rw [this]
  show some (decide ((i : Int) ≥ 0)) = some true
  rw [decide_eq_true (by omega)]
def rowsB (T : List Prefix) : Bool := decide (T.length ≤ 400) && T.all rowB
def fitT (N : Nat) (T : List Prefix) : Prop := T.length < 4000000000 ∧ ∀ p, p ∈ T → p.Text.length < N ∧ p.Text.length < 4611686018427387904
variable {T : List Prefix}
theorem s_rows (hT : fitT N T) (hN : 4294967300 < N) : air_rows N T = some (rowsB T) := by
 unfold air_rows rowsB
 have e : decide ((T.length : Int) ≤ 400) = decide (T.length ≤ 400) := by rw [decide_eq_decide]; omega
 rw [e, m_contains_pre (fun p => !rowB p) (fun x hx => by unfold air_rows_1; rw [s_row (hT.2 x hx).1]; rfl) hT.1 hN]
 have : (!T.any fun p => !rowB p) = T.all rowB := by simp [List.any_eq_not_all_not]
 simp only [Option.bind_some, this]
 cases decide (T.length ≤ 400) <;> rfl
theorem rowsB_ok (h : rowsB T = true) : T.length ≤ 400 ∧ ∀ p, p ∈ T → PreR p := by
 unfold rowsB at h
 simp only [Bool.and_eq_true, decide_eq_true_eq] at h
 exact ⟨h.1, fun p hp => rowB_ok (List.all_eq_true.1 h.2 p hp)⟩
theorem mget_mput {α β : Type} [DecidableEq α] (k k' : α) (v : β) (l : List (α × β)) : mget (mput l k v) k' = if k' = k then some v else mget l k' := by
 induction l with
 | nil => simp only [mput, mget]
 | cons p l ih =>
  simp only [mput]
  by_cases h : k = p.1
  ·rw [if_pos h]
   simp only [mget]
   by_cases h' : k' = k
   ·rw [if_pos h', if_pos h']
   ·rw [if_neg h', if_neg h', if_neg (by rw [← h]; exact h')]
  ·rw [if_neg h]
   simp only [mget]
   by_cases h' : k' = p.1
   ·rw [if_pos h', if_pos h', if_neg (by intro hh; exact h (by rw [← hh, h']))]
   ·rw [if_neg h', if_neg h']; exact ih
theorem mgetD_mput {α β : Type} [DecidableEq α] (k k' : α) (v z : β) (l : List (α × β)) : mgetD (mput l k v) k' z = if k' = k then v else mgetD l k' z := by
 unfold mgetD
 rw [mget_mput]
 by_cases h : k' = k
 ·rw [if_pos h, if_pos h]; rfl
 ·rw [if_neg h, if_neg h]
def keyIdx (T : List Prefix) (k : air_key) (n : Nat) : List Int := ((List.range n).filter fun i => decide (keyP (pAt T i) = k)).map fun i : Nat => (i : Int)
theorem keyIdx_len (T : List Prefix) (k : air_key) (n : Nat) : (keyIdx T k n).length ≤ n := by
 unfold keyIdx
 rw [List.length_map]
 exact Nat.le_trans (List.length_filter_le _ _) (by simp)
theorem s_tableOf (h : T.length ≤ 400) (hN : 4294967300 < N) : ∃ m, air_tableOf N T = some m ∧ ∀ k, mgetD m k [] = keyIdx T k T.length := by
 unfold air_tableOf
 obtain ⟨o, ho, j, m, rfl, hm⟩ := iter_ex (body := air_tableOf_L0 N T) T.length (fun i s => s.1 = (i : Int) ∧ ∀ k, mgetD s.2 k [] = keyIdx T k i) (fun o => ∃ j m, o = .done (j, m) ∧ ∀ k, mgetD m k [] = keyIdx T k T.length) (by
  rintro i ⟨s1, s2⟩ hi ⟨hs1, hs2⟩
  simp only at hs1 hs2
  subst hs1
  by_cases h1 : i < T.length
  ·refine .inl ⟨(((i + 1 : Nat) : Int), mput s2 (keyP (pAt T i)) (keyIdx T (keyP (pAt T i)) i ++ [(i : Int)])), ?_, ⟨rfl, ?_⟩, h1⟩
   ·unfold air_tableOf_L0
    simp only
    rw [lt_dec h1, cond_true, idx_p h1, Option.bind_some]
    have e1 : air_keyOf N (pAt T i) = some (keyP (pAt T i)) := rfl
    rw [e1, Option.bind_some, Option.bind_some, hs2]
    have := keyIdx_len T (keyP (pAt T i)) i
    rw [apnd_ok (by simp; omega), Option.bind_some, Option.bind_some, w64s i (by omega)]
   ·intro k
    simp only
    rw [mgetD_mput]
    have e : keyIdx T k (i + 1) = keyIdx T k i ++ (if keyP (pAt T i) = k then [(i : Int)] else []) := by
     unfold keyIdx
     rw [List.range_succ, List.filter_append, List.map_append]
     congr 1
     by_cases hk : keyP (pAt T i) = k <;> simp [hk]
    rw [e]
    by_cases hk : k = keyP (pAt T i)
    ·rw [if_pos hk, if_pos hk.symm, hk]
    ·rw [if_neg hk, if_neg (fun hh => hk hh.symm), hs2, List.append_nil]
  ·have : i = T.length := by omega
   subst this
   refine .inr ⟨.done ((T.length : Int), s2), ?_, (fun _ h => by cases h), _, s2, rfl, hs2⟩
   unfold air_tableOf_L0
   simp only
   rw [lt_dec', cond_false]) T.length N 0 (0, []) (by omega) ⟨rfl, fun k => rfl⟩ (by omega)
 rw [ho]
 exact ⟨m, rfl, hm⟩
theorem filter_first {ρ : Type} (p q : Nat → Bool) (g : Nat → ρ) : ∀ l : List Nat, ((l.filter p).map fun i : Nat => (i : Int)).findSome? (fun x => if q x.toNat = true then some (g x.toNat) else none) = l.findSome? (fun i => if (p i && q i) = true then some (g i) else none)
 | [] => rfl
 | i :: l => by
  have ih := filter_first p q g l
  rw [List.filter_cons, List.findSome?_cons]
  cases hp : p i with
  | false => simp only [Bool.false_eq_true, if_false, Bool.false_and]; exact ih
  | true =>
   simp only [if_true, List.map_cons, List.findSome?_cons, Int.toNat_natCast, Bool.true_and]
   cases hq : q i with
   | false => simp only [Bool.false_eq_true, if_false]; exact ih
   | true => rfl
theorem keyIdx_mem {k : air_key} {n : Nat} {x : Int} (h : x ∈ keyIdx T k n) : ∃ i : Nat, x = (i : Int) ∧ i < n ∧ keyP (pAt T i) = k := by
 unfold keyIdx at h
 obtain ⟨i, hi, rfl⟩ := List.mem_map.1 h
 rw [List.mem_filter, List.mem_range, decide_eq_true_eq] at hi
 exact ⟨i, rfl, hi.1, hi.2⟩
def atK (T : List Prefix) (k : air_key) (d : Int) : Option Nat := firstN T.length (fun i => if (decide (keyP (pAt T i) = k) && dayIn (pAt T i) d) = true then some i else none) 0
def toI (o : Option Nat) : Int := o.elim (-1) fun i => (i : Int)
theorem s_row1 {m : List (air_key × List Int)} (hm : ∀ k, mgetD m k [] = keyIdx T k T.length) (h : T.length ≤ 400) (hN : 4294967300 < N) (k : air_key) (d : Int) : air_table_row_1 N k m d T = some (toI (atK T k d)) := by
 unfold air_table_row_1
 have hl := keyIdx_len T k T.length
 rw [iter_first (l := keyIdx T k T.length) (body := air_table_row_1_L0 N k m d T) (fun x => if dayIn (pAt T x.toNat) d = true then some ((x.toNat : Nat) : Int) else none) (by
  intro i hi
  unfold air_table_row_1_L0
  rw [hm, lt_dec hi, cond_true, idx_nat hi, Option.bind_some]
  obtain ⟨j, hj, hjn, _⟩ := keyIdx_mem (List.getElem_mem hi)
  rw [hj, idx_p hjn, Option.bind_some, Option.bind_some, m_within, Option.bind_some, Option.bind_some, w64s i (by omega), Int.toNat_natCast]
  unfold dayIn
  cases (decide ((pAt T j).From ≤ d) && decide (d ≤ (pAt T j).To)) <;> rfl) (by
  unfold air_table_row_1_L0
  rw [hm, lt_dec', cond_false]) (by omega)]
 unfold keyIdx
 rw [filter_first (fun i => decide (keyP (pAt T i) = k)) (fun i => dayIn (pAt T i) d) (fun i : Nat => (i : Int))]
 have e : (List.range T.length).findSome? (fun i => if (decide (keyP (pAt T i) = k) && dayIn (pAt T i) d) = true then some ((i : Nat) : Int) else none) = (atK T k d).map fun i : Nat => (i : Int) := by
  unfold atK firstN
  rw [List.drop_zero, List.map_findSome?]
  congr 1
  funext i
  simp only [Function.comp]
  cases (decide (keyP (pAt T i) = k) && dayIn (pAt T i) d) <;> rfl
 rw [e]
 unfold toI
 cases atK T k d <;> rfl
end
end Go.Proofs.YtlddakefmfcblaaGreatDoor
namespace Go.Proofs.YtlddakefmfcblaaGreatDoor
open Go.Proofs
def air_padded (N : Nat) (x0 : Int) (x1 : Int) : Option (List UInt8) :=
 ((strconv_Itoa N x0).bind fun r1 => ((strings_Repeat N ([48] : List UInt8) (max 0 (W64 (x1 - (r1.length : Int))))).bind fun r9 => ((sadd r9 r1).bind fun r17 => some r17)))
theorem co_air_padded : CallOk Tryz.prog 75 := fun _ _ => by kernel_rfl
set_option maxHeartbeats 4000000 in
set_option maxRecDepth 100000 in
theorem c_air_padded (N : Nat) (w0 : World) (F0 : Mem) (hF : ∀ b o, F0 b = some o → w0.heap[b]? = some o) (hG : Glob F0) (x0 : Int) (x1 : Int) (r : (List UInt8)) (h : air_padded N x0 x1 = some r) :
  Calls Tryz.prog 75 ([(vi x0), (vi x1)] : List Value).toArray w0 (FRet w0 F0 fun F' v => v = (.string ⟨(r).toArray⟩)) := by
 have hs0 := HS.start hF
 refine calls_of (n := 16) (c := bodyOf Tryz.f75) Tryz.func75 (by kernel_rfl) (by kernel_rfl) (by kernel_rfl) ?_
 refine Sq (Rg [0] ?_)
 refine V 4 9 (mc (.string ⟨([] : List UInt8).toArray⟩) (.string ⟨(([] : List UInt8)).toArray⟩)) ?_
 refine Nss (Rg [0, 1, 2] ?_)
 refine V 6 3 (mv 0 (vi x0)) ?_
 obtain ⟨r1, hr2, h3⟩ := bind_some h
 refine Cl 7 9 74 #[(.tmp 6)] #[3] co_strconv_Itoa hs0 (c_strconv_Itoa N w0 F0 hs0.pers hG (x0) _ hr2) ?_
 intro v4 F1 w5 hs6 le7 hp8
 obtain rfl := hp8
 refine V 5 9 (ma 7 (.string ⟨(r1).toArray⟩)) ?_
 refine Nss (Rg [0, 1, 2, 3, 4, 5, 6, 7, 8] ?_)
 refine V 8 3 (mv 1 (vi x1)) ?_
 refine V 9 9 (mv 5 (.string ⟨(r1).toArray⟩)) ?_
 refine V 10 3 (run_slen (x := (.tmp 9)) (ats := #[9]) (t := 9) (a := r1) rfl rfl (by kernel_rfl)) ?_
 refine V 11 3 (run_sub (t := 3) (t' := 3) (x := (.tmp 8)) (y := (.tmp 10)) (k := .i64) (a := x1) (b := (r1.length : Int)) rfl rfl) ?_
 refine V 12 3 (run_max2 (x := (.const (vi 0))) (y := (.tmp 11)) (ats := #[3, 3]) (a := 0) (b := (W64 (x1 - (r1.length : Int)))) rfl rfl) ?_
 obtain ⟨r9, hr10, h11⟩ := bind_some h3
 refine Cl 13 9 110 #[(.const (.string ⟨([48] : List UInt8).toArray⟩)), (.tmp 12)] #[9, 3] co_strings_Repeat hs6 (c_strings_Repeat N w5 F1 hs6.pers (([48] : List UInt8)) ((max 0 (W64 (x1 - (r1.length : Int))))) _ hr10) ?_
 intro v12 F2 w13 hs14 le15 hp16
 obtain rfl := hp16
 refine V 14 9 (mv 5 (.string ⟨(r1).toArray⟩)) ?_
 obtain ⟨r17, hr18, h19⟩ := bind_some h11
 refine V 15 9 (run_sadd (t := 9) (t' := 9) (x := (.tmp 13)) (y := (.tmp 14)) (a := r9) (b := r1) (v := r17) rfl rfl hr18) ?_
 refine V 4 9 (ma 15 (.string ⟨(r17).toArray⟩)) ?_
 refine Nt ?_
 refine CWP.ret (by kernel_rfl) ?_
 have hfin := some_inj h19
 subst hfin
 exact ⟨rfl, (.string ⟨(r17).toArray⟩), res_of (l := [.tmp 4]) (by kernel_rfl) (vs := [(.string ⟨(r17).toArray⟩)]) ⟨rfl, trivial⟩, (.string ⟨(r17).toArray⟩), F2, rfl, hs14.clear, rfl⟩
end Go.Proofs.YtlddakefmfcblaaGreatDoor
namespace Go.Proofs.YtlddakefmfcblaaGreatDoor
open Go.Proofs
end Go.Proofs.YtlddakefmfcblaaGreatDoor
namespace Go.Proofs.YtlddakefmfcblaaGreatDoor
open Go.Proofs
def air_number (N : Nat) (x0 : (List UInt8)) : Option Int :=
 ((air_only N x0 9 (fun y0 => air_digit N y0)).bind fun r1 => (bif (!r1) then some (-1) else ((strconv_Atoi N x0).bind fun r12 => some r12.1)))
theorem co_air_number : CallOk Tryz.prog 78 := fun _ _ => by kernel_rfl
set_option maxHeartbeats 4000000 in
set_option maxRecDepth 100000 in
theorem c_air_number (N : Nat) (w0 : World) (F0 : Mem) (hF : ∀ b o, F0 b = some o → w0.heap[b]? = some o) (x0 : (List UInt8)) (r : Int) (h : air_number N x0 = some r) :
  Calls Tryz.prog 78 ([(.string ⟨(x0).toArray⟩)] : List Value).toArray w0 (FRet w0 F0 fun F' v => v = (vi r)) := by
 have hs0 := HS.start hF
 refine calls_of (n := 14) (c := bodyOf Tryz.f78) Tryz.func78 (by kernel_rfl) (by kernel_rfl) (by kernel_rfl) ?_
 refine Sq (Rg [0] ?_)
 refine V 2 3 (mc (vi 0) (vi 0)) ?_
 refine Nss ?_
 refine Sq (Rg [0, 1, 2] ?_)
 refine V 5 9 (mv 0 (.string ⟨(x0).toArray⟩)) ?_
 obtain ⟨r1, hr2, h3⟩ := bind_some h
 refine Cl 6 4 65 #[(.tmp 5), (.const (vi 9)), (.func 64)] #[9, 3, 84] co_air_only hs0 (c_air_only N w0 F0 hs0.pers (x0) (9) 64 [] [] (fun y0 => air_digit N y0) co_air_digit (fun w1 F1 y0 r le1 pe1 hr1 => c_air_digit N w1 F1 pe1  y0  r hr1) _ hr2) ?_
 intro v4 F1 w5 hs6 le7 hp8
 obtain rfl := hp8
 refine V 7 4 (run_not (t := 4) (x := (.tmp 6)) (a := r1) rfl) ?_
 refine Nt ?_
 refine CWP.cond (t := (!r1)) (by kernel_rfl) rfl (fun hb9 => ?_) (fun hb9 => ?_)
 ·have h10 := cond_t h3 hb9
  refine Sq (Rg [0] ?_)
  refine V 2 3 (mc (vi (-1)) (vi (-1))) ?_
  refine Nt ?_
  refine CWP.ret (by kernel_rfl) ?_
  refine thenQ_ret ?_
  have hfin := some_inj h10
  subst hfin
  exact ⟨rfl, (vi (-1)), res_of (l := [.tmp 2]) (by kernel_rfl) (vs := [(vi (-1))]) ⟨rfl, trivial⟩, (vi (-1)), F1, rfl, hs6.clear, rfl⟩
 ·have h11 := cond_f h3 hb9
  refine Sc ?_
  refine thenQ_nrm ?_
  refine Sq (Rg [0, 1, 2, 3, 4, 5, 6] ?_)
  refine V 9 9 (mv 0 (.string ⟨(x0).toArray⟩)) ?_
  obtain ⟨r12, hr13, h14⟩ := bind_some h11
  refine Cl 10 140 112 #[(.tmp 9)] #[9] co_strconv_Atoi hs6 (c_strconv_Atoi N w5 F1 hs6.pers (x0) _ hr13) ?_
  intro v15 F2 w16 hs17 le18 hp19
  obtain ⟨vr12_1_0, rfl, her12_1_0⟩ := hp19
  refine V 8 140 (mv 10 (.tuple #[(vi r12.1), vr12_1_0])) ?_
  refine V 11 3 (ex 8 0 (vi r12.1) (vs := #[(vi r12.1), vr12_1_0])) ?_
  refine V 12 139 (ex 8 1 vr12_1_0 (vs := #[(vi r12.1), vr12_1_0])) ?_
  refine V 3 3 (ma 11 (vi r12.1)) ?_
  refine V 4 139 (ma 12 vr12_1_0) ?_
  refine Nss (Rg [0, 1] ?_)
  refine V 13 3 (mv 3 (vi r12.1)) ?_
  refine V 2 3 (ma 13 (vi r12.1)) ?_
  refine Nt ?_
  refine CWP.ret (by kernel_rfl) ?_
  have hfin := some_inj h14
  subst hfin
  exact ⟨rfl, (vi r12.1), res_of (l := [.tmp 2]) (by kernel_rfl) (vs := [(vi r12.1)]) ⟨rfl, trivial⟩, (vi r12.1), F2, rfl, hs17.clear, rfl⟩
end Go.Proofs.YtlddakefmfcblaaGreatDoor
namespace Go.Proofs.YtlddakefmfcblaaGreatDoor
open Go.Proofs
end Go.Proofs.YtlddakefmfcblaaGreatDoor
namespace Go.Proofs.YtlddakefmfcblaaGreatDoor
open Go.Lib (decDigits)
def numF (a : Nat) (l : List UInt8) : Nat := l.foldl (fun a b => 10 * a + (b.toNat - 48)) a
def numV (l : List UInt8) : Nat := numF 0 l
theorem numF_cons (a : Nat) (b : UInt8) (l : List UInt8) : numF a (b :: l) = numF (10 * a + (b.toNat - 48)) l := by unfold numF; rw [List.foldl_cons]
theorem numF_snoc (a : Nat) (l : List UInt8) (b : UInt8) : numF a (l ++ [b]) = 10 * numF a l + (b.toNat - 48) := by unfold numF; rw [List.foldl_append]; rfl
theorem numV_snoc (l : List UInt8) (b : UInt8) : numV (l ++ [b]) = 10 * numV l + (b.toNat - 48) := numF_snoc 0 l b
theorem isD_val {b : UInt8} (h : isD b = true) : 48 ≤ b.toNat ∧ b.toNat ≤ 57 := by
 unfold isD at h
 simpa only [Bool.and_eq_true, decide_eq_true_eq] using h
theorem numF_lt (l : List UInt8) : ∀ (a k : Nat), l.all isD = true → a < 10 ^ k → numF a l < 10 ^ (k + l.length) := by
 induction l with
 | nil => intro a k _ h; exact h
 | cons b l ih =>
  intro a k hd h
  rw [numF_cons]
  simp only [List.all_cons, Bool.and_eq_true] at hd
  have hb := isD_val hd.1
  have hp : 10 ^ (k + 1) = 10 ^ k * 10 := Nat.pow_succ ..
  have := ih (10 * a + (b.toNat - 48)) (k + 1) hd.2 (by omega)
  rw [List.length_cons, show k + (l.length + 1) = k + 1 + l.length by omega]
  exact this
theorem numV_lt {l : List UInt8} (h : l.all isD = true) : numV l < 10 ^ l.length := by
 have := numF_lt l 0 0 h (by decide)
 simpa [numV] using this
theorem dig {b : UInt8} (h : isD b = true) : Go.Lib.digitVal b = some (b.toNat - 48) := by
 unfold isD at h
 simp only [Bool.and_eq_true, decide_eq_true_eq] at h
 unfold Go.Lib.digitVal
 rw [if_pos h]
theorem decFrom_numF : ∀ (l : List UInt8) (a : Nat), l.all isD = true → Go.Lib.decFrom a l = some (numF a l)
 | [], a, _ => rfl
 | b :: l, a, h => by
  simp only [List.all_cons, Bool.and_eq_true] at h
  unfold Go.Lib.decFrom
  rw [dig h.1, numF_cons, Nat.mul_comm 10 a]
  exact decFrom_numF l _ h.2
theorem atoi_num {l : List UInt8} (h : l.all isD = true) (hn : 1 ≤ l.length) : Go.Lib.atoi l = some (numV l : Int) := by
 match l, h, hn with
 | b :: r, h, _ =>
  have hb := h
  simp only [List.all_cons, Bool.and_eq_true] at hb
  have h1 : (b == 45) = false := by rw [beq_eq_false_iff_ne]; rintro rfl; exact absurd hb.1 (by decide)
  have h2 : (b == 43) = false := by rw [beq_eq_false_iff_ne]; rintro rfl; exact absurd hb.1 (by decide)
  unfold Go.Lib.atoi
  simp only [h1, h2, Bool.false_eq_true, if_false]
  unfold Go.Lib.decNat
  simp only [List.isEmpty_cons, Bool.false_eq_true, if_false]
  rw [decFrom_numF _ _ h]
  rfl
def numB (s : List UInt8) : Bool := s.all isD && wiB s.length 1 9
def numS (s : List UInt8) : Int := if numB s = true then (numV s : Int) else -1
theorem pow10_9 {k : Nat} (h : k ≤ 9) : 10 ^ k ≤ 1000000000 := Nat.le_trans (Nat.pow_le_pow_right (by decide) h) (by decide)
theorem numB_lt {s : List UInt8} (h : numB s = true) : numV s < 1000000000 ∧ 1 ≤ s.length ∧ s.length ≤ 9 ∧ s.all isD = true := by
 unfold numB wiB at h
 simp only [Bool.and_eq_true, decide_eq_true_eq] at h
 exact ⟨Nat.lt_of_lt_of_le (numV_lt h.1) (pow10_9 h.2.2), h.2.1, h.2.2, h.1⟩
section
variable {N : Nat} {s : List UInt8}
theorem m_number (hN : s.length < N) : air_number N s = some (numS s) := by
 unfold air_number numS
 rw [only_spec (predD N) s 9 hN, Option.bind_some, show (decide ((1 : Int) ≤ (s.length : Int)) && decide ((s.length : Int) ≤ (9 : Int))) = wiB s.length 1 9 from within_nat _ 1 9]
 have e : (s.all isD && wiB s.length 1 9) = numB s := rfl
 rw [e]
 cases h : numB s with
 | false => rfl
 | true =>
  have hl := numB_lt h
  rw [Bool.not_true, cond_false, if_pos rfl]
  unfold strconv_Atoi
  rw [if_pos (by omega), atoi_num hl.2.2.2 hl.2.1]
  rfl
end
def dByte (d : Nat) : UInt8 := UInt8.ofNat (48 + d)
theorem dByte_toNat {d : Nat} (h : d < 10) : (dByte d).toNat = 48 + d := by unfold dByte; rw [UInt8.toNat_ofNat']; omega
theorem dByte_D {d : Nat} (h : d < 10) : isD (dByte d) = true := by unfold isD; rw [dByte_toNat h]; simp; omega
theorem dd_small {u : Nat} (h : u < 10) : decDigits u = [dByte u] := by rw [decDigits, dif_pos h]; rfl
theorem dd_big {u : Nat} (h : ¬ u < 10) : decDigits u = decDigits (u / 10) ++ [dByte (u % 10)] := by
 conv => lhs; rw [decDigits, dif_neg h]
 rfl
theorem dd_pos (u : Nat) : 1 ≤ (decDigits u).length := by
 by_cases h : u < 10
 ·rw [dd_small h]; simp
 ·rw [dd_big h]; simp
theorem dd_all (u : Nat) : (decDigits u).all isD = true := by
 induction u using Nat.strongRecOn with
 | _ u ih =>
  by_cases h : u < 10
  ·rw [dd_small h]; simp [dByte_D h]
  ·rw [dd_big h, List.all_append, ih (u / 10) (by omega)]
   simp [dByte_D (Nat.mod_lt u (by decide : 0 < 10))]
theorem dd_num (u : Nat) : numV (decDigits u) = u := by
 induction u using Nat.strongRecOn with
 | _ u ih =>
  by_cases h : u < 10
  ·rw [dd_small h]
   show 10 * 0 + ((dByte u).toNat - 48) = u
   rw [dByte_toNat h]; omega
  ·rw [dd_big h, numV_snoc, ih (u / 10) (by omega), dByte_toNat (Nat.mod_lt u (by decide : 0 < 10))]; omega
theorem dd_len : ∀ (k u : Nat), u < 10 ^ (k + 1) → (decDigits u).length ≤ k + 1
 | 0, u, h => by rw [dd_small (by simpa using h)]; simp
 | k + 1, u, h => by
  by_cases hu : u < 10
  ·rw [dd_small hu]; simp
  ·rw [dd_big hu, List.length_append]
   have := dd_len k (u / 10) (by rw [Nat.pow_succ] at h; omega)
   simp; omega
def dP (k u : Nat) : List UInt8 := List.replicate (k - (decDigits u).length) 48 ++ decDigits u
theorem dP_all (k u : Nat) : (dP k u).all isD = true := by
 unfold dP
 rw [List.all_append, dd_all, Bool.and_true, List.all_eq_true]
 intro b hb
 rw [List.eq_of_mem_replicate hb]; decide
theorem numF_zeros (j : Nat) (l : List UInt8) : numF 0 (List.replicate j 48 ++ l) = numF 0 l := by
 induction j with
 | zero => rfl
 | succ j ih => rw [List.replicate_succ, List.cons_append, numF_cons]; exact ih
theorem dP_num (k u : Nat) : numV (dP k u) = u := by
 unfold dP numV
 rw [numF_zeros]
 exact dd_num u
theorem dP_len (k u : Nat) : k ≤ (dP k u).length ∧ 1 ≤ (dP k u).length := by
 unfold dP
 have := dd_pos u
 rw [List.length_append, List.length_replicate]
 omega
theorem dP_lenle {k j u : Nat} (h : u < 10 ^ (j + 1)) : (dP k u).length ≤ max k (j + 1) := by
 unfold dP
 have := dd_len j u h
 rw [List.length_append, List.length_replicate]
 omega
theorem repeat0 : ∀ n, Go.Lib.repeatL [48] n = List.replicate n 48
 | 0 => rfl
 | n + 1 => by unfold Go.Lib.repeatL; rw [repeat0 n]; rfl
section
variable {N : Nat}
theorem m_Itoa (u : Nat) (h : u ≤ 1000000000) : strconv_Itoa N (u : Int) = some (decDigits u) := by
 unfold strconv_Itoa
 rw [if_pos (by omega), Go.Lib.itoa_nonneg]
theorem m_padded (u k : Nat) (h : u ≤ 1000000000) (hk : k ≤ 100) : air_padded N (u : Int) (k : Int) = some (dP k u) := by
 unfold air_padded
 rw [m_Itoa u h, Option.bind_some]
 have hl : (decDigits u).length ≤ 10 := dd_len 9 u (by omega)
 rw [W64_id (by omega) (by omega)]
 have e : max (0 : Int) ((k : Int) - ((decDigits u).length : Int)) = ((k - (decDigits u).length : Nat) : Int) := by omega
 rw [e]
 unfold strings_Repeat
 rw [if_pos (by simp; omega), Option.bind_some, Int.toNat_natCast, repeat0]
 rw [sadd_some (by simp; omega)]
 rfl
end
end Go.Proofs.YtlddakefmfcblaaGreatDoor
namespace Go.Proofs.YtlddakefmfcblaaGreatDoor
open Go.Proofs
def air_PrintTime (N : Nat) (x0 : Int) : Option ((List UInt8) × Int) :=
 ((air_within N x0 0 20000).bind fun r1 => (bif (!r1) then some (([] : List UInt8), 1) else ((strconv_Itoa N (W64 ((W64 (Int.tdiv x0 1440)) + 1))).bind fun r12 => ((sadd r12 ([32] : List UInt8)).bind fun r20 => ((air_padded N (Int.tmod (W64 (Int.tdiv x0 60)) 24) 2).bind fun r23 => ((sadd r20 r23).bind fun r31 => ((air_padded N (Int.tmod x0 60) 2).bind fun r34 => ((sadd r31 r34).bind fun r42 => some (r42, 0)))))))))
theorem co_air_PrintTime : CallOk Tryz.prog 28 := fun _ _ => by kernel_rfl
set_option maxHeartbeats 4000000 in
set_option maxRecDepth 100000 in
theorem c_air_PrintTime (N : Nat) (w0 : World) (F0 : Mem) (hF : ∀ b o, F0 b = some o → w0.heap[b]? = some o) (hG : Glob F0) (x0 : Int) (r : ((List UInt8) × Int)) (h : air_PrintTime N x0 = some r) :
  Calls Tryz.prog 28 ([(vi x0)] : List Value).toArray w0 (FRet w0 F0 fun F' v => v = (.tuple #[(.string ⟨(r.1).toArray⟩), (vi r.2)])) := by
 have hs0 := HS.start hF
 refine calls_of (n := 21) (c := bodyOf Tryz.f28) Tryz.func28 (by kernel_rfl) (by kernel_rfl) (by kernel_rfl) ?_
 refine Sq (Rg [0, 1] ?_)
 refine V 2 9 (mc (.string ⟨([] : List UInt8).toArray⟩) (.string ⟨(([] : List UInt8)).toArray⟩)) ?_
 refine V 3 23 (mc (vi 0) (vi 0)) ?_
 refine Nss ?_
 refine Sq (Rg [0, 1, 2] ?_)
 refine V 4 3 (mv 0 (vi x0)) ?_
 obtain ⟨r1, hr2, h3⟩ := bind_some h
 refine Cl 5 4 73 #[(.tmp 4), (.const (vi 0)), (.const (vi 20000))] #[3, 3, 3] co_air_within hs0 (c_air_within N w0 F0 hs0.pers (x0) (0) (20000) _ hr2) ?_
 intro v4 F1 w5 hs6 le7 hp8
 obtain rfl := hp8
 refine V 6 4 (run_not (t := 4) (x := (.tmp 5)) (a := r1) rfl) ?_
 refine Nt ?_
 refine CWP.cond (t := (!r1)) (by kernel_rfl) rfl (fun hb9 => ?_) (fun hb9 => ?_)
 ·have h10 := cond_t h3 hb9
  refine Sq (Rg [0, 1] ?_)
  refine V 2 9 (mc (.string ⟨([] : List UInt8).toArray⟩) (.string ⟨(([] : List UInt8)).toArray⟩)) ?_
  refine V 3 23 (mc (vi 1) (vi 1)) ?_
  refine Nt ?_
  refine CWP.ret (by kernel_rfl) ?_
  refine thenQ_ret ?_
  have hfin := some_inj h10
  subst hfin
  exact ⟨rfl, (.tuple #[(.string ⟨(([] : List UInt8)).toArray⟩), (vi 1)]), res_of (l := [.tmp 2, .tmp 3]) (by kernel_rfl) (vs := [(.string ⟨(([] : List UInt8)).toArray⟩), (vi 1)]) ⟨rfl, ⟨rfl, trivial⟩⟩, (.tuple #[(.string ⟨(([] : List UInt8)).toArray⟩), (vi 1)]), F1, rfl, hs6.clear, rfl⟩
 ·have h11 := cond_f h3 hb9
  refine Sc ?_
  refine thenQ_nrm ?_
  refine Sq (Rg [0, 1, 2, 3, 4, 5, 6, 7, 8, 9, 10, 11, 12, 13, 14, 15] ?_)
  refine V 7 3 (mv 0 (vi x0)) ?_
  refine V 8 3 (run_quo (t := 3) (t' := 3) (x := (.tmp 7)) (y := (.const (vi 1440))) (k := .i64) (a := x0) (b := 1440) rfl rfl (by decide)) ?_
  refine V 9 3 (run_add (t := 3) (t' := 3) (x := (.tmp 8)) (y := (.const (vi 1))) (k := .i64) (a := (W64 (Int.tdiv x0 1440))) (b := 1) rfl rfl) ?_
  obtain ⟨r12, hr13, h14⟩ := bind_some h11
  refine Cl 10 9 74 #[(.tmp 9)] #[3] co_strconv_Itoa hs6 (c_strconv_Itoa N w5 F1 hs6.pers (hG.mono le7) ((W64 ((W64 (Int.tdiv x0 1440)) + 1))) _ hr13) ?_
  intro v15 F2 w16 hs17 le18 hp19
  obtain rfl := hp19
  obtain ⟨r20, hr21, h22⟩ := bind_some h14
  refine V 11 9 (run_sadd (t := 9) (t' := 9) (x := (.tmp 10)) (y := (.const (.string ⟨([32] : List UInt8).toArray⟩))) (a := r12) (b := ([32] : List UInt8)) (v := r20) rfl rfl hr21) ?_
  refine V 12 3 (mv 0 (vi x0)) ?_
  refine V 13 3 (run_quo (t := 3) (t' := 3) (x := (.tmp 12)) (y := (.const (vi 60))) (k := .i64) (a := x0) (b := 60) rfl rfl (by decide)) ?_
  refine V 14 3 (run_rem (t := 3) (t' := 3) (x := (.tmp 13)) (y := (.const (vi 24))) (k := .i64) (a := (W64 (Int.tdiv x0 60))) (b := 24) rfl rfl (by decide)) ?_
  obtain ⟨r23, hr24, h25⟩ := bind_some h22
  refine Cl 15 9 75 #[(.tmp 14), (.const (vi 2))] #[3, 3] co_air_padded hs17 (c_air_padded N w16 F2 hs17.pers (hG.mono (le7.trans le18)) ((Int.tmod (W64 (Int.tdiv x0 60)) 24)) (2) _ hr24) ?_
  intro v26 F3 w27 hs28 le29 hp30
  obtain rfl := hp30
  obtain ⟨r31, hr32, h33⟩ := bind_some h25
  refine V 16 9 (run_sadd (t := 9) (t' := 9) (x := (.tmp 11)) (y := (.tmp 15)) (a := r20) (b := r23) (v := r31) rfl rfl hr32) ?_
  refine V 17 3 (mv 0 (vi x0)) ?_
  refine V 18 3 (run_rem (t := 3) (t' := 3) (x := (.tmp 17)) (y := (.const (vi 60))) (k := .i64) (a := x0) (b := 60) rfl rfl (by decide)) ?_
  obtain ⟨r34, hr35, h36⟩ := bind_some h33
  refine Cl 19 9 75 #[(.tmp 18), (.const (vi 2))] #[3, 3] co_air_padded hs28 (c_air_padded N w27 F3 hs28.pers (hG.mono ((le7.trans le18).trans le29)) ((Int.tmod x0 60)) (2) _ hr35) ?_
  intro v37 F4 w38 hs39 le40 hp41
  obtain rfl := hp41
  obtain ⟨r42, hr43, h44⟩ := bind_some h36
  refine V 20 9 (run_sadd (t := 9) (t' := 9) (x := (.tmp 16)) (y := (.tmp 19)) (a := r31) (b := r34) (v := r42) rfl rfl hr43) ?_
  refine V 2 9 (ma 20 (.string ⟨(r42).toArray⟩)) ?_
  refine V 3 23 (mc (vi 0) (vi 0)) ?_
  refine Nt ?_
  refine CWP.ret (by kernel_rfl) ?_
  have hfin := some_inj h44
  subst hfin
  exact ⟨rfl, (.tuple #[(.string ⟨(r42).toArray⟩), (vi 0)]), res_of (l := [.tmp 2, .tmp 3]) (by kernel_rfl) (vs := [(.string ⟨(r42).toArray⟩), (vi 0)]) ⟨rfl, ⟨rfl, trivial⟩⟩, (.tuple #[(.string ⟨(r42).toArray⟩), (vi 0)]), F4, rfl, hs39.clear, rfl⟩
end Go.Proofs.YtlddakefmfcblaaGreatDoor
namespace Go.Proofs.YtlddakefmfcblaaGreatDoor
open Go.Proofs
end Go.Proofs.YtlddakefmfcblaaGreatDoor
namespace Go.Proofs.YtlddakefmfcblaaGreatDoor
open Go.Proofs
def air_ParseTime (N : Nat) (x0 : (List UInt8)) : Option (Int × Int) :=
 ((strings_Cut N x0 ([32] : List UInt8)).bind fun r1 => ((air_number N r1.1).bind fun r9 => ((air_number N r1.2.1).bind fun r17 => (bif ((decide (r9 < 1)) || ((decide (r9 > 20000)) || (decide (r17 < 0)))) then some (0, 13) else ((air_PrintTime N (W64 ((W64 ((W64 ((W64 (r9 - 1)) * 1440)) + (W64 ((W64 (Int.tdiv r17 100)) * 60)))) + (Int.tmod r17 100)))).bind fun r38 => (bif ((r38.2 != 0) || (r38.1 != x0)) then some (0, 13) else some ((W64 ((W64 ((W64 ((W64 (r9 - 1)) * 1440)) + (W64 ((W64 (Int.tdiv r17 100)) * 60)))) + (Int.tmod r17 100))), 0)))))))
theorem co_air_ParseTime : CallOk Tryz.prog 30 := fun _ _ => by kernel_rfl
set_option maxHeartbeats 4000000 in
set_option maxRecDepth 100000 in
theorem c_air_ParseTime (N : Nat) (w0 : World) (F0 : Mem) (hF : ∀ b o, F0 b = some o → w0.heap[b]? = some o) (hG : Glob F0) (x0 : (List UInt8)) (r : (Int × Int)) (h : air_ParseTime N x0 = some r) :
  Calls Tryz.prog 30 ([(.string ⟨(x0).toArray⟩)] : List Value).toArray w0 (FRet w0 F0 fun F' v => v = (.tuple #[(vi r.1), (vi r.2)])) := by
 have hs0 := HS.start hF
 refine calls_of (n := 55) (c := bodyOf Tryz.f30) Tryz.func30 (by kernel_rfl) (by kernel_rfl) (by kernel_rfl) ?_
 refine Sq (Rg [0, 1] ?_)
 refine V 2 3 (mc (vi 0) (vi 0)) ?_
 refine V 3 23 (mc (vi 0) (vi 0)) ?_
 refine Nss (Rg [0, 1, 2, 3, 4, 5, 6, 7, 8] ?_)
 refine V 13 9 (mv 0 (.string ⟨(x0).toArray⟩)) ?_
 obtain ⟨r1, hr2, h3⟩ := bind_some h
 refine Cl 14 96 77 #[(.tmp 13), (.const (.string ⟨([32] : List UInt8).toArray⟩))] #[9, 9] co_strings_Cut hs0 (c_strings_Cut N w0 F0 hs0.pers hG (x0) (([32] : List UInt8)) _ hr2) ?_
 intro v4 F1 w5 hs6 le7 hp8
 obtain rfl := hp8
 refine V 12 96 (mv 14 (.tuple #[(.string ⟨(r1.1).toArray⟩), (.string ⟨(r1.2.1).toArray⟩), (.bool r1.2.2)])) ?_
 refine V 15 9 (ex 12 0 (.string ⟨(r1.1).toArray⟩) (vs := #[(.string ⟨(r1.1).toArray⟩), (.string ⟨(r1.2.1).toArray⟩), (.bool r1.2.2)])) ?_
 refine V 16 9 (ex 12 1 (.string ⟨(r1.2.1).toArray⟩) (vs := #[(.string ⟨(r1.1).toArray⟩), (.string ⟨(r1.2.1).toArray⟩), (.bool r1.2.2)])) ?_
 refine V 17 4 (ex 12 2 (.bool r1.2.2) (vs := #[(.string ⟨(r1.1).toArray⟩), (.string ⟨(r1.2.1).toArray⟩), (.bool r1.2.2)])) ?_
 refine V 4 9 (ma 15 (.string ⟨(r1.1).toArray⟩)) ?_
 refine V 5 9 (ma 16 (.string ⟨(r1.2.1).toArray⟩)) ?_
 refine V 6 4 (ma 17 (.bool r1.2.2)) ?_
 refine Nss (Rg [0, 1, 2, 3, 4, 5] ?_)
 refine V 18 9 (mv 4 (.string ⟨(r1.1).toArray⟩)) ?_
 obtain ⟨r9, hr10, h11⟩ := bind_some h3
 refine Cl 19 3 78 #[(.tmp 18)] #[9] co_air_number hs6 (c_air_number N w5 F1 hs6.pers (r1.1) _ hr10) ?_
 intro v12 F2 w13 hs14 le15 hp16
 obtain rfl := hp16
 refine V 20 9 (mv 5 (.string ⟨(r1.2.1).toArray⟩)) ?_
 obtain ⟨r17, hr18, h19⟩ := bind_some h11
 refine Cl 21 3 78 #[(.tmp 20)] #[9] co_air_number hs14 (c_air_number N w13 F2 hs14.pers (r1.2.1) _ hr18) ?_
 intro v20 F3 w21 hs22 le23 hp24
 obtain rfl := hp24
 refine V 7 3 (ma 19 (vi r9)) ?_
 refine V 8 3 (ma 21 (vi r17)) ?_
 refine Nss ?_
 refine Sq (Rg [0, 1, 2, 3, 4, 5, 6, 7, 8, 9] ?_)
 refine RWP.cut (fun f w => ∃ (F4 : Mem), HS w0 F0 w F4 [] ∧ Mem.le F3 F4 ∧ f.d = [] ∧ f 0 = (.string ⟨(x0).toArray⟩) ∧ f 7 = (vi r9) ∧ f 8 = (vi r17) ∧ f 31 = (.bool ((decide (r9 < 1)) || ((decide (r9 > 20000)) || (decide (r17 < 0)))))) ?_ ?_
 ·refine V 22 3 (mv 7 (vi r9)) ?_
  refine V 23 4 (run_lss (t := 3) (t' := 3) (x := (.tmp 22)) (y := (.const (vi 1))) (k := .i64) (a := r9) (b := 1) rfl rfl) ?_
  refine V 24 4 (mv 23 (.bool (decide (r9 < 1)))) ?_
  refine RWP.split (decide (r9 < 1)) (fun hb33 => ?_) (fun hb33 => ?_)
  ·refine Sk [25, 26] 2 false 24 hb33 ?_
   refine V 27 4 (p1 24 (.const (.bool true)) (.tmp 26) (.bool true) hb33) ?_
   refine V 28 4 (mv 27 (.bool true)) ?_
   refine Sk [29, 30] 6 false 28 rfl ?_
   refine V 31 4 (p1 28 (.const (.bool true)) (.tmp 30) (.bool true) rfl) ?_
   exact RWP.nil ⟨rfl, F3, hs22, (Mem.le.refl _), rfl, rfl, rfl, rfl, (congrArg Value.bool (or_t hb33 (rfl)))⟩
  ·refine Vg 25 3 2 false 24 hb33 (mv 7 (vi r9)) ?_
   refine Vg 26 4 2 false 24 hb33 (run_gtr (t := 3) (t' := 3) (x := (.tmp 25)) (y := (.const (vi 20000))) (k := .i64) (a := r9) (b := 20000) rfl rfl) ?_
   refine V 27 4 (p0 24 (.const (.bool true)) (.tmp 26) (.bool (decide (r9 > 20000))) hb33) ?_
   refine V 28 4 (mv 27 (.bool (decide (r9 > 20000)))) ?_
   refine RWP.split (decide (r9 > 20000)) (fun hb34 => ?_) (fun hb34 => ?_)
   ·refine Sk [29, 30] 6 false 28 hb34 ?_
    refine V 31 4 (p1 28 (.const (.bool true)) (.tmp 30) (.bool true) hb34) ?_
    exact RWP.nil ⟨rfl, F3, hs22, (Mem.le.refl _), rfl, rfl, rfl, rfl, (congrArg Value.bool (or_f hb33 (or_t hb34 (rfl))))⟩
   ·refine Vg 29 3 6 false 28 hb34 (mv 8 (vi r17)) ?_
    refine Vg 30 4 6 false 28 hb34 (run_lss (t := 3) (t' := 3) (x := (.tmp 29)) (y := (.const (vi 0))) (k := .i64) (a := r17) (b := 0) rfl rfl) ?_
    refine V 31 4 (p0 28 (.const (.bool true)) (.tmp 30) (.bool (decide (r17 < 0))) hb34) ?_
    exact RWP.nil ⟨rfl, F3, hs22, (Mem.le.refl _), rfl, rfl, rfl, rfl, (congrArg Value.bool (or_f hb33 (or_f hb34 (rfl))))⟩
 ·rintro f w25 ⟨F4, hs26, le27, e28, e29, e30, e31, e32⟩
  refine thenQ_nrm ?_
  refine CWP.cond (t := ((decide (r9 < 1)) || ((decide (r9 > 20000)) || (decide (r17 < 0))))) (by kernel_rfl) e32 (fun hb35 => ?_) (fun hb35 => ?_)
  ·have h36 := cond_t h19 hb35
   refine Sq (Rg [0, 1] ?_)
   refine V 2 3 (mc (vi 0) (vi 0)) ?_
   refine V 3 23 (mc (vi 13) (vi 13)) ?_
   refine Nt ?_
   refine CWP.ret (by kernel_rfl) ?_
   refine thenQ_ret ?_
   have hfin := some_inj h36
   subst hfin
   exact ⟨e28, (.tuple #[(vi 0), (vi 13)]), res_of (l := [.tmp 2, .tmp 3]) (by kernel_rfl) (vs := [(vi 0), (vi 13)]) ⟨rfl, ⟨rfl, trivial⟩⟩, (.tuple #[(vi 0), (vi 13)]), F4, rfl, hs26.clear, rfl⟩
  ·have h37 := cond_f h19 hb35
   refine Sc ?_
   refine thenQ_nrm ?_
   refine Sq (Rg [0, 1, 2, 3, 4, 5, 6, 7, 8, 9, 10] ?_)
   refine V 32 3 (mv 7 (vi r9) e30) ?_
   refine V 33 3 (run_sub (t := 3) (t' := 3) (x := (.tmp 32)) (y := (.const (vi 1))) (k := .i64) (a := r9) (b := 1) rfl rfl) ?_
   refine V 34 3 (run_mul (t := 3) (t' := 3) (x := (.tmp 33)) (y := (.const (vi 1440))) (k := .i64) (a := (W64 (r9 - 1))) (b := 1440) rfl rfl) ?_
   refine V 35 3 (mv 8 (vi r17) e31) ?_
   refine V 36 3 (run_quo (t := 3) (t' := 3) (x := (.tmp 35)) (y := (.const (vi 100))) (k := .i64) (a := r17) (b := 100) rfl rfl (by decide)) ?_
   refine V 37 3 (run_mul (t := 3) (t' := 3) (x := (.tmp 36)) (y := (.const (vi 60))) (k := .i64) (a := (W64 (Int.tdiv r17 100))) (b := 60) rfl rfl) ?_
   refine V 38 3 (run_add (t := 3) (t' := 3) (x := (.tmp 34)) (y := (.tmp 37)) (k := .i64) (a := (W64 ((W64 (r9 - 1)) * 1440))) (b := (W64 ((W64 (Int.tdiv r17 100)) * 60))) rfl rfl) ?_
   refine V 39 3 (mv 8 (vi r17) e31) ?_
   refine V 40 3 (run_rem (t := 3) (t' := 3) (x := (.tmp 39)) (y := (.const (vi 100))) (k := .i64) (a := r17) (b := 100) rfl rfl (by decide)) ?_
   refine V 41 3 (run_add (t := 3) (t' := 3) (x := (.tmp 38)) (y := (.tmp 40)) (k := .i64) (a := (W64 ((W64 ((W64 (r9 - 1)) * 1440)) + (W64 ((W64 (Int.tdiv r17 100)) * 60))))) (b := (Int.tmod r17 100)) rfl rfl) ?_
   refine V 9 3 (ma 41 (vi (W64 ((W64 ((W64 ((W64 (r9 - 1)) * 1440)) + (W64 ((W64 (Int.tdiv r17 100)) * 60)))) + (Int.tmod r17 100))))) ?_
   refine Nss ?_
   refine Sq (Rg [0, 1, 2, 3, 4, 5, 6] ?_)
   refine V 43 3 (mv 9 (vi (W64 ((W64 ((W64 ((W64 (r9 - 1)) * 1440)) + (W64 ((W64 (Int.tdiv r17 100)) * 60)))) + (Int.tmod r17 100))))) ?_
   obtain ⟨r38, hr39, h40⟩ := bind_some h37
   refine Cl 44 24 28 #[(.tmp 43)] #[3] co_air_PrintTime hs26 (c_air_PrintTime N w25 F4 hs26.pers (hG.mono (((le7.trans le15).trans le23).trans le27)) ((W64 ((W64 ((W64 ((W64 (r9 - 1)) * 1440)) + (W64 ((W64 (Int.tdiv r17 100)) * 60)))) + (Int.tmod r17 100)))) _ hr39) ?_
   intro v41 F5 w42 hs43 le44 hp45
   obtain rfl := hp45
   refine V 42 24 (mv 44 (.tuple #[(.string ⟨(r38.1).toArray⟩), (vi r38.2)])) ?_
   refine V 45 9 (ex 42 0 (.string ⟨(r38.1).toArray⟩) (vs := #[(.string ⟨(r38.1).toArray⟩), (vi r38.2)])) ?_
   refine V 46 23 (ex 42 1 (vi r38.2) (vs := #[(.string ⟨(r38.1).toArray⟩), (vi r38.2)])) ?_
   refine V 10 9 (ma 45 (.string ⟨(r38.1).toArray⟩)) ?_
   refine V 11 23 (ma 46 (vi r38.2)) ?_
   refine Nss (Rg [0, 1, 2, 3, 4, 5, 6] ?_)
   refine RWP.cut (fun f w => ∃ (F6 : Mem), HS w0 F0 w F6 [] ∧ Mem.le F5 F6 ∧ f.d = [] ∧ f 9 = (vi (W64 ((W64 ((W64 ((W64 (r9 - 1)) * 1440)) + (W64 ((W64 (Int.tdiv r17 100)) * 60)))) + (Int.tmod r17 100)))) ∧ f 53 = (.bool ((r38.2 != 0) || (r38.1 != x0)))) ?_ ?_
   ·refine V 47 23 (mv 11 (vi r38.2)) ?_
    refine V 48 4 (run_neq (t := 23) (t' := 23) (x := (.tmp 47)) (y := (.const (vi 0))) (k := .i64) (a := r38.2) (b := 0) rfl rfl) ?_
    refine V 49 4 (mv 48 (.bool (r38.2 != 0))) ?_
    refine RWP.split (r38.2 != 0) (fun hb52 => ?_) (fun hb52 => ?_)
    ·refine Sk [50, 51, 52] 2 false 49 hb52 ?_
     refine V 53 4 (p1 49 (.const (.bool true)) (.tmp 52) (.bool true) hb52) ?_
     exact RWP.nil ⟨rfl, F5, hs43, (Mem.le.refl _), e28, rfl, (congrArg Value.bool (or_t hb52 (rfl)))⟩
    ·refine Vg 50 9 2 false 49 hb52 (mv 10 (.string ⟨(r38.1).toArray⟩)) ?_
     refine Vg 51 9 2 false 49 hb52 (mv 0 (.string ⟨(x0).toArray⟩) e29) ?_
     refine Vg 52 4 2 false 49 hb52 (run_scmp (t := 9) (t' := 9) (x := (.tmp 50)) (y := (.tmp 51)) (op := .neq) (a := r38.1) (b := x0) (v := (r38.1 != x0)) rfl rfl rfl) ?_
     refine V 53 4 (p0 49 (.const (.bool true)) (.tmp 52) (.bool (r38.1 != x0)) hb52) ?_
     exact RWP.nil ⟨rfl, F5, hs43, (Mem.le.refl _), e28, rfl, (congrArg Value.bool (or_f hb52 (rfl)))⟩
   ·rintro f w46 ⟨F6, hs47, le48, e49, e50, e51⟩
    refine thenQ_nrm ?_
    refine CWP.cond (t := ((r38.2 != 0) || (r38.1 != x0))) (by kernel_rfl) e51 (fun hb53 => ?_) (fun hb53 => ?_)
    ·have h54 := cond_t h40 hb53
     refine Sq (Rg [0, 1] ?_)
     refine V 2 3 (mc (vi 0) (vi 0)) ?_
     refine V 3 23 (mc (vi 13) (vi 13)) ?_
     refine Nt ?_
     refine CWP.ret (by kernel_rfl) ?_
     refine thenQ_ret ?_
     have hfin := some_inj h54
     subst hfin
     exact ⟨e49, (.tuple #[(vi 0), (vi 13)]), res_of (l := [.tmp 2, .tmp 3]) (by kernel_rfl) (vs := [(vi 0), (vi 13)]) ⟨rfl, ⟨rfl, trivial⟩⟩, (.tuple #[(vi 0), (vi 13)]), F6, rfl, hs47.clear, rfl⟩
    ·have h55 := cond_f h40 hb53
     refine Sc ?_
     refine thenQ_nrm ?_
     refine Sq (Rg [0, 1, 2] ?_)
     refine V 54 3 (mv 9 (vi (W64 ((W64 ((W64 ((W64 (r9 - 1)) * 1440)) + (W64 ((W64 (Int.tdiv r17 100)) * 60)))) + (Int.tmod r17 100)))) e50) ?_
     refine V 2 3 (ma 54 (vi (W64 ((W64 ((W64 ((W64 (r9 - 1)) * 1440)) + (W64 ((W64 (Int.tdiv r17 100)) * 60)))) + (Int.tmod r17 100))))) ?_
     refine V 3 23 (mc (vi 0) (vi 0)) ?_
     refine Nt ?_
     refine CWP.ret (by kernel_rfl) ?_
     have hfin := some_inj h55
     subst hfin
     exact ⟨e49, (.tuple #[(vi (W64 ((W64 ((W64 ((W64 (r9 - 1)) * 1440)) + (W64 ((W64 (Int.tdiv r17 100)) * 60)))) + (Int.tmod r17 100)))), (vi 0)]), res_of (l := [.tmp 2, .tmp 3]) (by kernel_rfl) (vs := [(vi (W64 ((W64 ((W64 ((W64 (r9 - 1)) * 1440)) + (W64 ((W64 (Int.tdiv r17 100)) * 60)))) + (Int.tmod r17 100)))), (vi 0)]) ⟨rfl, ⟨rfl, trivial⟩⟩, (.tuple #[(vi (W64 ((W64 ((W64 ((W64 (r9 - 1)) * 1440)) + (W64 ((W64 (Int.tdiv r17 100)) * 60)))) + (Int.tmod r17 100)))), (vi 0)]), F6, rfl, hs47.clear, rfl⟩
end Go.Proofs.YtlddakefmfcblaaGreatDoor
namespace Go.Proofs.YtlddakefmfcblaaGreatDoor
open Go.Proofs
end Go.Proofs.YtlddakefmfcblaaGreatDoor
namespace Go.Proofs.YtlddakefmfcblaaGreatDoor
open Go.Proofs
end Go.Proofs.YtlddakefmfcblaaGreatDoor
namespace Go.Proofs.YtlddakefmfcblaaGreatDoor
open Go.Proofs
end Go.Proofs.YtlddakefmfcblaaGreatDoor
