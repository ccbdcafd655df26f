/- AirAround: for every input the law returns true, and each argument reads afterwards as it read before. No condition. -/
import Derived.Test.YtlddakefmfcblaaGreatDoorA2
set_option linter.unusedVariables false
set_option linter.unusedSimpArgs false
set_option linter.unusedSectionVars false
namespace Go.Proofs.YtlddakefmfcblaaGreatDoor
open Go.Proofs
def air_ValidBands_L0 (N : Nat) (x0 : (List Band)) : Int → Option (Flow Bool Int) := fun s4 =>
 (bif (decide (s4 < (x0.length : Int))) then ((idx x0 s4).bind fun x27 => (((air_within N x27.ID 1 65535).bind fun r60 => (bif (!r60) then some true else ((air_within N x27.Lo 1 x27.Hi).bind fun r72 => (bif (!r72) then some true else (bif (decide (x27.Hi > 10000000)) then some true else (bif (decide (s4 > 0)) then ((idx x0 (W64 (s4 - 1))).bind fun x90 => (bif (decide (x27.ID ≤ x90.ID)) then some true else ((idx x0 (W64 (s4 - 1))).bind fun x100 => some (decide (x27.Lo ≤ x100.Hi))))) else some false)))))).bind fun j51 => (bif j51 then some (.ret false) else some (.next (W64 (s4 + 1)))))) else some (.done s4))
def air_ValidBands (N : Nat) (x0 : (List Band)) : Option Bool :=
 ((iter (air_ValidBands_L0 N x0) N 0).bind fun o => o.k (fun r => some r) (fun s13 => some (decide ((x0.length : Int) ≤ 16))))
theorem co_air_ValidBands : CallOk Tryz.prog 26 := fun _ _ => by kernel_rfl
set_option maxHeartbeats 4000000 in
set_option maxRecDepth 100000 in
theorem c_air_ValidBands (N : Nat) (w0 : World) (F0 : Mem) (hF : ∀ b o, F0 b = some o → w0.heap[b]? = some o) (x0 : (List Band)) (a0_0 : Option Addr) (n0_0 : Nat) (hb0_0 : LC x0.length n0_0) (hs0_0 : SlA tBand F0 a0_0 x0) (r : Bool) (h : air_ValidBands N x0 = some r) :
  Calls Tryz.prog 26 ([(.slice a0_0 x0.length n0_0)] : List Value).toArray w0 (FRet w0 F0 fun F' v => v = (.bool r)) := by
 have hs0 := HS.start hF
 refine calls_of (n := 59) (c := bodyOf Tryz.f26) Tryz.func26 (by kernel_rfl) (by kernel_rfl) (by kernel_rfl) ?_
 refine Sq (Rg [0] ?_)
 refine V 2 4 (mc (.bool false) (.bool false)) ?_
 refine Nss ?_
 refine Sq (Rg [0, 1, 2] ?_)
 refine V 5 32 (mv 0 (.slice a0_0 x0.length n0_0)) ?_
 refine V 6 3 (ln 5 32 a0_0 x0.length n0_0 40 3 24) ?_
 refine V 7 3 (run_move (x := (.const (vi 0))) (v := (vi 0)) rfl) ?_
 refine Nt ?_
 obtain ⟨o1, ho2, h3⟩ := bind_some h
 refine CWP.cut (fun f w => ∃ (s13 : Int) (F2 : Mem), o1 = .done s13 ∧ HS w0 F0 w F2 [] ∧ Mem.le F0 F2 ∧ f.d = [] ∧ f 0 = (.slice a0_0 x0.length n0_0)) ?_ ?_
 ·refine Bk ?_
  refine CWP.loop (by kernel_rfl) (fun m f w => ∃ (s4 : Int) (F1 : Mem), iter (air_ValidBands_L0 N x0) m s4 = some o1 ∧ HS w0 F0 w F1 [] ∧ Mem.le F0 F1 ∧ f.d = [] ∧ f 0 = (.slice a0_0 x0.length n0_0) ∧ f 5 = (.slice a0_0 x0.length n0_0) ∧ f 6 = (vi (x0.length : Int)) ∧ f 7 = (vi s4)) N ⟨0, F0, ho2, hs0, (Mem.le.refl _), rfl, rfl, rfl, rfl, rfl⟩ ?_
  rintro m19 f w5 ⟨s4, F1, hit20, hs6, le7, e8, e9, e10, e11, e12⟩
  obtain ⟨m21, fl22, rfl, hb23, hnx24⟩ := iter_step hit20
  refine Sq (Rg [0] ?_)
  refine V 8 0 (run_lss (t := 3) (t' := 3) (x := (.tmp 7)) (y := (.tmp 6)) (k := .i64) (a := s4) (b := (x0.length : Int)) e12 e11) ?_
  refine Nss ?_
  refine CWP.cond (t := (decide (s4 < (x0.length : Int)))) (by kernel_rfl) rfl (fun hb25 => ?_) (fun hb25 => ?_)
  ·have h26 := cond_t hb23 hb25
   refine Sc ?_
   refine thenQ_nrm ?_
   refine Sq ?_
   refine Bk ?_
   refine Sq (Rg [0, 1, 2, 3, 4, 5] ?_)
   refine V 9 3 (mv 7 (vi s4) e12) ?_
   obtain ⟨x27, hx28, h30⟩ := bind_some h26
   obtain ⟨hi29, hx28'⟩ := idx_spec hx28
   obtain ⟨b31, o32, C33, E34, fz35, rfl, hF37, hE38⟩ := SlA.open (SlA.mono hs0_0 le7) hx28'
   have hc40 := hE38 _ _ hx28'
   refine V 10 0 (run_index (t := 32) (x := (.tmp 5)) (y := (.tmp 7)) (b := b31) (o := o32) (E := 40) (s := 3) (by_ := 24) e10 e12 (by kernel_rfl) hi29) ?_
   refine V 11 40 (lx 40 10 0 3 true 3 (.agg (kBand x27)) (hs6.pers _ _ hF37) hc40) ?_
   refine Al 4 0 40 #[(vi 0), (vi 0), (vi 0)] hs6 (fun b41 w42 (hs43 : HS w0 F0 w42 F1 [(sb b41 #[(vi 0), (vi 0), (vi 0)] 40)]) => ?_)
   refine V 3 3 (ma 9 (vi s4)) ?_
   refine RWP.store (ty := 0) (g := none) (by kernel_rfl) rfl (x := (.tmp 4)) (y := (.tmp 11)) (t := 40) (gg := true) (s := 3) (v := (.agg (kBand x27))) (b := b41) (o := 0) (C := #[(vi 0), (vi 0), (vi 0)]) rfl rfl (by kernel_rfl) hs43 (k := 0) rfl rfl rfl rfl (C' := (kBand x27)) rfl (fun w44 (hs45 : HS w0 F0 w44 F1 [(sb b41 (kBand x27) 40)]) => ?_)
   refine Nss ?_
   obtain ⟨j51, hj58, h59⟩ := bind_some h30
   refine CWP.regionD (by kernel_rfl) (by kernel_rfl) (by kernel_rfl) (by kernel_rfl) (z := 43) (F := F1) (Lc := [(sb b41 (kBand x27) 40)]) (Lz := []) (l := [false, false, false, false, false, false, false, false, false, false, false, false, false, false, false, false, false, false, false, false, false, false, false, false, false, false, false, false, false, false, false, false, false, false, false, false, false, false, false, false, false, false, false]) (fuel := 43) (by kernel_rfl) (by kernel_rfl) hs45 (by simp) (by simp) (fun f w => ∃ (F3 : Mem), HS w0 F0 w F3 [] ∧ Mem.le F1 F3 ∧ f.d = [] ∧ f 0 = (.slice (some ⟨b31, o32, none⟩) x0.length n0_0) ∧ f 5 = (.slice (some ⟨b31, o32, none⟩) x0.length n0_0) ∧ f 6 = (vi (x0.length : Int)) ∧ f 7 = (vi s4) ∧ f 54 = (.bool j51)) (fun wd46 hw47 => ?_) ?_
   ·refine Dtl 0 12 0 (.pointer (some ⟨b41, 0, none⟩)) [tt, ff, ff, ff, ff, ff, ff, ff, ff, ff, ff, ff, ff, ff, ff, ff, ff, ff, ff, ff, ff, ff, ff, ff, ff, ff, ff, ff, ff, ff, ff, ff, ff, ff, ff, ff, ff, ff, ff, ff, ff, ff, ff] (fun _ hq => fa 40 4 0 0 1 b41 0 0) ?_
    refine Dtl 1 13 3 _ [tt, tt, ff, ff, ff, ff, ff, ff, ff, ff, ff, ff, ff, ff, ff, ff, ff, ff, ff, ff, ff, ff, ff, ff, ff, ff, ff, ff, ff, ff, ff, ff, ff, ff, ff, ff, ff, ff, ff, ff, ff, ff, ff] (fun _ hq => ld 3 12 b41 0 false 1 (vi x27.ID) (hq.1.2 0 _ _ rfl)) ?_
    refine DWP.one (i := 2) (by kernel_rfl) ?_
    obtain ⟨r60, hr61, h62⟩ := bind_some hj58
    refine DStep.call (l' := [true, true, true, false, false, false, false, false, false, false, false, false, false, false, false, false, false, false, false, false, false, false, false, false, false, false, false, false, false, false, false, false, false, false, false, false, false, false, false, false, false, false, false]) (zd := true) (by kernel_rfl) (by kernel_rfl) (by kernel_rfl) (dst := (some 14)) (ty := 4) (g := none) (by kernel_rfl) rfl (f0 := (.func 73)) (aos := #[(.tmp 13), (.const (vi 1)), (.const (vi 65535))]) (ats := #[3, 3, 3]) (fid := 73) (first := #[]) (cap := #[]) (args := [(vi x27.ID), (vi 1), (vi 65535)]) rfl co_air_within (rfl) hw47 (c_air_within N wd46 F1 hw47.pers (x27.ID) (1) (65535) _ hr61) ?_
    intro v63 F4 w64 hs65 le66 hp67
    obtain rfl := hp67
    refine Dtl 3 15 4 (.bool (!r60)) [tt, tt, tt, tt, ff, ff, ff, ff, ff, ff, ff, ff, ff, ff, ff, ff, ff, ff, ff, ff, ff, ff, ff, ff, ff, ff, ff, ff, ff, ff, ff, ff, ff, ff, ff, ff, ff, ff, ff, ff, ff, ff, ff] (fun _ hq => run_not (t := 4) (x := (.tmp 14)) (a := r60) rfl) ?_
    refine Dtl 4 16 4 _ [tt, tt, tt, tt, tt, ff, ff, ff, ff, ff, ff, ff, ff, ff, ff, ff, ff, ff, ff, ff, ff, ff, ff, ff, ff, ff, ff, ff, ff, ff, ff, ff, ff, ff, ff, ff, ff, ff, ff, ff, ff, ff, ff] (fun _ hq => mv 15 (.bool (!r60))) ?_
    refine DWP.split (!r60) (fun hb68 => ?_) (fun hb68 => ?_)
    ·have h69 := cond_t h62 hb68
     refine Dkl [(5, 17), (6, 18), (7, 19), (8, 20), (9, 21), (10, 22)] 4 false 16 hb68 [tt, tt, tt, tt, tt, tt, tt, tt, tt, tt, tt, ff, ff, ff, ff, ff, ff, ff, ff, ff, ff, ff, ff, ff, ff, ff, ff, ff, ff, ff, ff, ff, ff, ff, ff, ff, ff, ff, ff, ff, ff, ff, ff] ?_
     refine Dtl 11 23 4 _ [tt, tt, tt, tt, tt, tt, tt, tt, tt, tt, tt, tt, ff, ff, ff, ff, ff, ff, ff, ff, ff, ff, ff, ff, ff, ff, ff, ff, ff, ff, ff, ff, ff, ff, ff, ff, ff, ff, ff, ff, ff, ff, ff] (fun _ hq => p1 16 (.const (.bool true)) (.tmp 22) (.bool true) hb68) ?_
     refine Dtl 12 24 4 _ [tt, tt, tt, tt, tt, tt, tt, tt, tt, tt, tt, tt, tt, ff, ff, ff, ff, ff, ff, ff, ff, ff, ff, ff, ff, ff, ff, ff, ff, ff, ff, ff, ff, ff, ff, ff, ff, ff, ff, ff, ff, ff, ff] (fun _ hq => mv 23 (.bool true)) ?_
     refine Dkl [(13, 25), (14, 26), (15, 27)] 12 false 24 rfl [tt, tt, tt, tt, tt, tt, tt, tt, tt, tt, tt, tt, tt, tt, tt, tt, ff, ff, ff, ff, ff, ff, ff, ff, ff, ff, ff, ff, ff, ff, ff, ff, ff, ff, ff, ff, ff, ff, ff, ff, ff, ff, ff] ?_
     refine Dtl 16 28 4 _ [tt, tt, tt, tt, tt, tt, tt, tt, tt, tt, tt, tt, tt, tt, tt, tt, tt, ff, ff, ff, ff, ff, ff, ff, ff, ff, ff, ff, ff, ff, ff, ff, ff, ff, ff, ff, ff, ff, ff, ff, ff, ff, ff] (fun _ hq => p1 24 (.const (.bool true)) (.tmp 27) (.bool true) rfl) ?_
     refine Dtl 17 29 4 _ [tt, tt, tt, tt, tt, tt, tt, tt, tt, tt, tt, tt, tt, tt, tt, tt, tt, tt, ff, ff, ff, ff, ff, ff, ff, ff, ff, ff, ff, ff, ff, ff, ff, ff, ff, ff, ff, ff, ff, ff, ff, ff, ff] (fun _ hq => mv 28 (.bool true)) ?_
     refine Dkl [(18, 30), (19, 31), (20, 32)] 17 false 29 rfl [tt, tt, tt, tt, tt, tt, tt, tt, tt, tt, tt, tt, tt, tt, tt, tt, tt, tt, tt, tt, tt, ff, ff, ff, ff, ff, ff, ff, ff, ff, ff, ff, ff, ff, ff, ff, ff, ff, ff, ff, ff, ff, ff] ?_
     refine Dul [(21, 33), (22, 34), (23, 35), (24, 36), (25, 37), (26, 38)] 20 true 32 [tt, tt, tt, tt, tt, tt, tt, tt, tt, tt, tt, tt, tt, tt, tt, tt, tt, tt, tt, tt, tt, tt, tt, tt, tt, tt, tt, ff, ff, ff, ff, ff, ff, ff, ff, ff, ff, ff, ff, ff, ff, ff, ff] ?_
     refine Dul [(27, 39), (28, 40), (29, 41), (30, 42)] 20 true 32 [tt, tt, tt, tt, tt, tt, tt, tt, tt, tt, tt, tt, tt, tt, tt, tt, tt, tt, tt, tt, tt, tt, tt, tt, tt, tt, tt, tt, tt, tt, tt, ff, ff, ff, ff, ff, ff, ff, ff, ff, ff, ff, ff] ?_
     refine Dul [(31, 43), (32, 44), (33, 45), (34, 46), (35, 47), (36, 48)] 30 false 42 [tt, tt, tt, tt, tt, tt, tt, tt, tt, tt, tt, tt, tt, tt, tt, tt, tt, tt, tt, tt, tt, tt, tt, tt, tt, tt, tt, tt, tt, tt, tt, tt, tt, tt, tt, tt, tt, ff, ff, ff, ff, ff, ff] ?_
     refine Dul [(37, 49), (38, 50), (39, 51)] 30 false 42 [tt, tt, tt, tt, tt, tt, tt, tt, tt, tt, tt, tt, tt, tt, tt, tt, tt, tt, tt, tt, tt, tt, tt, tt, tt, tt, tt, tt, tt, tt, tt, tt, tt, tt, tt, tt, tt, tt, tt, tt, ff, ff, ff] ?_
     refine Dul [(40, 52)] 20 true 32 [tt, tt, tt, tt, tt, tt, tt, tt, tt, tt, tt, tt, tt, tt, tt, tt, tt, tt, tt, tt, tt, tt, tt, tt, tt, tt, tt, tt, tt, tt, tt, tt, tt, tt, tt, tt, tt, tt, tt, tt, tt, ff, ff] ?_
     refine Dkl [(41, 53)] 17 false 29 rfl [tt, tt, tt, tt, tt, tt, tt, tt, tt, tt, tt, tt, tt, tt, tt, tt, tt, tt, tt, tt, tt, tt, tt, tt, tt, tt, tt, tt, tt, tt, tt, tt, tt, tt, tt, tt, tt, tt, tt, tt, tt, tt, ff] ?_
     refine Dtl 42 54 4 _ [tt, tt, tt, tt, tt, tt, tt, tt, tt, tt, tt, tt, tt, tt, tt, tt, tt, tt, tt, tt, tt, tt, tt, tt, tt, tt, tt, tt, tt, tt, tt, tt, tt, tt, tt, tt, tt, tt, tt, tt, tt, tt, tt] (fun _ hq => p1 29 (.const (.bool true)) (.tmp 53) (.bool true) rfl) ?_
     obtain rfl := some_inj h69
     have hs70 : HS w0 F0 w64 F4 [] := hs65.drop 0
     exact DWP.done (by kernel_rfl) ⟨F4, hs70, le66, e8, e9, e10, e11, e12, rfl⟩
    ·have h71 := cond_f h62 hb68
     refine Dgl 5 17 0 (.pointer (some ⟨b41, 1, none⟩)) [tt, tt, tt, tt, tt, tt, ff, ff, ff, ff, ff, ff, ff, ff, ff, ff, ff, ff, ff, ff, ff, ff, ff, ff, ff, ff, ff, ff, ff, ff, ff, ff, ff, ff, ff, ff, ff, ff, ff, ff, ff, ff, ff] 4 false 16 hb68 (fun _ hq => fa 40 4 1 1 1 b41 0 1) ?_
     refine Dgl 6 18 3 _ [tt, tt, tt, tt, tt, tt, tt, ff, ff, ff, ff, ff, ff, ff, ff, ff, ff, ff, ff, ff, ff, ff, ff, ff, ff, ff, ff, ff, ff, ff, ff, ff, ff, ff, ff, ff, ff, ff, ff, ff, ff, ff, ff] 4 false 16 hb68 (fun _ hq => ld 3 17 b41 1 false 1 (vi x27.Lo) (hq.1.2 0 _ _ rfl)) ?_
     refine Dgl 7 19 0 (.pointer (some ⟨b41, 2, none⟩)) [tt, tt, tt, tt, tt, tt, tt, tt, ff, ff, ff, ff, ff, ff, ff, ff, ff, ff, ff, ff, ff, ff, ff, ff, ff, ff, ff, ff, ff, ff, ff, ff, ff, ff, ff, ff, ff, ff, ff, ff, ff, ff, ff] 4 false 16 hb68 (fun _ hq => fa 40 4 2 2 1 b41 0 2) ?_
     refine Dgl 8 20 3 _ [tt, tt, tt, tt, tt, tt, tt, tt, tt, ff, ff, ff, ff, ff, ff, ff, ff, ff, ff, ff, ff, ff, ff, ff, ff, ff, ff, ff, ff, ff, ff, ff, ff, ff, ff, ff, ff, ff, ff, ff, ff, ff, ff] 4 false 16 hb68 (fun _ hq => ld 3 19 b41 2 false 1 (vi x27.Hi) (hq.1.2 0 _ _ rfl)) ?_
     refine DWP.one (i := 9) (by kernel_rfl) ?_
     obtain ⟨r72, hr73, h74⟩ := bind_some h71
     refine DStep.call (l' := [true, true, true, true, true, true, true, true, true, true, false, false, false, false, false, false, false, false, false, false, false, false, false, false, false, false, false, false, false, false, false, false, false, false, false, false, false, false, false, false, false, false, false]) (zd := true) (by kernel_rfl) (by kernel_rfl) (by kernel_rfl) (dst := (some 21)) (ty := 4) (g := (some (4, false))) (by kernel_rfl) (gd_y (d := 16) (by kernel_rfl) rfl hb68) (f0 := (.func 73)) (aos := #[(.tmp 18), (.const (vi 1)), (.tmp 20)]) (ats := #[3, 3, 3]) (fid := 73) (first := #[]) (cap := #[]) (args := [(vi x27.Lo), (vi 1), (vi x27.Hi)]) rfl co_air_within (rfl) hs65 (c_air_within N w64 F4 hs65.pers (x27.Lo) (1) (x27.Hi) _ hr73) ?_
     intro v75 F5 w76 hs77 le78 hp79
     obtain rfl := hp79
     refine Dgl 10 22 4 (.bool (!r72)) [tt, tt, tt, tt, tt, tt, tt, tt, tt, tt, tt, ff, ff, ff, ff, ff, ff, ff, ff, ff, ff, ff, ff, ff, ff, ff, ff, ff, ff, ff, ff, ff, ff, ff, ff, ff, ff, ff, ff, ff, ff, ff, ff] 4 false 16 hb68 (fun _ hq => run_not (t := 4) (x := (.tmp 21)) (a := r72) rfl) ?_
     refine Dtl 11 23 4 _ [tt, tt, tt, tt, tt, tt, tt, tt, tt, tt, tt, tt, ff, ff, ff, ff, ff, ff, ff, ff, ff, ff, ff, ff, ff, ff, ff, ff, ff, ff, ff, ff, ff, ff, ff, ff, ff, ff, ff, ff, ff, ff, ff] (fun _ hq => p0 16 (.const (.bool true)) (.tmp 22) (.bool (!r72)) hb68) ?_
     refine Dtl 12 24 4 _ [tt, tt, tt, tt, tt, tt, tt, tt, tt, tt, tt, tt, tt, ff, ff, ff, ff, ff, ff, ff, ff, ff, ff, ff, ff, ff, ff, ff, ff, ff, ff, ff, ff, ff, ff, ff, ff, ff, ff, ff, ff, ff, ff] (fun _ hq => mv 23 (.bool (!r72))) ?_
     refine DWP.split (!r72) (fun hb80 => ?_) (fun hb80 => ?_)
     ·have h81 := cond_t h74 hb80
      refine Dkl [(13, 25), (14, 26), (15, 27)] 12 false 24 hb80 [tt, tt, tt, tt, tt, tt, tt, tt, tt, tt, tt, tt, tt, tt, tt, tt, ff, ff, ff, ff, ff, ff, ff, ff, ff, ff, ff, ff, ff, ff, ff, ff, ff, ff, ff, ff, ff, ff, ff, ff, ff, ff, ff] ?_
      refine Dtl 16 28 4 _ [tt, tt, tt, tt, tt, tt, tt, tt, tt, tt, tt, tt, tt, tt, tt, tt, tt, ff, ff, ff, ff, ff, ff, ff, ff, ff, ff, ff, ff, ff, ff, ff, ff, ff, ff, ff, ff, ff, ff, ff, ff, ff, ff] (fun _ hq => p1 24 (.const (.bool true)) (.tmp 27) (.bool true) hb80) ?_
      refine Dtl 17 29 4 _ [tt, tt, tt, tt, tt, tt, tt, tt, tt, tt, tt, tt, tt, tt, tt, tt, tt, tt, ff, ff, ff, ff, ff, ff, ff, ff, ff, ff, ff, ff, ff, ff, ff, ff, ff, ff, ff, ff, ff, ff, ff, ff, ff] (fun _ hq => mv 28 (.bool true)) ?_
      refine Dkl [(18, 30), (19, 31), (20, 32)] 17 false 29 rfl [tt, tt, tt, tt, tt, tt, tt, tt, tt, tt, tt, tt, tt, tt, tt, tt, tt, tt, tt, tt, tt, ff, ff, ff, ff, ff, ff, ff, ff, ff, ff, ff, ff, ff, ff, ff, ff, ff, ff, ff, ff, ff, ff] ?_
      refine Dul [(21, 33), (22, 34), (23, 35), (24, 36), (25, 37), (26, 38)] 20 true 32 [tt, tt, tt, tt, tt, tt, tt, tt, tt, tt, tt, tt, tt, tt, tt, tt, tt, tt, tt, tt, tt, tt, tt, tt, tt, tt, tt, ff, ff, ff, ff, ff, ff, ff, ff, ff, ff, ff, ff, ff, ff, ff, ff] ?_
      refine Dul [(27, 39), (28, 40), (29, 41), (30, 42)] 20 true 32 [tt, tt, tt, tt, tt, tt, tt, tt, tt, tt, tt, tt, tt, tt, tt, tt, tt, tt, tt, tt, tt, tt, tt, tt, tt, tt, tt, tt, tt, tt, tt, ff, ff, ff, ff, ff, ff, ff, ff, ff, ff, ff, ff] ?_
      refine Dul [(31, 43), (32, 44), (33, 45), (34, 46), (35, 47), (36, 48)] 30 false 42 [tt, tt, tt, tt, tt, tt, tt, tt, tt, tt, tt, tt, tt, tt, tt, tt, tt, tt, tt, tt, tt, tt, tt, tt, tt, tt, tt, tt, tt, tt, tt, tt, tt, tt, tt, tt, tt, ff, ff, ff, ff, ff, ff] ?_
      refine Dul [(37, 49), (38, 50), (39, 51)] 30 false 42 [tt, tt, tt, tt, tt, tt, tt, tt, tt, tt, tt, tt, tt, tt, tt, tt, tt, tt, tt, tt, tt, tt, tt, tt, tt, tt, tt, tt, tt, tt, tt, tt, tt, tt, tt, tt, tt, tt, tt, tt, ff, ff, ff] ?_
      refine Dul [(40, 52)] 20 true 32 [tt, tt, tt, tt, tt, tt, tt, tt, tt, tt, tt, tt, tt, tt, tt, tt, tt, tt, tt, tt, tt, tt, tt, tt, tt, tt, tt, tt, tt, tt, tt, tt, tt, tt, tt, tt, tt, tt, tt, tt, tt, ff, ff] ?_
      refine Dkl [(41, 53)] 17 false 29 rfl [tt, tt, tt, tt, tt, tt, tt, tt, tt, tt, tt, tt, tt, tt, tt, tt, tt, tt, tt, tt, tt, tt, tt, tt, tt, tt, tt, tt, tt, tt, tt, tt, tt, tt, tt, tt, tt, tt, tt, tt, tt, tt, ff] ?_
      refine Dtl 42 54 4 _ [tt, tt, tt, tt, tt, tt, tt, tt, tt, tt, tt, tt, tt, tt, tt, tt, tt, tt, tt, tt, tt, tt, tt, tt, tt, tt, tt, tt, tt, tt, tt, tt, tt, tt, tt, tt, tt, tt, tt, tt, tt, tt, tt] (fun _ hq => p1 29 (.const (.bool true)) (.tmp 53) (.bool true) rfl) ?_
      obtain rfl := some_inj h81
      have hs82 : HS w0 F0 w76 F5 [] := hs77.drop 0
      exact DWP.done (by kernel_rfl) ⟨F5, hs82, (le66.trans le78), e8, e9, e10, e11, e12, rfl⟩
     ·have h83 := cond_f h74 hb80
      refine Dgl 13 25 0 (.pointer (some ⟨b41, 2, none⟩)) [tt, tt, tt, tt, tt, tt, tt, tt, tt, tt, tt, tt, tt, tt, ff, ff, ff, ff, ff, ff, ff, ff, ff, ff, ff, ff, ff, ff, ff, ff, ff, ff, ff, ff, ff, ff, ff, ff, ff, ff, ff, ff, ff] 12 false 24 hb80 (fun _ hq => fa 40 4 2 2 1 b41 0 2) ?_
      refine Dgl 14 26 3 _ [tt, tt, tt, tt, tt, tt, tt, tt, tt, tt, tt, tt, tt, tt, tt, ff, ff, ff, ff, ff, ff, ff, ff, ff, ff, ff, ff, ff, ff, ff, ff, ff, ff, ff, ff, ff, ff, ff, ff, ff, ff, ff, ff] 12 false 24 hb80 (fun _ hq => ld 3 25 b41 2 false 1 (vi x27.Hi) (hq.1.2 0 _ _ rfl)) ?_
      refine Dgl 15 27 4 (.bool (decide (x27.Hi > 10000000))) [tt, tt, tt, tt, tt, tt, tt, tt, tt, tt, tt, tt, tt, tt, tt, tt, ff, ff, ff, ff, ff, ff, ff, ff, ff, ff, ff, ff, ff, ff, ff, ff, ff, ff, ff, ff, ff, ff, ff, ff, ff, ff, ff] 12 false 24 hb80 (fun _ hq => run_gtr (t := 3) (t' := 3) (x := (.tmp 26)) (y := (.const (vi 10000000))) (k := .i64) (a := x27.Hi) (b := 10000000) rfl rfl) ?_
      refine Dtl 16 28 4 _ [tt, tt, tt, tt, tt, tt, tt, tt, tt, tt, tt, tt, tt, tt, tt, tt, tt, ff, ff, ff, ff, ff, ff, ff, ff, ff, ff, ff, ff, ff, ff, ff, ff, ff, ff, ff, ff, ff, ff, ff, ff, ff, ff] (fun _ hq => p0 24 (.const (.bool true)) (.tmp 27) (.bool (decide (x27.Hi > 10000000))) hb80) ?_
      refine Dtl 17 29 4 _ [tt, tt, tt, tt, tt, tt, tt, tt, tt, tt, tt, tt, tt, tt, tt, tt, tt, tt, ff, ff, ff, ff, ff, ff, ff, ff, ff, ff, ff, ff, ff, ff, ff, ff, ff, ff, ff, ff, ff, ff, ff, ff, ff] (fun _ hq => mv 28 (.bool (decide (x27.Hi > 10000000)))) ?_
      refine DWP.split (decide (x27.Hi > 10000000)) (fun hb84 => ?_) (fun hb84 => ?_)
      ·have h85 := cond_t h83 hb84
       refine Dkl [(18, 30), (19, 31), (20, 32)] 17 false 29 hb84 [tt, tt, tt, tt, tt, tt, tt, tt, tt, tt, tt, tt, tt, tt, tt, tt, tt, tt, tt, tt, tt, ff, ff, ff, ff, ff, ff, ff, ff, ff, ff, ff, ff, ff, ff, ff, ff, ff, ff, ff, ff, ff, ff] ?_
       refine Dul [(21, 33), (22, 34), (23, 35), (24, 36), (25, 37), (26, 38)] 20 true 32 [tt, tt, tt, tt, tt, tt, tt, tt, tt, tt, tt, tt, tt, tt, tt, tt, tt, tt, tt, tt, tt, tt, tt, tt, tt, tt, tt, ff, ff, ff, ff, ff, ff, ff, ff, ff, ff, ff, ff, ff, ff, ff, ff] ?_
       refine Dul [(27, 39), (28, 40), (29, 41), (30, 42)] 20 true 32 [tt, tt, tt, tt, tt, tt, tt, tt, tt, tt, tt, tt, tt, tt, tt, tt, tt, tt, tt, tt, tt, tt, tt, tt, tt, tt, tt, tt, tt, tt, tt, ff, ff, ff, ff, ff, ff, ff, ff, ff, ff, ff, ff] ?_
       refine Dul [(31, 43), (32, 44), (33, 45), (34, 46), (35, 47), (36, 48)] 30 false 42 [tt, tt, tt, tt, tt, tt, tt, tt, tt, tt, tt, tt, tt, tt, tt, tt, tt, tt, tt, tt, tt, tt, tt, tt, tt, tt, tt, tt, tt, tt, tt, tt, tt, tt, tt, tt, tt, ff, ff, ff, ff, ff, ff] ?_
       refine Dul [(37, 49), (38, 50), (39, 51)] 30 false 42 [tt, tt, tt, tt, tt, tt, tt, tt, tt, tt, tt, tt, tt, tt, tt, tt, tt, tt, tt, tt, tt, tt, tt, tt, tt, tt, tt, tt, tt, tt, tt, tt, tt, tt, tt, tt, tt, tt, tt, tt, ff, ff, ff] ?_
       refine Dul [(40, 52)] 20 true 32 [tt, tt, tt, tt, tt, tt, tt, tt, tt, tt, tt, tt, tt, tt, tt, tt, tt, tt, tt, tt, tt, tt, tt, tt, tt, tt, tt, tt, tt, tt, tt, tt, tt, tt, tt, tt, tt, tt, tt, tt, tt, ff, ff] ?_
       refine Dkl [(41, 53)] 17 false 29 hb84 [tt, tt, tt, tt, tt, tt, tt, tt, tt, tt, tt, tt, tt, tt, tt, tt, tt, tt, tt, tt, tt, tt, tt, tt, tt, tt, tt, tt, tt, tt, tt, tt, tt, tt, tt, tt, tt, tt, tt, tt, tt, tt, ff] ?_
       refine Dtl 42 54 4 _ [tt, tt, tt, tt, tt, tt, tt, tt, tt, tt, tt, tt, tt, tt, tt, tt, tt, tt, tt, tt, tt, tt, tt, tt, tt, tt, tt, tt, tt, tt, tt, tt, tt, tt, tt, tt, tt, tt, tt, tt, tt, tt, tt] (fun _ hq => p1 29 (.const (.bool true)) (.tmp 53) (.bool true) hb84) ?_
       obtain rfl := some_inj h85
       have hs86 : HS w0 F0 w76 F5 [] := hs77.drop 0
       exact DWP.done (by kernel_rfl) ⟨F5, hs86, (le66.trans le78), e8, e9, e10, e11, e12, rfl⟩
      ·have h87 := cond_f h83 hb84
       refine Dgl 18 30 3 _ [tt, tt, tt, tt, tt, tt, tt, tt, tt, tt, tt, tt, tt, tt, tt, tt, tt, tt, tt, ff, ff, ff, ff, ff, ff, ff, ff, ff, ff, ff, ff, ff, ff, ff, ff, ff, ff, ff, ff, ff, ff, ff, ff] 17 false 29 hb84 (fun _ hq => mv 3 (vi s4)) ?_
       refine Dgl 19 31 4 (.bool (decide (s4 > 0))) [tt, tt, tt, tt, tt, tt, tt, tt, tt, tt, tt, tt, tt, tt, tt, tt, tt, tt, tt, tt, ff, ff, ff, ff, ff, ff, ff, ff, ff, ff, ff, ff, ff, ff, ff, ff, ff, ff, ff, ff, ff, ff, ff] 17 false 29 hb84 (fun _ hq => run_gtr (t := 3) (t' := 3) (x := (.tmp 30)) (y := (.const (vi 0))) (k := .i64) (a := s4) (b := 0) rfl rfl) ?_
       refine Dgl 20 32 4 _ [tt, tt, tt, tt, tt, tt, tt, tt, tt, tt, tt, tt, tt, tt, tt, tt, tt, tt, tt, tt, tt, ff, ff, ff, ff, ff, ff, ff, ff, ff, ff, ff, ff, ff, ff, ff, ff, ff, ff, ff, ff, ff, ff] 17 false 29 hb84 (fun _ hq => mv 31 (.bool (decide (s4 > 0)))) ?_
       refine DWP.split (decide (s4 > 0)) (fun hb88 => ?_) (fun hb88 => ?_)
       ·have h89 := cond_t h87 hb88
        refine Dgl 21 33 0 (.pointer (some ⟨b41, 0, none⟩)) [tt, tt, tt, tt, tt, tt, tt, tt, tt, tt, tt, tt, tt, tt, tt, tt, tt, tt, tt, tt, tt, tt, ff, ff, ff, ff, ff, ff, ff, ff, ff, ff, ff, ff, ff, ff, ff, ff, ff, ff, ff, ff, ff] 20 true 32 hb88 (fun _ hq => fa 40 4 0 0 1 b41 0 0) ?_
        refine Dgl 22 34 3 _ [tt, tt, tt, tt, tt, tt, tt, tt, tt, tt, tt, tt, tt, tt, tt, tt, tt, tt, tt, tt, tt, tt, tt, ff, ff, ff, ff, ff, ff, ff, ff, ff, ff, ff, ff, ff, ff, ff, ff, ff, ff, ff, ff] 20 true 32 hb88 (fun _ hq => ld 3 33 b41 0 false 1 (vi x27.ID) (hq.1.2 0 _ _ rfl)) ?_
        refine Dgl 23 35 32 _ [tt, tt, tt, tt, tt, tt, tt, tt, tt, tt, tt, tt, tt, tt, tt, tt, tt, tt, tt, tt, tt, tt, tt, tt, ff, ff, ff, ff, ff, ff, ff, ff, ff, ff, ff, ff, ff, ff, ff, ff, ff, ff, ff] 20 true 32 hb88 (fun _ hq => mv 0 (.slice (some ⟨b31, o32, none⟩) x0.length n0_0) e9) ?_
        refine Dgl 24 36 3 _ [tt, tt, tt, tt, tt, tt, tt, tt, tt, tt, tt, tt, tt, tt, tt, tt, tt, tt, tt, tt, tt, tt, tt, tt, tt, ff, ff, ff, ff, ff, ff, ff, ff, ff, ff, ff, ff, ff, ff, ff, ff, ff, ff] 20 true 32 hb88 (fun _ hq => mv 3 (vi s4)) ?_
        refine Dgl 25 37 3 (vi (W64 (s4 - 1))) [tt, tt, tt, tt, tt, tt, tt, tt, tt, tt, tt, tt, tt, tt, tt, tt, tt, tt, tt, tt, tt, tt, tt, tt, tt, tt, ff, ff, ff, ff, ff, ff, ff, ff, ff, ff, ff, ff, ff, ff, ff, ff, ff] 20 true 32 hb88 (fun _ hq => run_sub (t := 3) (t' := 3) (x := (.tmp 36)) (y := (.const (vi 1))) (k := .i64) (a := s4) (b := 1) rfl rfl) ?_
        obtain ⟨x90, hx91, h93⟩ := bind_some h89
        obtain ⟨hi92, hx91'⟩ := idx_spec hx91
        have hc95 := hE38 _ _ hx91'
        refine Dgl 26 38 0 (.pointer (some ⟨b31, (o32 + ((W64 (s4 - 1)) : Int).toNat * 3), none⟩)) [tt, tt, tt, tt, tt, tt, tt, tt, tt, tt, tt, tt, tt, tt, tt, tt, tt, tt, tt, tt, tt, tt, tt, tt, tt, tt, tt, ff, ff, ff, ff, ff, ff, ff, ff, ff, ff, ff, ff, ff, ff, ff, ff] 20 true 32 hb88 (fun _ hq => ix 32 35 37 b31 o32 40 3 24 hi92) ?_
        refine Dgl 27 39 0 (.pointer (some ⟨b31, (o32 + ((W64 (s4 - 1)) : Int).toNat * 3), none⟩)) [tt, tt, tt, tt, tt, tt, tt, tt, tt, tt, tt, tt, tt, tt, tt, tt, tt, tt, tt, tt, tt, tt, tt, tt, tt, tt, tt, tt, ff, ff, ff, ff, ff, ff, ff, ff, ff, ff, ff, ff, ff, ff, ff] 20 true 32 hb88 (fun _ hq => fa 40 38 0 0 1 b31 (o32 + ((W64 (s4 - 1)) : Int).toNat * 3) (o32 + ((W64 (s4 - 1)) : Int).toNat * 3)) ?_
        refine Dgl 28 40 3 _ [tt, tt, tt, tt, tt, tt, tt, tt, tt, tt, tt, tt, tt, tt, tt, tt, tt, tt, tt, tt, tt, tt, tt, tt, tt, tt, tt, tt, tt, ff, ff, ff, ff, ff, ff, ff, ff, ff, ff, ff, ff, ff, ff] 20 true 32 hb88 (fun _ hq => lx 3 39 0 3 false 1 (vi x90.ID) (hq.1.1 _ _ hF37) hc95) ?_
        refine Dgl 29 41 4 (.bool (decide (x27.ID ≤ x90.ID))) [tt, tt, tt, tt, tt, tt, tt, tt, tt, tt, tt, tt, tt, tt, tt, tt, tt, tt, tt, tt, tt, tt, tt, tt, tt, tt, tt, tt, tt, tt, ff, ff, ff, ff, ff, ff, ff, ff, ff, ff, ff, ff, ff] 20 true 32 hb88 (fun _ hq => run_leq (t := 3) (t' := 3) (x := (.tmp 34)) (y := (.tmp 40)) (k := .i64) (a := x27.ID) (b := x90.ID) rfl rfl) ?_
        refine Dgl 30 42 4 _ [tt, tt, tt, tt, tt, tt, tt, tt, tt, tt, tt, tt, tt, tt, tt, tt, tt, tt, tt, tt, tt, tt, tt, tt, tt, tt, tt, tt, tt, tt, tt, ff, ff, ff, ff, ff, ff, ff, ff, ff, ff, ff, ff] 20 true 32 hb88 (fun _ hq => mv 41 (.bool (decide (x27.ID ≤ x90.ID)))) ?_
        refine DWP.split (decide (x27.ID ≤ x90.ID)) (fun hb96 => ?_) (fun hb96 => ?_)
        ·have h97 := cond_t h93 hb96
         refine Dkl [(31, 43), (32, 44), (33, 45), (34, 46), (35, 47), (36, 48)] 30 false 42 hb96 [tt, tt, tt, tt, tt, tt, tt, tt, tt, tt, tt, tt, tt, tt, tt, tt, tt, tt, tt, tt, tt, tt, tt, tt, tt, tt, tt, tt, tt, tt, tt, tt, tt, tt, tt, tt, tt, ff, ff, ff, ff, ff, ff] ?_
         refine Dkl [(37, 49), (38, 50), (39, 51)] 30 false 42 hb96 [tt, tt, tt, tt, tt, tt, tt, tt, tt, tt, tt, tt, tt, tt, tt, tt, tt, tt, tt, tt, tt, tt, tt, tt, tt, tt, tt, tt, tt, tt, tt, tt, tt, tt, tt, tt, tt, tt, tt, tt, ff, ff, ff] ?_
         refine Dgl 40 52 4 _ [tt, tt, tt, tt, tt, tt, tt, tt, tt, tt, tt, tt, tt, tt, tt, tt, tt, tt, tt, tt, tt, tt, tt, tt, tt, tt, tt, tt, tt, tt, tt, tt, tt, tt, tt, tt, tt, tt, tt, tt, tt, ff, ff] 20 true 32 hb88 (fun _ hq => p1 42 (.const (.bool true)) (.tmp 51) (.bool true) hb96) ?_
         refine Dgl 41 53 4 _ [tt, tt, tt, tt, tt, tt, tt, tt, tt, tt, tt, tt, tt, tt, tt, tt, tt, tt, tt, tt, tt, tt, tt, tt, tt, tt, tt, tt, tt, tt, tt, tt, tt, tt, tt, tt, tt, tt, tt, tt, tt, tt, ff] 17 false 29 hb84 (fun _ hq => p1 32 (.tmp 52) (.const (.bool false)) (.bool true) hb88) ?_
         refine Dtl 42 54 4 _ [tt, tt, tt, tt, tt, tt, tt, tt, tt, tt, tt, tt, tt, tt, tt, tt, tt, tt, tt, tt, tt, tt, tt, tt, tt, tt, tt, tt, tt, tt, tt, tt, tt, tt, tt, tt, tt, tt, tt, tt, tt, tt, tt] (fun _ hq => p0 29 (.const (.bool true)) (.tmp 53) (.bool true) hb84) ?_
         obtain rfl := some_inj h97
         have hs98 : HS w0 F0 w76 F5 [] := hs77.drop 0
         exact DWP.done (by kernel_rfl) ⟨F5, hs98, (le66.trans le78), e8, e9, e10, e11, e12, rfl⟩
        ·have h99 := cond_f h93 hb96
         refine Dgl 31 43 0 (.pointer (some ⟨b41, 1, none⟩)) [tt, tt, tt, tt, tt, tt, tt, tt, tt, tt, tt, tt, tt, tt, tt, tt, tt, tt, tt, tt, tt, tt, tt, tt, tt, tt, tt, tt, tt, tt, tt, tt, ff, ff, ff, ff, ff, ff, ff, ff, ff, ff, ff] 30 false 42 hb96 (fun _ hq => fa 40 4 1 1 1 b41 0 1) ?_
         refine Dgl 32 44 3 _ [tt, tt, tt, tt, tt, tt, tt, tt, tt, tt, tt, tt, tt, tt, tt, tt, tt, tt, tt, tt, tt, tt, tt, tt, tt, tt, tt, tt, tt, tt, tt, tt, tt, ff, ff, ff, ff, ff, ff, ff, ff, ff, ff] 30 false 42 hb96 (fun _ hq => ld 3 43 b41 1 false 1 (vi x27.Lo) (hq.1.2 0 _ _ rfl)) ?_
         refine Dgl 33 45 32 _ [tt, tt, tt, tt, tt, tt, tt, tt, tt, tt, tt, tt, tt, tt, tt, tt, tt, tt, tt, tt, tt, tt, tt, tt, tt, tt, tt, tt, tt, tt, tt, tt, tt, tt, ff, ff, ff, ff, ff, ff, ff, ff, ff] 30 false 42 hb96 (fun _ hq => mv 0 (.slice (some ⟨b31, o32, none⟩) x0.length n0_0) e9) ?_
         refine Dgl 34 46 3 _ [tt, tt, tt, tt, tt, tt, tt, tt, tt, tt, tt, tt, tt, tt, tt, tt, tt, tt, tt, tt, tt, tt, tt, tt, tt, tt, tt, tt, tt, tt, tt, tt, tt, tt, tt, ff, ff, ff, ff, ff, ff, ff, ff] 30 false 42 hb96 (fun _ hq => mv 3 (vi s4)) ?_
         refine Dgl 35 47 3 (vi (W64 (s4 - 1))) [tt, tt, tt, tt, tt, tt, tt, tt, tt, tt, tt, tt, tt, tt, tt, tt, tt, tt, tt, tt, tt, tt, tt, tt, tt, tt, tt, tt, tt, tt, tt, tt, tt, tt, tt, tt, ff, ff, ff, ff, ff, ff, ff] 30 false 42 hb96 (fun _ hq => run_sub (t := 3) (t' := 3) (x := (.tmp 46)) (y := (.const (vi 1))) (k := .i64) (a := s4) (b := 1) rfl rfl) ?_
         obtain ⟨x100, hx101, h103⟩ := bind_some h99
         obtain ⟨hi102, hx101'⟩ := idx_spec hx101
         have hc105 := hE38 _ _ hx101'
         refine Dgl 36 48 0 (.pointer (some ⟨b31, (o32 + ((W64 (s4 - 1)) : Int).toNat * 3), none⟩)) [tt, tt, tt, tt, tt, tt, tt, tt, tt, tt, tt, tt, tt, tt, tt, tt, tt, tt, tt, tt, tt, tt, tt, tt, tt, tt, tt, tt, tt, tt, tt, tt, tt, tt, tt, tt, tt, ff, ff, ff, ff, ff, ff] 30 false 42 hb96 (fun _ hq => ix 32 45 47 b31 o32 40 3 24 hi102) ?_
         refine Dgl 37 49 0 (.pointer (some ⟨b31, ((o32 + ((W64 (s4 - 1)) : Int).toNat * 3) + 2), none⟩)) [tt, tt, tt, tt, tt, tt, tt, tt, tt, tt, tt, tt, tt, tt, tt, tt, tt, tt, tt, tt, tt, tt, tt, tt, tt, tt, tt, tt, tt, tt, tt, tt, tt, tt, tt, tt, tt, tt, ff, ff, ff, ff, ff] 30 false 42 hb96 (fun _ hq => fa 40 48 2 2 1 b31 (o32 + ((W64 (s4 - 1)) : Int).toNat * 3) ((o32 + ((W64 (s4 - 1)) : Int).toNat * 3) + 2)) ?_
         refine Dgl 38 50 3 _ [tt, tt, tt, tt, tt, tt, tt, tt, tt, tt, tt, tt, tt, tt, tt, tt, tt, tt, tt, tt, tt, tt, tt, tt, tt, tt, tt, tt, tt, tt, tt, tt, tt, tt, tt, tt, tt, tt, tt, ff, ff, ff, ff] 30 false 42 hb96 (fun _ hq => lx 3 49 2 3 false 1 (vi x100.Hi) (hq.1.1 _ _ hF37) hc105) ?_
         refine Dgl 39 51 4 (.bool (decide (x27.Lo ≤ x100.Hi))) [tt, tt, tt, tt, tt, tt, tt, tt, tt, tt, tt, tt, tt, tt, tt, tt, tt, tt, tt, tt, tt, tt, tt, tt, tt, tt, tt, tt, tt, tt, tt, tt, tt, tt, tt, tt, tt, tt, tt, tt, ff, ff, ff] 30 false 42 hb96 (fun _ hq => run_leq (t := 3) (t' := 3) (x := (.tmp 44)) (y := (.tmp 50)) (k := .i64) (a := x27.Lo) (b := x100.Hi) rfl rfl) ?_
         refine Dgl 40 52 4 _ [tt, tt, tt, tt, tt, tt, tt, tt, tt, tt, tt, tt, tt, tt, tt, tt, tt, tt, tt, tt, tt, tt, tt, tt, tt, tt, tt, tt, tt, tt, tt, tt, tt, tt, tt, tt, tt, tt, tt, tt, tt, ff, ff] 20 true 32 hb88 (fun _ hq => p0 42 (.const (.bool true)) (.tmp 51) (.bool (decide (x27.Lo ≤ x100.Hi))) hb96) ?_
         refine Dgl 41 53 4 _ [tt, tt, tt, tt, tt, tt, tt, tt, tt, tt, tt, tt, tt, tt, tt, tt, tt, tt, tt, tt, tt, tt, tt, tt, tt, tt, tt, tt, tt, tt, tt, tt, tt, tt, tt, tt, tt, tt, tt, tt, tt, tt, ff] 17 false 29 hb84 (fun _ hq => p1 32 (.tmp 52) (.const (.bool false)) (.bool (decide (x27.Lo ≤ x100.Hi))) hb88) ?_
         refine Dtl 42 54 4 _ [tt, tt, tt, tt, tt, tt, tt, tt, tt, tt, tt, tt, tt, tt, tt, tt, tt, tt, tt, tt, tt, tt, tt, tt, tt, tt, tt, tt, tt, tt, tt, tt, tt, tt, tt, tt, tt, tt, tt, tt, tt, tt, tt] (fun _ hq => p0 29 (.const (.bool true)) (.tmp 53) (.bool (decide (x27.Lo ≤ x100.Hi))) hb84) ?_
         obtain rfl := some_inj h103
         have hs106 : HS w0 F0 w76 F5 [] := hs77.drop 0
         exact DWP.done (by kernel_rfl) ⟨F5, hs106, (le66.trans le78), e8, e9, e10, e11, e12, rfl⟩
       ·have h107 := cond_f h87 hb88
        refine Dkl [(21, 33), (22, 34), (23, 35), (24, 36), (25, 37), (26, 38)] 20 true 32 hb88 [tt, tt, tt, tt, tt, tt, tt, tt, tt, tt, tt, tt, tt, tt, tt, tt, tt, tt, tt, tt, tt, tt, tt, tt, tt, tt, tt, ff, ff, ff, ff, ff, ff, ff, ff, ff, ff, ff, ff, ff, ff, ff, ff] ?_
        refine Dkl [(27, 39), (28, 40), (29, 41), (30, 42)] 20 true 32 hb88 [tt, tt, tt, tt, tt, tt, tt, tt, tt, tt, tt, tt, tt, tt, tt, tt, tt, tt, tt, tt, tt, tt, tt, tt, tt, tt, tt, tt, tt, tt, tt, ff, ff, ff, ff, ff, ff, ff, ff, ff, ff, ff, ff] ?_
        refine Dul [(31, 43), (32, 44), (33, 45), (34, 46), (35, 47), (36, 48)] 30 false 42 [tt, tt, tt, tt, tt, tt, tt, tt, tt, tt, tt, tt, tt, tt, tt, tt, tt, tt, tt, tt, tt, tt, tt, tt, tt, tt, tt, tt, tt, tt, tt, tt, tt, tt, tt, tt, tt, ff, ff, ff, ff, ff, ff] ?_
        refine Dul [(37, 49), (38, 50), (39, 51)] 30 false 42 [tt, tt, tt, tt, tt, tt, tt, tt, tt, tt, tt, tt, tt, tt, tt, tt, tt, tt, tt, tt, tt, tt, tt, tt, tt, tt, tt, tt, tt, tt, tt, tt, tt, tt, tt, tt, tt, tt, tt, tt, ff, ff, ff] ?_
        refine Dkl [(40, 52)] 20 true 32 hb88 [tt, tt, tt, tt, tt, tt, tt, tt, tt, tt, tt, tt, tt, tt, tt, tt, tt, tt, tt, tt, tt, tt, tt, tt, tt, tt, tt, tt, tt, tt, tt, tt, tt, tt, tt, tt, tt, tt, tt, tt, tt, ff, ff] ?_
        refine Dgl 41 53 4 _ [tt, tt, tt, tt, tt, tt, tt, tt, tt, tt, tt, tt, tt, tt, tt, tt, tt, tt, tt, tt, tt, tt, tt, tt, tt, tt, tt, tt, tt, tt, tt, tt, tt, tt, tt, tt, tt, tt, tt, tt, tt, tt, ff] 17 false 29 hb84 (fun _ hq => p0 32 (.tmp 52) (.const (.bool false)) (.bool false) hb88) ?_
        refine Dtl 42 54 4 _ [tt, tt, tt, tt, tt, tt, tt, tt, tt, tt, tt, tt, tt, tt, tt, tt, tt, tt, tt, tt, tt, tt, tt, tt, tt, tt, tt, tt, tt, tt, tt, tt, tt, tt, tt, tt, tt, tt, tt, tt, tt, tt, tt] (fun _ hq => p0 29 (.const (.bool true)) (.tmp 53) (.bool false) hb84) ?_
        obtain rfl := some_inj h107
        have hs108 : HS w0 F0 w76 F5 [] := hs77.drop 0
        exact DWP.done (by kernel_rfl) ⟨F5, hs108, (le66.trans le78), e8, e9, e10, e11, e12, rfl⟩
   ·rintro f w48 ⟨F3, hs49, le50, e52, e53, e54, e55, e56, e57⟩
    refine thenQ_nrm ?_
    refine CWP.cond (t := j51) (by kernel_rfl) e57 (fun hb109 => ?_) (fun hb109 => ?_)
    ·have h110 := cond_t h59 hb109
     refine Sq (Rg [0] ?_)
     refine V 2 4 (mc (.bool false) (.bool false)) ?_
     refine Nt ?_
     refine CWP.ret (by kernel_rfl) ?_
     refine blockQ_ret ?_
     refine thenQ_ret ?_
     refine thenQ_ret ?_
     refine blockQ_ret ?_
     have hret := iter_ret h110 hnx24
     subst hret
     refine .inr ?_
     refine thenQ_ret ?_
     have hfin := some_inj h3
     subst hfin
     exact ⟨e52, (.bool false), res_of (l := [.tmp 2]) (by kernel_rfl) (vs := [(.bool false)]) ⟨rfl, trivial⟩, (.bool false), F3, rfl, hs49.clear, rfl⟩
    ·have h111 := cond_f h59 hb109
     refine Sc ?_
     refine blockQ_nrm ?_
     refine thenQ_nrm ?_
     refine Rg [0, 1] ?_
     refine V 55 3 (run_add (t := 3) (t' := 3) (x := (.tmp 7)) (y := (.const (vi 1))) (k := .i64) (a := s4) (b := 1) e56 rfl) ?_
     refine V 7 3 (mv 55 (vi (W64 (s4 + 1)))) ?_
     refine RWP.nil ?_
     have hn112 := iter_next h111 hnx24
     exact ⟨m21, Nat.lt_succ_self _, (W64 (s4 + 1)), F3, hn112, hs49, (le7.trans le50), e52, e53, e54, e55, rfl⟩
  ·have h113 := cond_f hb23 hb25
   refine CWP.exit (by kernel_rfl) ?_
   refine thenQ_ex ?_
   refine thenQ_ex ?_
   refine blockQ_hit rfl ?_
   have ho114 := iter_done h113 hnx24
   exact .inl ⟨rfl, s4, F1, ho114, hs6, le7, e8, e9⟩
 ·rintro f w14 ⟨s13, F2, rfl, hs15, le16, e17, e18⟩
  have h115 := k_done h3
  refine thenQ_nrm ?_
  refine Sq (Rg [0, 1, 2, 3] ?_)
  refine V 56 32 (mv 0 (.slice a0_0 x0.length n0_0) e18) ?_
  refine V 57 3 (ln 56 32 a0_0 x0.length n0_0 40 3 24) ?_
  refine V 58 4 (run_leq (t := 3) (t' := 3) (x := (.tmp 57)) (y := (.const (vi 16))) (k := .i64) (a := (x0.length : Int)) (b := 16) rfl rfl) ?_
  refine V 2 4 (ma 58 (.bool (decide ((x0.length : Int) ≤ 16)))) ?_
  refine Nt ?_
  refine CWP.ret (by kernel_rfl) ?_
  have hfin := some_inj h115
  subst hfin
  exact ⟨e17, (.bool (decide ((x0.length : Int) ≤ 16))), res_of (l := [.tmp 2]) (by kernel_rfl) (vs := [(.bool (decide ((x0.length : Int) ≤ 16)))]) ⟨rfl, trivial⟩, (.bool (decide ((x0.length : Int) ≤ 16))), F2, rfl, hs15.clear, rfl⟩
end Go.Proofs.YtlddakefmfcblaaGreatDoor
namespace Go.Proofs.YtlddakefmfcblaaGreatDoor
open Go.Proofs
def air_wrongBands (N : Nat) (x0 : (List Band)) (x1 : Int) : Option Int :=
 ((air_ValidBands N x0).bind fun r1 => (bif (!r1) then some 11 else ((air_within N x1 1 10000000).bind fun r12 => (bif (!r12) then some 1 else some 0))))
theorem co_air_wrongBands : CallOk Tryz.prog 68 := fun _ _ => by kernel_rfl
set_option maxHeartbeats 4000000 in
set_option maxRecDepth 100000 in
theorem c_air_wrongBands (N : Nat) (w0 : World) (F0 : Mem) (hF : ∀ b o, F0 b = some o → w0.heap[b]? = some o) (x0 : (List Band)) (a0_0 : Option Addr) (n0_0 : Nat) (hb0_0 : LC x0.length n0_0) (hs0_0 : SlA tBand F0 a0_0 x0) (x1 : Int) (r : Int) (h : air_wrongBands N x0 x1 = some r) :
  Calls Tryz.prog 68 ([(.slice a0_0 x0.length n0_0), (vi x1)] : List Value).toArray w0 (FRet w0 F0 fun F' v => v = (vi r)) := by
 have hs0 := HS.start hF
 refine calls_of (n := 13) (c := bodyOf Tryz.f68) Tryz.func68 (by kernel_rfl) (by kernel_rfl) (by kernel_rfl) ?_
 refine Sq (Rg [0] ?_)
 refine V 4 23 (mc (vi 0) (vi 0)) ?_
 refine Nss ?_
 refine Bk ?_
 refine Sq (Rg [0, 1, 2, 3] ?_)
 refine V 6 32 (mv 0 (.slice a0_0 x0.length n0_0)) ?_
 obtain ⟨r1, hr2, h3⟩ := bind_some h
 refine Cl 7 4 26 #[(.tmp 6)] #[32] co_air_ValidBands hs0 (c_air_ValidBands N w0 F0 hs0.pers (x0) a0_0 n0_0 hb0_0 hs0_0 _ hr2) ?_
 intro v4 F1 w5 hs6 le7 hp8
 obtain rfl := hp8
 refine V 8 4 (run_not (t := 4) (x := (.tmp 7)) (a := r1) rfl) ?_
 refine V 5 4 (ma 8 (.bool (!r1))) ?_
 refine Nt ?_
 refine CWP.cond (t := (!r1)) (by kernel_rfl) rfl (fun hb9 => ?_) (fun hb9 => ?_)
 ·have h10 := cond_t h3 hb9
  refine Sq (Rg [0] ?_)
  refine V 4 23 (mc (vi 11) (vi 11)) ?_
  refine Nt ?_
  refine CWP.ret (by kernel_rfl) ?_
  refine blockQ_ret ?_
  refine thenQ_ret ?_
  have hfin := some_inj h10
  subst hfin
  exact ⟨rfl, (vi 11), res_of (l := [.tmp 4]) (by kernel_rfl) (vs := [(vi 11)]) ⟨rfl, trivial⟩, (vi 11), F1, rfl, hs6.clear, rfl⟩
 ·have h11 := cond_f h3 hb9
  refine Sq (Rg [0, 1, 2, 3] ?_)
  refine V 10 3 (mv 1 (vi x1)) ?_
  obtain ⟨r12, hr13, h14⟩ := bind_some h11
  refine Cl 11 4 73 #[(.tmp 10), (.const (vi 1)), (.const (vi 10000000))] #[3, 3, 3] co_air_within hs6 (c_air_within N w5 F1 hs6.pers (x1) (1) (10000000) _ hr13) ?_
  intro v15 F2 w16 hs17 le18 hp19
  obtain rfl := hp19
  refine V 12 4 (run_not (t := 4) (x := (.tmp 11)) (a := r12) rfl) ?_
  refine V 9 4 (ma 12 (.bool (!r12))) ?_
  refine Nt ?_
  refine CWP.cond (t := (!r12)) (by kernel_rfl) rfl (fun hb20 => ?_) (fun hb20 => ?_)
  ·have h21 := cond_t h14 hb20
   refine Sq (Rg [0] ?_)
   refine V 4 23 (mc (vi 1) (vi 1)) ?_
   refine Nt ?_
   refine CWP.ret (by kernel_rfl) ?_
   refine blockQ_ret ?_
   refine thenQ_ret ?_
   have hfin := some_inj h21
   subst hfin
   exact ⟨rfl, (vi 1), res_of (l := [.tmp 4]) (by kernel_rfl) (vs := [(vi 1)]) ⟨rfl, trivial⟩, (vi 1), F2, rfl, hs17.clear, rfl⟩
  ·have h22 := cond_f h14 hb20
   refine Sc ?_
   refine blockQ_nrm ?_
   refine thenQ_nrm ?_
   refine Sq (Rg [0] ?_)
   refine V 4 23 (mc (vi 0) (vi 0)) ?_
   refine Nt ?_
   refine CWP.ret (by kernel_rfl) ?_
   have hfin := some_inj h22
   subst hfin
   exact ⟨rfl, (vi 0), res_of (l := [.tmp 4]) (by kernel_rfl) (vs := [(vi 0)]) ⟨rfl, trivial⟩, (vi 0), F2, rfl, hs17.clear, rfl⟩
end Go.Proofs.YtlddakefmfcblaaGreatDoor
namespace Go.Proofs.YtlddakefmfcblaaGreatDoor
open Go.Proofs
def air_Nearest_1 (N : Nat) (x0 : Band) (z0 : Int) : Option Int :=
 some (max (max 0 (W64 (x0.Lo - z0))) (W64 (z0 - x0.Hi)))
theorem co_air_Nearest_1 : CallOk Tryz.prog 69 := fun _ _ => by kernel_rfl
set_option maxHeartbeats 4000000 in
set_option maxRecDepth 100000 in
theorem c_air_Nearest_1 (N : Nat) (w0 : World) (F0 : Mem) (hF : ∀ b o, F0 b = some o → w0.heap[b]? = some o) (x0 : Band) (bz0 : Nat) (z0 : Int) (hz0 : F0 bz0 = some (oc #[(vi z0)] 3)) (r : Int) (h : air_Nearest_1 N x0 z0 = some r) :
  Calls Tryz.prog 69 ([(.agg (kBand x0)), (.pointer (some ⟨bz0, 0, none⟩))] : List Value).toArray w0 (FRet w0 F0 fun F' v => v = (vi r)) := by
 have hs0 := HS.start hF
 refine calls_of (n := 13) (c := bodyOf Tryz.f69) Tryz.func69 (by kernel_rfl) (by kernel_rfl) (by kernel_rfl) ?_
 refine Sq (Rg [0, 1] ?_)
 refine Bx 2 0 0 40 (kBand x0) hs0 (fun b1 w2 (hs3 : HS w0 F0 w2 F0 [(sb b1 (kBand x0) 40)]) => ?_)
 refine V 3 3 (mc (vi 0) (vi 0)) ?_
 refine Nss (Rg [0, 1, 2, 3, 4, 5, 6, 7, 8, 9] ?_)
 refine V 4 0 (fa 40 2 1 1 1 b1 0 1) ?_
 refine V 5 3 (ld 3 4 b1 1 false 1 (vi x0.Lo) (hs3.ownAt (k := 0) rfl)) ?_
 refine V 6 3 (ld 3 1 bz0 0 false 1 (vi z0) (hs3.pers _ _ hz0)) ?_
 refine V 7 3 (run_sub (t := 3) (t' := 3) (x := (.tmp 5)) (y := (.tmp 6)) (k := .i64) (a := x0.Lo) (b := z0) rfl rfl) ?_
 refine V 8 3 (ld 3 1 bz0 0 false 1 (vi z0) (hs3.pers _ _ hz0)) ?_
 refine V 9 0 (fa 40 2 2 2 1 b1 0 2) ?_
 refine V 10 3 (ld 3 9 b1 2 false 1 (vi x0.Hi) (hs3.ownAt (k := 0) rfl)) ?_
 refine V 11 3 (run_sub (t := 3) (t' := 3) (x := (.tmp 8)) (y := (.tmp 10)) (k := .i64) (a := z0) (b := x0.Hi) rfl rfl) ?_
 refine V 12 3 (run_max3 (x := (.const (vi 0))) (y := (.tmp 7)) (z := (.tmp 11)) (ats := #[3, 3, 3]) (a := 0) (b := (W64 (x0.Lo - z0))) (c := (W64 (z0 - x0.Hi))) rfl rfl rfl) ?_
 refine V 3 3 (ma 12 (vi (max (max 0 (W64 (x0.Lo - z0))) (W64 (z0 - x0.Hi))))) ?_
 refine Nt ?_
 refine CWP.ret (by kernel_rfl) ?_
 have hfin := some_inj h
 subst hfin
 exact ⟨rfl, (vi (max (max 0 (W64 (x0.Lo - z0))) (W64 (z0 - x0.Hi)))), res_of (l := [.tmp 3]) (by kernel_rfl) (vs := [(vi (max (max 0 (W64 (x0.Lo - z0))) (W64 (z0 - x0.Hi))))]) ⟨rfl, trivial⟩, (vi (max (max 0 (W64 (x0.Lo - z0))) (W64 (z0 - x0.Hi)))), F0, rfl, hs3.clear, rfl⟩
end Go.Proofs.YtlddakefmfcblaaGreatDoor
namespace Go.Proofs.YtlddakefmfcblaaGreatDoor
open Go.Proofs
def slices_MinFunc_api_Band_api_Band_L0 (N : Nat) (x0 : (List Band)) (x1 : (Band → Band → Option Int)) (x7 : Band) : (Int × Int × Int × Int) → Option (Flow Band (Int × Int × Int × Int)) := fun s29 =>
 (bif (decide (s29.1 < (x0.length : Int))) then (((idx x0 s29.1).bind fun x69 => ((x1 x69 ({ ID := s29.2.1, Lo := s29.2.2.1, Hi := s29.2.2.2 } : Band)).bind fun r75 => some (decide (r75 < 0)))).bind fun j59 => ((bif j59 then ((idx x0 s29.1).bind fun x97 => some (x97.ID, x97.Lo, x97.Hi)) else some (s29.2.1, s29.2.2.1, s29.2.2.2)).bind fun j86 => some (.next ((W64 (s29.1 + 1)), j86.1, j86.2.1, j86.2.2)))) else some (.done (s29.1, s29.2.1, s29.2.2.1, s29.2.2.2)))
def slices_MinFunc_api_Band_api_Band (N : Nat) (x0 : (List Band)) (x1 : (Band → Band → Option Int)) : Option Band :=
 (bif (decide ((x0.length : Int) < 1)) then none else ((idx x0 0).bind fun x7 => ((iter (slices_MinFunc_api_Band_api_Band_L0 N x0 x1 x7) N (1, x7.ID, x7.Lo, x7.Hi)).bind fun o => o.k (fun r => some r) (fun s39 => some ({ ID := s39.2.1, Lo := s39.2.2.1, Hi := s39.2.2.2 } : Band)))))
theorem co_slices_MinFunc_api_Band_api_Band : CallOk Tryz.prog 70 := fun _ _ => by kernel_rfl
set_option maxHeartbeats 4000000 in
set_option maxRecDepth 100000 in
theorem c_slices_MinFunc_api_Band_api_Band (N : Nat) (w0 : World) (F0 : Mem) (hF : ∀ b o, F0 b = some o → w0.heap[b]? = some o) (x0 : (List Band)) (a0_0 : Option Addr) (n0_0 : Nat) (hb0_0 : LC x0.length n0_0) (hs0_0 : SlA tBand F0 a0_0 x0) (gx1 : FuncId) (fx1 kx1 : List Value) (x1 : Band → Band → Option Int) (hox1 : CallOk Tryz.prog gx1) (hpx1 : Fn93 F0 gx1 fx1 kx1 x1) (r : Band) (h : slices_MinFunc_api_Band_api_Band N x0 x1 = some r) :
  Calls Tryz.prog 70 ([(.slice a0_0 x0.length n0_0), (.func (.func gx1) fx1.toArray kx1.toArray)] : List Value).toArray w0 (FRet w0 F0 fun F' v => v = (.agg (kBand r))) := by
 have hs0 := HS.start hF
 refine calls_of (n := 33) (c := bodyOf Tryz.f70) Tryz.func70 (by kernel_rfl) (by kernel_rfl) (by kernel_rfl) ?_
 refine Sq (Rg [0] ?_)
 refine Al 4 0 40 #[(vi 0), (vi 0), (vi 0)] hs0 (fun b1 w2 (hs3 : HS w0 F0 w2 F0 [(sb b1 #[(vi 0), (vi 0), (vi 0)] 40)]) => ?_)
 refine Nss ?_
 refine Sq (Rg [0, 1, 2] ?_)
 refine V 7 32 (mv 0 (.slice a0_0 x0.length n0_0)) ?_
 refine V 8 3 (ln 7 32 a0_0 x0.length n0_0 40 3 24) ?_
 refine V 9 4 (run_lss (t := 3) (t' := 3) (x := (.tmp 8)) (y := (.const (vi 1))) (k := .i64) (a := (x0.length : Int)) (b := 1) rfl rfl) ?_
 refine Nt ?_
 refine CWP.cond (t := (decide ((x0.length : Int) < 1))) (by kernel_rfl) rfl (fun hb4 => ?_) (fun hb4 => ?_)
 ·have h5 := cond_t h hb4
  refine Rg [0, 1] ?_
  refine V 10 20 (run_mkIface' (t := 9) (x := (.const (.string ⟨([115, 108, 105, 99, 101, 115, 46, 77, 105, 110, 70, 117, 110, 99, 58, 32, 101, 109, 112, 116, 121, 32, 108, 105, 115, 116] : List UInt8).toArray⟩))) (v := (.string ⟨(([115, 108, 105, 99, 101, 115, 46, 77, 105, 110, 70, 117, 110, 99, 58, 32, 101, 109, 112, 116, 121, 32, 108, 105, 115, 116] : List UInt8)).toArray⟩)) rfl (by kernel_rfl)) ?_
  cases h5
 ·have h6 := cond_f h hb4
  refine Sc ?_
  refine thenQ_nrm ?_
  refine Sq (Rg [0, 1, 2, 3, 4] ?_)
  refine V 11 32 (mv 0 (.slice a0_0 x0.length n0_0)) ?_
  obtain ⟨x7, hx8, h10⟩ := bind_some h6
  obtain ⟨hi9, hx8'⟩ := idx_spec hx8
  obtain ⟨b11, o12, C13, E14, fz15, rfl, hF17, hE18⟩ := SlA.open hs0_0 hx8'
  have hc20 := hE18 _ _ hx8'
  refine V 12 0 (run_index (t := 32) (x := (.tmp 11)) (y := (.const (vi 0))) (b := b11) (o := o12) (E := 40) (s := 3) (by_ := 24) rfl rfl (by kernel_rfl) hi9) ?_
  refine V 13 40 (lx 40 12 0 3 true 3 (.agg (kBand x7)) (hs3.pers _ _ hF17) hc20) ?_
  refine Al 5 0 40 #[(vi 0), (vi 0), (vi 0)] hs3 (fun b21 w22 (hs23 : HS w0 F0 w22 F0 [(sb b21 #[(vi 0), (vi 0), (vi 0)] 40), (sb b1 #[(vi 0), (vi 0), (vi 0)] 40)]) => ?_)
  refine RWP.store (ty := 0) (g := none) (by kernel_rfl) rfl (x := (.tmp 5)) (y := (.tmp 13)) (t := 40) (gg := true) (s := 3) (v := (.agg (kBand x7))) (b := b21) (o := 0) (C := #[(vi 0), (vi 0), (vi 0)]) rfl rfl (by kernel_rfl) hs23 (k := 0) rfl rfl rfl rfl (C' := (kBand x7)) rfl (fun w24 (hs25 : HS w0 F0 w24 F0 [(sb b21 (kBand x7) 40), (sb b1 #[(vi 0), (vi 0), (vi 0)] 40)]) => ?_)
  refine Nss ?_
  refine Sq (Rg [0] ?_)
  refine V 6 3 (mc (vi 1) (vi 1)) ?_
  refine Nt ?_
  obtain ⟨o26, ho27, h28⟩ := bind_some h10
  refine CWP.cut (fun f w => ∃ (s39 : (Int × Int × Int × Int)) (F2 : Mem), o26 = .done s39 ∧ HS w0 F0 w F2 [(sb b21 #[(vi s39.2.1), (vi s39.2.2.1), (vi s39.2.2.2)] 40), (sb b1 #[(vi 0), (vi 0), (vi 0)] 40)] ∧ Mem.le F0 F2 ∧ f.d = [] ∧ f 4 = (.pointer (some ⟨b1, 0, none⟩)) ∧ f 5 = (.pointer (some ⟨b21, 0, none⟩))) ?_ ?_
  ·refine Bk ?_
   refine CWP.loop (by kernel_rfl) (fun m f w => ∃ (s29 : (Int × Int × Int × Int)) (F1 : Mem), iter (slices_MinFunc_api_Band_api_Band_L0 N x0 x1 x7) m s29 = some o26 ∧ HS w0 F0 w F1 [(sb b21 #[(vi s29.2.1), (vi s29.2.2.1), (vi s29.2.2.2)] 40), (sb b1 #[(vi 0), (vi 0), (vi 0)] 40)] ∧ Mem.le F0 F1 ∧ f.d = [] ∧ f 0 = (.slice (some ⟨b11, o12, none⟩) x0.length n0_0) ∧ f 1 = (.func (.func gx1) fx1.toArray kx1.toArray) ∧ f 4 = (.pointer (some ⟨b1, 0, none⟩)) ∧ f 5 = (.pointer (some ⟨b21, 0, none⟩)) ∧ f 6 = (vi s29.1)) N ⟨(1, x7.ID, x7.Lo, x7.Hi), F0, ho27, hs25, (Mem.le.refl _), rfl, rfl, rfl, rfl, rfl, rfl⟩ ?_
   rintro m46 f w30 ⟨s29, F1, hit47, hs31, le32, e33, e34, e35, e36, e37, e38⟩
   obtain ⟨m48, fl49, rfl, hb50, hnx51⟩ := iter_step hit47
   refine Sq ?_
   refine Sq (Rg [0, 1, 2, 3] ?_)
   refine V 14 3 (mv 6 (vi s29.1) e38) ?_
   refine V 15 32 (mv 0 (.slice (some ⟨b11, o12, none⟩) x0.length n0_0) e34) ?_
   refine V 16 3 (ln 15 32 (some ⟨b11, o12, none⟩) x0.length n0_0 40 3 24) ?_
   refine V 17 4 (run_lss (t := 3) (t' := 3) (x := (.tmp 14)) (y := (.tmp 16)) (k := .i64) (a := s29.1) (b := (x0.length : Int)) rfl rfl) ?_
   refine Nt ?_
   refine CWP.cond (t := (decide (s29.1 < (x0.length : Int)))) (by kernel_rfl) rfl (fun hb52 => ?_) (fun hb52 => ?_)
   ·have h53 := cond_t hb50 hb52
    refine Sc ?_
    refine thenQ_nrm ?_
    refine Sq ?_
    refine Bk ?_
    refine Sq ?_
    obtain ⟨j59, hj67, h68⟩ := bind_some h53
    refine CWP.regionD (by kernel_rfl) (by kernel_rfl) (by kernel_rfl) (by kernel_rfl) (z := 8) (F := F1) (Lc := [(sb b21 #[(vi s29.2.1), (vi s29.2.2.1), (vi s29.2.2.2)] 40), (sb b1 #[(vi 0), (vi 0), (vi 0)] 40)]) (Lz := []) (l := [false, false, false, false, false, false, false, false]) (fuel := 8) (by kernel_rfl) (by kernel_rfl) hs31 (by simp) (by simp) (fun f w => ∃ (F3 : Mem), HS w0 F0 w F3 [(sb b21 #[(vi s29.2.1), (vi s29.2.2.1), (vi s29.2.2.2)] 40), (sb b1 #[(vi 0), (vi 0), (vi 0)] 40)] ∧ Mem.le F1 F3 ∧ f.d = [] ∧ f 0 = (.slice (some ⟨b11, o12, none⟩) x0.length n0_0) ∧ f 1 = (.func (.func gx1) fx1.toArray kx1.toArray) ∧ f 4 = (.pointer (some ⟨b1, 0, none⟩)) ∧ f 5 = (.pointer (some ⟨b21, 0, none⟩)) ∧ f 6 = (vi s29.1) ∧ f 27 = (.bool j59)) (fun wd54 hw55 => ?_) ?_
    ·refine Dt 0 20 93 _ (fun _ hq => mv 1 (.func (.func gx1) fx1.toArray kx1.toArray) e35) ?_
     refine Dt 1 21 32 _ (fun _ hq => mv 0 (.slice (some ⟨b11, o12, none⟩) x0.length n0_0) e34) ?_
     refine Dt 2 22 3 _ (fun _ hq => mv 6 (vi s29.1) e38) ?_
     obtain ⟨x69, hx70, h72⟩ := bind_some hj67
     obtain ⟨hi71, hx70'⟩ := idx_spec hx70
     have hc74 := hE18 _ _ hx70'
     refine Dt 3 23 0 (.pointer (some ⟨b11, (o12 + (s29.1 : Int).toNat * 3), none⟩)) (fun _ hq => ix 32 21 22 b11 o12 40 3 24 hi71) ?_
     refine Dt 4 24 40 _ (fun _ hq => lx 40 23 0 3 true 3 (.agg (kBand x69)) (hq.1.1 _ _ (le32 _ _ hF17)) hc74) ?_
     refine Dt 5 25 40 _ (fun _ hq => ld 40 5 b21 0 true 3 (.agg #[(vi s29.2.1), (vi s29.2.2.1), (vi s29.2.2.2)]) (hq.1.2 0 _ _ rfl) e37) ?_
     refine DWP.one (i := 6) (by kernel_rfl) ?_
     obtain ⟨r75, hr76, h77⟩ := bind_some h72
     refine DStep.call (l' := [true, true, true, true, true, true, true, false]) (zd := true) (by kernel_rfl) (by kernel_rfl) (by kernel_rfl) (dst := (some 26)) (ty := 3) (g := none) (by kernel_rfl) rfl (f0 := (.tmp 20)) (aos := #[(.tmp 24), (.tmp 25)]) (ats := #[40, 40]) (fid := gx1) (first := fx1.toArray) (cap := kx1.toArray) (args := (fx1 ++ (([(.agg (kBand x69)), (.agg #[(vi s29.2.1), (vi s29.2.2.1), (vi s29.2.2.2)])] : List Value) ++ kx1))) rfl hox1 (app_args2 (l := [(.agg (kBand x69)), (.agg #[(vi s29.2.1), (vi s29.2.2.1), (vi s29.2.2.2)])]) (fi := fx1) (k := kx1) (rfl)) hw55 (hpx1 wd54 F1 (x69) (({ ID := s29.2.1, Lo := s29.2.2.1, Hi := s29.2.2.2 } : Band)) _ le32 hw55.pers hr76) ?_
     intro v78 F4 w79 hs80 le81 hp82
     obtain rfl := hp82
     refine Dt 7 27 4 (.bool (decide (r75 < 0))) (fun _ hq => run_lss (t := 3) (t' := 3) (x := (.tmp 26)) (y := (.const (vi 0))) (k := .i64) (a := r75) (b := 0) rfl rfl) ?_
     obtain rfl := some_inj h77
     exact DWP.done (by kernel_rfl) ⟨F4, hs80, le81, e33, e34, e35, e36, e37, e38, rfl⟩
    ·rintro f w56 ⟨F3, hs57, le58, e60, e61, e62, e63, e64, e65, e66⟩
     refine thenQ_nrm ?_
     obtain ⟨j86, hj93, h94⟩ := bind_some h68
     refine CWP.cut (fun f w => ∃ (F5 : Mem), HS w0 F0 w F5 [(sb b21 #[(vi j86.1), (vi j86.2.1), (vi j86.2.2)] 40), (sb b1 #[(vi 0), (vi 0), (vi 0)] 40)] ∧ Mem.le F3 F5 ∧ f.d = [] ∧ f 0 = (.slice (some ⟨b11, o12, none⟩) x0.length n0_0) ∧ f 1 = (.func (.func gx1) fx1.toArray kx1.toArray) ∧ f 4 = (.pointer (some ⟨b1, 0, none⟩)) ∧ f 5 = (.pointer (some ⟨b21, 0, none⟩)) ∧ f 6 = (vi s29.1)) ?_ ?_
     ·refine CWP.cond (t := j59) (by kernel_rfl) e66 (fun hb95 => ?_) (fun hb95 => ?_)
      ·have h96 := cond_t hj93 hb95
       refine Rg [0, 1, 2, 3, 4] ?_
       refine V 28 32 (mv 0 (.slice (some ⟨b11, o12, none⟩) x0.length n0_0) e61) ?_
       refine V 29 3 (mv 6 (vi s29.1) e65) ?_
       obtain ⟨x97, hx98, h100⟩ := bind_some h96
       obtain ⟨hi99, hx98'⟩ := idx_spec hx98
       have hc102 := hE18 _ _ hx98'
       refine V 30 0 (ix 32 28 29 b11 o12 40 3 24 hi99) ?_
       refine V 31 40 (lx 40 30 0 3 true 3 (.agg (kBand x97)) (hs57.pers _ _ ((le32.trans le58) _ _ hF17)) hc102) ?_
       refine RWP.store (ty := 0) (g := none) (by kernel_rfl) rfl (x := (.tmp 5)) (y := (.tmp 31)) (t := 40) (gg := true) (s := 3) (v := (.agg (kBand x97))) (b := b21) (o := 0) (C := #[(vi s29.2.1), (vi s29.2.2.1), (vi s29.2.2.2)]) e64 rfl (by kernel_rfl) hs57 (k := 0) rfl rfl rfl rfl (C' := (kBand x97)) rfl (fun w103 (hs104 : HS w0 F0 w103 F3 [(sb b21 (kBand x97) 40), (sb b1 #[(vi 0), (vi 0), (vi 0)] 40)]) => ?_)
       refine RWP.nil ?_
       obtain rfl := some_inj h100
       exact .inl ⟨rfl, F3, hs104, (Mem.le.refl _), e60, e61, e62, e63, e64, e65⟩
      ·have h105 := cond_f hj93 hb95
       refine Sc ?_
       obtain rfl := some_inj h105
       exact .inl ⟨rfl, F3, hs57, (Mem.le.refl _), e60, e61, e62, e63, e64, e65⟩
     ·rintro f w83 ⟨F5, hs84, le85, e87, e88, e89, e90, e91, e92⟩
      refine blockQ_nrm ?_
      refine thenQ_nrm ?_
      refine Rg [0, 1, 2] ?_
      refine V 18 3 (mv 6 (vi s29.1) e92) ?_
      refine V 19 3 (run_add (t := 3) (t' := 3) (x := (.tmp 18)) (y := (.const (vi 1))) (k := .i64) (a := s29.1) (b := 1) rfl rfl) ?_
      refine V 6 3 (ma 19 (vi (W64 (s29.1 + 1)))) ?_
      refine RWP.nil ?_
      have hn106 := iter_next h94 hnx51
      exact ⟨m48, Nat.lt_succ_self _, ((W64 (s29.1 + 1)), j86.1, j86.2.1, j86.2.2), F5, hn106, hs84, ((le32.trans le58).trans le85), e87, e88, e89, e90, e91, rfl⟩
   ·have h107 := cond_f hb50 hb52
    refine CWP.exit (by kernel_rfl) ?_
    refine thenQ_ex ?_
    refine thenQ_ex ?_
    refine blockQ_hit rfl ?_
    have ho108 := iter_done h107 hnx51
    exact .inl ⟨rfl, (s29.1, s29.2.1, s29.2.2.1, s29.2.2.2), F1, ho108, hs31, le32, e33, e36, e37⟩
  ·rintro f w40 ⟨s39, F2, rfl, hs41, le42, e43, e44, e45⟩
   have h109 := k_done h28
   refine thenQ_nrm ?_
   refine Sq (Rg [0, 1] ?_)
   refine V 32 40 (ld 40 5 b21 0 true 3 (.agg #[(vi s39.2.1), (vi s39.2.2.1), (vi s39.2.2.2)]) (hs41.ownAt (k := 0) rfl) e45) ?_
   refine RWP.store (ty := 0) (g := none) (by kernel_rfl) rfl (x := (.tmp 4)) (y := (.tmp 32)) (t := 40) (gg := true) (s := 3) (v := (.agg #[(vi s39.2.1), (vi s39.2.2.1), (vi s39.2.2.2)])) (b := b1) (o := 0) (C := #[(vi 0), (vi 0), (vi 0)]) e44 rfl (by kernel_rfl) hs41 (k := 1) rfl rfl rfl rfl (C' := #[(vi s39.2.1), (vi s39.2.2.1), (vi s39.2.2.2)]) rfl (fun w110 (hs111 : HS w0 F0 w110 F2 [(sb b21 #[(vi s39.2.1), (vi s39.2.2.1), (vi s39.2.2.2)] 40), (sb b1 #[(vi s39.2.1), (vi s39.2.2.1), (vi s39.2.2.2)] 40)]) => ?_)
   refine Nt ?_
   refine CWP.ret (by kernel_rfl) ?_
   have hfin := some_inj h109
   subst hfin
   exact ⟨e43, (.agg #[(vi s39.2.1), (vi s39.2.2.1), (vi s39.2.2.2)]), res_of (l := [.cell 4 40]) (by kernel_rfl) (vs := [(.agg #[(vi s39.2.1), (vi s39.2.2.1), (vi s39.2.2.2)])]) ⟨b1, 0, e44, run_loadVar' (t := 40) (g := true) (s := 3) (by kernel_rfl) (hs111.ownAt (k := 1) rfl) rfl (by decide), trivial⟩, (.agg #[(vi s39.2.1), (vi s39.2.2.1), (vi s39.2.2.2)]), F2, rfl, hs111.clear, rfl⟩
end Go.Proofs.YtlddakefmfcblaaGreatDoor
namespace Go.Proofs.YtlddakefmfcblaaGreatDoor
open Go.Proofs
def cmp_isNaN_int (N : Nat) (x0 : Int) : Option Bool :=
 some (x0 != x0)
theorem co_cmp_isNaN_int : CallOk Tryz.prog 108 := fun _ _ => by kernel_rfl
set_option maxHeartbeats 4000000 in
set_option maxRecDepth 100000 in
theorem c_cmp_isNaN_int (N : Nat) (w0 : World) (F0 : Mem) (hF : ∀ b o, F0 b = some o → w0.heap[b]? = some o) (x0 : Int) (r : Bool) (h : cmp_isNaN_int N x0 = some r) :
  Calls Tryz.prog 108 ([(vi x0)] : List Value).toArray w0 (FRet w0 F0 fun F' v => v = (.bool r)) := by
 have hs0 := HS.start hF
 refine calls_of (n := 6) (c := bodyOf Tryz.f108) Tryz.func108 (by kernel_rfl) (by kernel_rfl) (by kernel_rfl) ?_
 refine Sq (Rg [0] ?_)
 refine V 2 4 (mc (.bool false) (.bool false)) ?_
 refine Nss (Rg [0, 1, 2, 3] ?_)
 refine V 3 3 (mv 0 (vi x0)) ?_
 refine V 4 3 (mv 0 (vi x0)) ?_
 refine V 5 4 (run_neq (t := 3) (t' := 3) (x := (.tmp 3)) (y := (.tmp 4)) (k := .i64) (a := x0) (b := x0) rfl rfl) ?_
 refine V 2 4 (ma 5 (.bool (x0 != x0))) ?_
 refine Nt ?_
 refine CWP.ret (by kernel_rfl) ?_
 have hfin := some_inj h
 subst hfin
 exact ⟨rfl, (.bool (x0 != x0)), res_of (l := [.tmp 2]) (by kernel_rfl) (vs := [(.bool (x0 != x0))]) ⟨rfl, trivial⟩, (.bool (x0 != x0)), F0, rfl, hs0.clear, rfl⟩
end Go.Proofs.YtlddakefmfcblaaGreatDoor
namespace Go.Proofs.YtlddakefmfcblaaGreatDoor
open Go.Proofs
def cmp_Compare_int (N : Nat) (x0 : Int) (x1 : Int) : Option Int :=
 ((cmp_isNaN_int N x0).bind fun r1 => ((cmp_isNaN_int N x1).bind fun r9 => (bif r1 then (bif r9 then some 0 else some (-1)) else (bif r9 then some 1 else (bif (decide (x0 < x1)) then some (-1) else (bif (decide (x0 > x1)) then some 1 else some 0))))))
theorem co_cmp_Compare_int : CallOk Tryz.prog 72 := fun _ _ => by kernel_rfl
set_option maxHeartbeats 4000000 in
set_option maxRecDepth 100000 in
theorem c_cmp_Compare_int (N : Nat) (w0 : World) (F0 : Mem) (hF : ∀ b o, F0 b = some o → w0.heap[b]? = some o) (x0 : Int) (x1 : Int) (r : Int) (h : cmp_Compare_int N x0 x1 = some r) :
  Calls Tryz.prog 72 ([(vi x0), (vi x1)] : List Value).toArray w0 (FRet w0 F0 fun F' v => v = (vi r)) := by
 have hs0 := HS.start hF
 refine calls_of (n := 20) (c := bodyOf Tryz.f72) Tryz.func72 (by kernel_rfl) (by kernel_rfl) (by kernel_rfl) ?_
 refine Sq (Rg [0] ?_)
 refine V 4 3 (mc (vi 0) (vi 0)) ?_
 refine Nss (Rg [0, 1, 2] ?_)
 refine V 7 3 (mv 0 (vi x0)) ?_
 obtain ⟨r1, hr2, h3⟩ := bind_some h
 refine Cl 8 4 108 #[(.tmp 7)] #[3] co_cmp_isNaN_int hs0 (c_cmp_isNaN_int N w0 F0 hs0.pers (x0) _ hr2) ?_
 intro v4 F1 w5 hs6 le7 hp8
 obtain rfl := hp8
 refine V 5 4 (ma 8 (.bool r1)) ?_
 refine Nss (Rg [0, 1, 2] ?_)
 refine V 9 3 (mv 1 (vi x1)) ?_
 obtain ⟨r9, hr10, h11⟩ := bind_some h3
 refine Cl 10 4 108 #[(.tmp 9)] #[3] co_cmp_isNaN_int hs6 (c_cmp_isNaN_int N w5 F1 hs6.pers (x1) _ hr10) ?_
 intro v12 F2 w13 hs14 le15 hp16
 obtain rfl := hp16
 refine V 6 4 (ma 10 (.bool r9)) ?_
 refine Nss ?_
 refine Sq (Rg [0] ?_)
 refine V 11 4 (mv 5 (.bool r1)) ?_
 refine Nt ?_
 refine CWP.cond (t := r1) (by kernel_rfl) rfl (fun hb17 => ?_) (fun hb17 => ?_)
 ·have h18 := cond_t h11 hb17
  refine Sq ?_
  refine Sq (Rg [0] ?_)
  refine V 12 4 (mv 6 (.bool r9)) ?_
  refine Nt ?_
  refine CWP.cond (t := r9) (by kernel_rfl) rfl (fun hb19 => ?_) (fun hb19 => ?_)
  ·have h20 := cond_t h18 hb19
   refine Sq (Rg [0] ?_)
   refine V 4 3 (mc (vi 0) (vi 0)) ?_
   refine Nt ?_
   refine CWP.ret (by kernel_rfl) ?_
   refine thenQ_ret ?_
   refine thenQ_ret ?_
   have hfin := some_inj h20
   subst hfin
   exact ⟨rfl, (vi 0), res_of (l := [.tmp 4]) (by kernel_rfl) (vs := [(vi 0)]) ⟨rfl, trivial⟩, (vi 0), F2, rfl, hs14.clear, rfl⟩
  ·have h21 := cond_f h18 hb19
   refine Sc ?_
   refine thenQ_nrm ?_
   refine Sq (Rg [0] ?_)
   refine V 4 3 (mc (vi (-1)) (vi (-1))) ?_
   refine Nt ?_
   refine CWP.ret (by kernel_rfl) ?_
   refine thenQ_ret ?_
   have hfin := some_inj h21
   subst hfin
   exact ⟨rfl, (vi (-1)), res_of (l := [.tmp 4]) (by kernel_rfl) (vs := [(vi (-1))]) ⟨rfl, trivial⟩, (vi (-1)), F2, rfl, hs14.clear, rfl⟩
 ·have h22 := cond_f h11 hb17
  refine Sc ?_
  refine thenQ_nrm ?_
  refine Sq ?_
  refine Sq (Rg [0] ?_)
  refine V 13 4 (mv 6 (.bool r9)) ?_
  refine Nt ?_
  refine CWP.cond (t := r9) (by kernel_rfl) rfl (fun hb23 => ?_) (fun hb23 => ?_)
  ·have h24 := cond_t h22 hb23
   refine Sq (Rg [0] ?_)
   refine V 4 3 (mc (vi 1) (vi 1)) ?_
   refine Nt ?_
   refine CWP.ret (by kernel_rfl) ?_
   refine thenQ_ret ?_
   have hfin := some_inj h24
   subst hfin
   exact ⟨rfl, (vi 1), res_of (l := [.tmp 4]) (by kernel_rfl) (vs := [(vi 1)]) ⟨rfl, trivial⟩, (vi 1), F2, rfl, hs14.clear, rfl⟩
  ·have h25 := cond_f h22 hb23
   refine Sc ?_
   refine thenQ_nrm ?_
   refine Sq ?_
   refine Sq (Rg [0, 1, 2] ?_)
   refine V 14 3 (mv 0 (vi x0)) ?_
   refine V 15 3 (mv 1 (vi x1)) ?_
   refine V 16 4 (run_lss (t := 3) (t' := 3) (x := (.tmp 14)) (y := (.tmp 15)) (k := .i64) (a := x0) (b := x1) rfl rfl) ?_
   refine Nt ?_
   refine CWP.cond (t := (decide (x0 < x1))) (by kernel_rfl) rfl (fun hb26 => ?_) (fun hb26 => ?_)
   ·have h27 := cond_t h25 hb26
    refine Sq (Rg [0] ?_)
    refine V 4 3 (mc (vi (-1)) (vi (-1))) ?_
    refine Nt ?_
    refine CWP.ret (by kernel_rfl) ?_
    refine thenQ_ret ?_
    have hfin := some_inj h27
    subst hfin
    exact ⟨rfl, (vi (-1)), res_of (l := [.tmp 4]) (by kernel_rfl) (vs := [(vi (-1))]) ⟨rfl, trivial⟩, (vi (-1)), F2, rfl, hs14.clear, rfl⟩
   ·have h28 := cond_f h25 hb26
    refine Sc ?_
    refine thenQ_nrm ?_
    refine Sq ?_
    refine Sq (Rg [0, 1, 2] ?_)
    refine V 17 3 (mv 0 (vi x0)) ?_
    refine V 18 3 (mv 1 (vi x1)) ?_
    refine V 19 4 (run_gtr (t := 3) (t' := 3) (x := (.tmp 17)) (y := (.tmp 18)) (k := .i64) (a := x0) (b := x1) rfl rfl) ?_
    refine Nt ?_
    refine CWP.cond (t := (decide (x0 > x1))) (by kernel_rfl) rfl (fun hb29 => ?_) (fun hb29 => ?_)
    ·have h30 := cond_t h28 hb29
     refine Sq (Rg [0] ?_)
     refine V 4 3 (mc (vi 1) (vi 1)) ?_
     refine Nt ?_
     refine CWP.ret (by kernel_rfl) ?_
     refine thenQ_ret ?_
     have hfin := some_inj h30
     subst hfin
     exact ⟨rfl, (vi 1), res_of (l := [.tmp 4]) (by kernel_rfl) (vs := [(vi 1)]) ⟨rfl, trivial⟩, (vi 1), F2, rfl, hs14.clear, rfl⟩
    ·have h31 := cond_f h28 hb29
     refine Sc ?_
     refine thenQ_nrm ?_
     refine Sq (Rg [0] ?_)
     refine V 4 3 (mc (vi 0) (vi 0)) ?_
     refine Nt ?_
     refine CWP.ret (by kernel_rfl) ?_
     have hfin := some_inj h31
     subst hfin
     exact ⟨rfl, (vi 0), res_of (l := [.tmp 4]) (by kernel_rfl) (vs := [(vi 0)]) ⟨rfl, trivial⟩, (vi 0), F2, rfl, hs14.clear, rfl⟩
end Go.Proofs.YtlddakefmfcblaaGreatDoor
namespace Go.Proofs.YtlddakefmfcblaaGreatDoor
open Go.Proofs
def air_Nearest_2 (N : Nat) (x0 : Band) (x1 : Band) (z0 : (Band → Option Int)) : Option Int :=
 (((z0 x0).bind fun r17 => ((z0 x1).bind fun r25 => ((cmp_Compare_int N r17 r25).bind fun r33 => some r33))).bind fun j12 => some j12)
theorem co_air_Nearest_2 : CallOk Tryz.prog 71 := fun _ _ => by kernel_rfl
set_option maxHeartbeats 4000000 in
set_option maxRecDepth 100000 in
theorem c_air_Nearest_2 (N : Nat) (w0 : World) (F0 : Mem) (hF : ∀ b o, F0 b = some o → w0.heap[b]? = some o) (x0 : Band) (x1 : Band) (bz0 : Nat) (z0 : (Band → Option Int)) (gz0_0 : FuncId) (fz0_0 : List Value) (kz0_0 : List Value) (hoz0_0 : CallOk Tryz.prog gz0_0) (hpz0_0 : Fn90 F0 gz0_0 fz0_0 kz0_0 z0) (hz0 : F0 bz0 = some (oc #[(.func (.func gz0_0) fz0_0.toArray kz0_0.toArray)] 90)) (r : Int) (h : air_Nearest_2 N x0 x1 z0 = some r) :
  Calls Tryz.prog 71 ([(.agg (kBand x0)), (.agg (kBand x1)), (.pointer (some ⟨bz0, 0, none⟩))] : List Value).toArray w0 (FRet w0 F0 fun F' v => v = (vi r)) := by
 have hs0 := HS.start hF
 refine calls_of (n := 13) (c := bodyOf Tryz.f71) Tryz.func71 (by kernel_rfl) (by kernel_rfl) (by kernel_rfl) ?_
 refine Sq (Rg [0, 1, 2] ?_)
 refine Bx 3 0 0 40 (kBand x0) hs0 (fun b1 w2 (hs3 : HS w0 F0 w2 F0 [(sb b1 (kBand x0) 40)]) => ?_)
 refine Bx 4 0 1 40 (kBand x1) hs3 (fun b4 w5 (hs6 : HS w0 F0 w5 F0 [(sb b4 (kBand x1) 40), (sb b1 (kBand x0) 40)]) => ?_)
 refine V 5 3 (mc (vi 0) (vi 0)) ?_
 refine Nss ?_
 obtain ⟨j12, hj15, h16⟩ := bind_some h
 refine CWP.regionD (by kernel_rfl) (by kernel_rfl) (by kernel_rfl) (by kernel_rfl) (z := 8) (F := F0) (Lc := [(sb b4 (kBand x1) 40), (sb b1 (kBand x0) 40)]) (Lz := []) (l := [false, false, false, false, false, false, false, false]) (fuel := 8) (by kernel_rfl) (by kernel_rfl) hs6 (by simp) (by simp) (fun f w => ∃ (F1 : Mem), HS w0 F0 w F1 [] ∧ Mem.le F0 F1 ∧ f.d = [] ∧ f 5 = (vi j12)) (fun wd7 hw8 => ?_) ?_
 ·refine Dt 0 6 90 _ (fun _ hq => ld 90 2 bz0 0 false 1 (.func (.func gz0_0) fz0_0.toArray kz0_0.toArray) (hq.1.1 _ _ hz0)) ?_
  refine Dt 1 7 40 _ (fun _ hq => ld 40 3 b1 0 true 3 (.agg (kBand x0)) (hq.1.2 1 _ _ rfl)) ?_
  refine Dt 3 9 90 _ (fun _ hq => ld 90 2 bz0 0 false 1 (.func (.func gz0_0) fz0_0.toArray kz0_0.toArray) (hq.1.1 _ _ hz0)) ?_
  refine Dt 4 10 40 _ (fun _ hq => ld 40 4 b4 0 true 3 (.agg (kBand x1)) (hq.1.2 0 _ _ rfl)) ?_
  refine DWP.one (i := 2) (by kernel_rfl) ?_
  obtain ⟨r17, hr18, h19⟩ := bind_some hj15
  refine DStep.call (l' := [true, true, true, true, true, false, false, false]) (zd := true) (by kernel_rfl) (by kernel_rfl) (by kernel_rfl) (dst := (some 8)) (ty := 3) (g := none) (by kernel_rfl) rfl (f0 := (.tmp 6)) (aos := #[(.tmp 7)]) (ats := #[40]) (fid := gz0_0) (first := fz0_0.toArray) (cap := kz0_0.toArray) (args := (fz0_0 ++ (([(.agg (kBand x0))] : List Value) ++ kz0_0))) rfl hoz0_0 (app_args2 (l := [(.agg (kBand x0))]) (fi := fz0_0) (k := kz0_0) (rfl)) hw8 (hpz0_0 wd7 F0 (x0) _ (Mem.le.refl _) hw8.pers hr18) ?_
  intro v20 F2 w21 hs22 le23 hp24
  obtain rfl := hp24
  refine DWP.one (i := 5) (by kernel_rfl) ?_
  obtain ⟨r25, hr26, h27⟩ := bind_some h19
  refine DStep.call (l' := [true, true, true, true, true, true, false, false]) (zd := true) (by kernel_rfl) (by kernel_rfl) (by kernel_rfl) (dst := (some 11)) (ty := 3) (g := none) (by kernel_rfl) rfl (f0 := (.tmp 9)) (aos := #[(.tmp 10)]) (ats := #[40]) (fid := gz0_0) (first := fz0_0.toArray) (cap := kz0_0.toArray) (args := (fz0_0 ++ (([(.agg (kBand x1))] : List Value) ++ kz0_0))) rfl hoz0_0 (app_args2 (l := [(.agg (kBand x1))]) (fi := fz0_0) (k := kz0_0) (rfl)) hs22 (hpz0_0 w21 F2 (x1) _ le23 hs22.pers hr26) ?_
  intro v28 F3 w29 hs30 le31 hp32
  obtain rfl := hp32
  refine DWP.one (i := 6) (by kernel_rfl) ?_
  obtain ⟨r33, hr34, h35⟩ := bind_some h27
  refine DStep.call (l' := [true, true, true, true, true, true, true, false]) (zd := true) (by kernel_rfl) (by kernel_rfl) (by kernel_rfl) (dst := (some 12)) (ty := 3) (g := none) (by kernel_rfl) rfl (f0 := (.func 72)) (aos := #[(.tmp 8), (.tmp 11)]) (ats := #[3, 3]) (fid := 72) (first := #[]) (cap := #[]) (args := [(vi r17), (vi r25)]) rfl co_cmp_Compare_int (rfl) hs30 (c_cmp_Compare_int N w29 F3 hs30.pers (r17) (r25) _ hr34) ?_
  intro v36 F4 w37 hs38 le39 hp40
  obtain rfl := hp40
  refine Dt 7 5 3 _ (fun _ hq => ma 12 (vi r33)) ?_
  obtain rfl := some_inj h35
  have hs41 : HS w0 F0 w37 F4 [(sb b1 (kBand x0) 40)] := hs38.drop 0
  have hs42 : HS w0 F0 w37 F4 [] := hs41.drop 0
  exact DWP.done (by kernel_rfl) ⟨F4, hs42, ((le23.trans le31).trans le39), rfl, rfl⟩
 ·rintro f w9 ⟨F1, hs10, le11, e13, e14⟩
  refine thenQ_nrm ?_
  refine CWP.ret (by kernel_rfl) ?_
  have hfin := some_inj h16
  subst hfin
  exact ⟨e13, (vi j12), res_of (l := [.tmp 5]) (by kernel_rfl) (vs := [(vi j12)]) ⟨e14, trivial⟩, (vi j12), F1, rfl, hs10.clear, rfl⟩
end Go.Proofs.YtlddakefmfcblaaGreatDoor
namespace Go.Proofs.YtlddakefmfcblaaGreatDoor
open Go.Proofs
def air_Nearest (N : Nat) (x0 : (List Band)) (x1 : Int) : Option (Int × Int × Int) :=
 ((air_wrongBands N x0 x1).bind fun r4 => (bif (r4 != 0) then some (0, 0, r4) else (bif ((x0.length : Int) == 0) then some (0, 0, 3) else ((slices_MinFunc_api_Band_api_Band N x0 (fun y0 y1 => air_Nearest_2 N y0 y1 (fun y0 => air_Nearest_1 N y0 x1))).bind fun r29 => (((air_Nearest_1 N r29 x1).bind fun r54 => some r54).bind fun j47 => some (r29.ID, j47, 0))))))
theorem co_air_Nearest : CallOk Tryz.prog 24 := fun _ _ => by kernel_rfl
set_option maxHeartbeats 4000000 in
set_option maxRecDepth 100000 in
theorem c_air_Nearest (N : Nat) (w0 : World) (F0 : Mem) (hF : ∀ b o, F0 b = some o → w0.heap[b]? = some o) (x0 : (List Band)) (a0_0 : Option Addr) (n0_0 : Nat) (hb0_0 : LC x0.length n0_0) (hs0_0 : SlA tBand F0 a0_0 x0) (x1 : Int) (r : (Int × Int × Int)) (h : air_Nearest N x0 x1 = some r) :
  Calls Tryz.prog 24 ([(.slice a0_0 x0.length n0_0), (vi x1)] : List Value).toArray w0 (FRet w0 F0 fun F' v => v = (.tuple #[(vi r.1), (vi r.2.1), (vi r.2.2)])) := by
 have hs0 := HS.start hF
 refine calls_of (n := 28) (c := bodyOf Tryz.f24) Tryz.func24 (by kernel_rfl) (by kernel_rfl) (by kernel_rfl) ?_
 refine Sq (Rg [0, 1, 2, 3] ?_)
 refine Bx 3 0 1 3 #[(vi x1)] hs0 (fun b1 w2 (hs3 : HS w0 F0 w2 F0 [(sb b1 #[(vi x1)] 3)]) => ?_)
 refine V 4 3 (mc (vi 0) (vi 0)) ?_
 refine V 5 3 (mc (vi 0) (vi 0)) ?_
 refine V 6 23 (mc (vi 0) (vi 0)) ?_
 refine Nss ?_
 refine Sq (Rg [0, 1, 2, 3] ?_)
 refine V 10 32 (mv 0 (.slice a0_0 x0.length n0_0)) ?_
 refine V 11 3 (ld 3 3 b1 0 false 1 (vi x1) (hs3.ownAt (k := 0) rfl)) ?_
 obtain ⟨r4, hr5, h6⟩ := bind_some h
 refine Cl 12 23 68 #[(.tmp 10), (.tmp 11)] #[32, 3] co_air_wrongBands hs3 (c_air_wrongBands N w2 F0 hs3.pers (x0) a0_0 n0_0 hb0_0 hs0_0 (x1) _ hr5) ?_
 intro v7 F1 w8 hs9 le10 hp11
 obtain rfl := hp11
 refine V 7 23 (ma 12 (vi r4)) ?_
 refine Nss (Rg [0, 1] ?_)
 refine V 13 23 (mv 7 (vi r4)) ?_
 refine V 14 4 (run_neq (t := 23) (t' := 23) (x := (.tmp 13)) (y := (.const (vi 0))) (k := .i64) (a := r4) (b := 0) rfl rfl) ?_
 refine Nt ?_
 refine CWP.cond (t := (r4 != 0)) (by kernel_rfl) rfl (fun hb12 => ?_) (fun hb12 => ?_)
 ·have h13 := cond_t h6 hb12
  refine Sq (Rg [0, 1, 2, 3] ?_)
  refine V 15 23 (mv 7 (vi r4)) ?_
  refine V 4 3 (mc (vi 0) (vi 0)) ?_
  refine V 5 3 (mc (vi 0) (vi 0)) ?_
  refine V 6 23 (ma 15 (vi r4)) ?_
  refine Nt ?_
  refine CWP.ret (by kernel_rfl) ?_
  refine thenQ_ret ?_
  have hfin := some_inj h13
  subst hfin
  exact ⟨rfl, (.tuple #[(vi 0), (vi 0), (vi r4)]), res_of (l := [.tmp 4, .tmp 5, .tmp 6]) (by kernel_rfl) (vs := [(vi 0), (vi 0), (vi r4)]) ⟨rfl, ⟨rfl, ⟨rfl, trivial⟩⟩⟩, (.tuple #[(vi 0), (vi 0), (vi r4)]), F1, rfl, hs9.clear, rfl⟩
 ·have h14 := cond_f h6 hb12
  refine Sc ?_
  refine thenQ_nrm ?_
  refine Sq ?_
  refine Sq (Rg [0, 1, 2] ?_)
  refine V 16 32 (mv 0 (.slice a0_0 x0.length n0_0)) ?_
  refine V 17 3 (ln 16 32 a0_0 x0.length n0_0 40 3 24) ?_
  refine V 18 4 (run_eql (t := 3) (t' := 3) (x := (.tmp 17)) (y := (.const (vi 0))) (k := .i64) (a := (x0.length : Int)) (b := 0) rfl rfl) ?_
  refine Nt ?_
  refine CWP.cond (t := ((x0.length : Int) == 0)) (by kernel_rfl) rfl (fun hb15 => ?_) (fun hb15 => ?_)
  ·have h16 := cond_t h14 hb15
   refine Sq (Rg [0, 1, 2] ?_)
   refine V 4 3 (mc (vi 0) (vi 0)) ?_
   refine V 5 3 (mc (vi 0) (vi 0)) ?_
   refine V 6 23 (mc (vi 3) (vi 3)) ?_
   refine Nt ?_
   refine CWP.ret (by kernel_rfl) ?_
   refine thenQ_ret ?_
   have hfin := some_inj h16
   subst hfin
   exact ⟨rfl, (.tuple #[(vi 0), (vi 0), (vi 3)]), res_of (l := [.tmp 4, .tmp 5, .tmp 6]) (by kernel_rfl) (vs := [(vi 0), (vi 0), (vi 3)]) ⟨rfl, ⟨rfl, ⟨rfl, trivial⟩⟩⟩, (.tuple #[(vi 0), (vi 0), (vi 3)]), F1, rfl, hs9.clear, rfl⟩
  ·have h17 := cond_f h14 hb15
   refine Sc ?_
   refine thenQ_nrm ?_
   refine Sq (Rg [0, 1, 2] ?_)
   refine V 19 90 (run_makeFunc (fn := .func 69) (first := #[]) (cap := #[(.tmp 3)]) (fl := []) (cl := [(.pointer (some ⟨b1, 0, none⟩))]) rfl (rfl)) ?_
   refine RWP.alloc (dst := (some 8)) (ty := 0) (g := none) (by kernel_rfl) rfl (t := 90) (z := .nilFunc) (by kernel_rfl) (C := #[.nilFunc]) rfl hs9 (fun b18 w19 (hs20 : HS w0 F0 w19 F1 [(sb b18 #[.nilFunc] 90), (sb b1 #[(vi x1)] 3)]) => ?_)
   refine RWP.store (ty := 0) (g := none) (by kernel_rfl) rfl (x := (.tmp 8)) (y := (.tmp 19)) (t := 90) (gg := false) (s := 1) (v := (.func (.func 69) #[] #[(.pointer (some ⟨b1, 0, none⟩))])) (b := b18) (o := 0) (C := #[.nilFunc]) rfl rfl (by kernel_rfl) hs20 (k := 0) rfl rfl rfl rfl (C' := #[(.func (.func 69) #[] #[(.pointer (some ⟨b1, 0, none⟩))])]) rfl (fun w21 (hs22 : HS w0 F0 w21 F1 [(sb b18 #[(.func (.func 69) #[] #[(.pointer (some ⟨b1, 0, none⟩))])] 90), (sb b1 #[(vi x1)] 3)]) => ?_)
   refine Nss (Rg [0, 1, 2, 3, 4] ?_)
   refine V 20 32 (mv 0 (.slice a0_0 x0.length n0_0)) ?_
   refine V 21 93 (run_makeFunc (fn := .func 71) (first := #[]) (cap := #[(.tmp 8)]) (fl := []) (cl := [(.pointer (some ⟨b18, 0, none⟩))]) rfl (rfl)) ?_
   obtain ⟨F2, hs23, le24, hF25⟩ : ∃ Fq, HS w0 F0 w21 Fq [(sb b18 #[(.func (.func 69) #[] #[(.pointer (some ⟨b1, 0, none⟩))])] 90)] ∧ Mem.le F1 Fq ∧ Fq b1 = some (oc #[(vi x1)] 3) := HS.freezeC hs22 (k := 1) rfl
   obtain ⟨F3, hs26, le27, hF28⟩ : ∃ Fq, HS w0 F0 w21 Fq [] ∧ Mem.le F2 Fq ∧ Fq b18 = some (oc #[(.func (.func 69) #[] #[(.pointer (some ⟨b1, 0, none⟩))])] 90) := HS.freezeC hs23 (k := 0) rfl
   obtain ⟨r29, hr30, h31⟩ := bind_some h17
   refine Cl 22 40 70 #[(.tmp 20), (.tmp 21)] #[32, 93] co_slices_MinFunc_api_Band_api_Band hs26 (c_slices_MinFunc_api_Band_api_Band N w21 F3 hs26.pers (x0) a0_0 n0_0 hb0_0 (SlA.mono hs0_0 ((le10.trans le24).trans le27)) 71 [] [(.pointer (some ⟨b18, 0, none⟩))] (fun y0 y1 => air_Nearest_2 N y0 y1 (fun y0 => air_Nearest_1 N y0 x1)) co_air_Nearest_2 (fun w1 F1 y0 y1 r le1 pe1 hr1 => c_air_Nearest_2 N w1 F1 pe1  y0 y1 b18 (fun y0 => air_Nearest_1 N y0 x1) 69 [] [(.pointer (some ⟨b1, 0, none⟩))] co_air_Nearest_1 (Fn90.mono (fun w1 F1 y0 r le1 pe1 hr1 => c_air_Nearest_1 N w1 F1 pe1  y0 b1 x1 (le1 _ _ (le27 _ _ hF25)) r hr1) le1) (le1 _ _ hF28) r hr1) _ hr30) ?_
   intro v32 F4 w33 hs34 le35 hp36
   obtain rfl := hp36
   refine Al 9 0 40 #[(vi 0), (vi 0), (vi 0)] hs34 (fun b37 w38 (hs39 : HS w0 F0 w38 F4 [(sb b37 #[(vi 0), (vi 0), (vi 0)] 40)]) => ?_)
   refine RWP.store (ty := 0) (g := none) (by kernel_rfl) rfl (x := (.tmp 9)) (y := (.tmp 22)) (t := 40) (gg := true) (s := 3) (v := (.agg (kBand r29))) (b := b37) (o := 0) (C := #[(vi 0), (vi 0), (vi 0)]) rfl rfl (by kernel_rfl) hs39 (k := 0) rfl rfl rfl rfl (C' := (kBand r29)) rfl (fun w40 (hs41 : HS w0 F0 w40 F4 [(sb b37 (kBand r29) 40)]) => ?_)
   refine Nss ?_
   obtain ⟨j47, hj52, h53⟩ := bind_some h31
   refine CWP.regionD (by kernel_rfl) (by kernel_rfl) (by kernel_rfl) (by kernel_rfl) (z := 8) (F := F4) (Lc := [(sb b37 (kBand r29) 40)]) (Lz := []) (l := [false, false, false, false, false, false, false, false]) (fuel := 8) (by kernel_rfl) (by kernel_rfl) hs41 (by simp) (by simp) (fun f w => ∃ (F5 : Mem), HS w0 F0 w F5 [] ∧ Mem.le F4 F5 ∧ f.d = [] ∧ f 4 = (vi r29.ID) ∧ f 5 = (vi j47) ∧ f 6 = (vi 0)) (fun wd42 hw43 => ?_) ?_
   ·refine Dt 0 23 0 (.pointer (some ⟨b37, 0, none⟩)) (fun _ hq => fa 40 9 0 0 1 b37 0 0) ?_
    refine Dt 1 24 3 _ (fun _ hq => ld 3 23 b37 0 false 1 (vi r29.ID) (hq.1.2 0 _ _ rfl)) ?_
    refine Dt 2 25 90 _ (fun _ hq => ld 90 8 b18 0 false 1 (.func (.func 69) #[] #[(.pointer (some ⟨b1, 0, none⟩))]) (hq.1.1 _ _ (le35 _ _ hF28))) ?_
    refine Dt 3 26 40 _ (fun _ hq => ld 40 9 b37 0 true 3 (.agg (kBand r29)) (hq.1.2 0 _ _ rfl)) ?_
    refine DWP.one (i := 4) (by kernel_rfl) ?_
    obtain ⟨r54, hr55, h56⟩ := bind_some hj52
    refine DStep.call (l' := [true, true, true, true, true, false, false, false]) (zd := true) (by kernel_rfl) (by kernel_rfl) (by kernel_rfl) (dst := (some 27)) (ty := 3) (g := none) (by kernel_rfl) rfl (f0 := (.tmp 25)) (aos := #[(.tmp 26)]) (ats := #[40]) (fid := 69) (first := #[]) (cap := #[(.pointer (some ⟨b1, 0, none⟩))]) (args := [(.agg (kBand r29)), (.pointer (some ⟨b1, 0, none⟩))]) rfl co_air_Nearest_1 (rfl) hw43 (c_air_Nearest_1 N wd42 F4 hw43.pers (r29) b1 x1 ((le27.trans le35) _ _ hF25) _ hr55) ?_
    intro v57 F6 w58 hs59 le60 hp61
    obtain rfl := hp61
    refine Dt 5 4 3 _ (fun _ hq => ma 24 (vi r29.ID)) ?_
    refine Dt 6 5 3 _ (fun _ hq => ma 27 (vi r54)) ?_
    refine Dt 7 6 23 _ (fun _ hq => mc (vi 0) (vi 0)) ?_
    obtain rfl := some_inj h56
    have hs62 : HS w0 F0 w58 F6 [] := hs59.drop 0
    exact DWP.done (by kernel_rfl) ⟨F6, hs62, le60, rfl, rfl, rfl, rfl⟩
   ·rintro f w44 ⟨F5, hs45, le46, e48, e49, e50, e51⟩
    refine thenQ_nrm ?_
    refine CWP.ret (by kernel_rfl) ?_
    have hfin := some_inj h53
    subst hfin
    exact ⟨e48, (.tuple #[(vi r29.ID), (vi j47), (vi 0)]), res_of (l := [.tmp 4, .tmp 5, .tmp 6]) (by kernel_rfl) (vs := [(vi r29.ID), (vi j47), (vi 0)]) ⟨e49, ⟨e50, ⟨e51, trivial⟩⟩⟩, (.tuple #[(vi r29.ID), (vi j47), (vi 0)]), F5, rfl, hs45.clear, rfl⟩
end Go.Proofs.YtlddakefmfcblaaGreatDoor
namespace Go.Proofs.YtlddakefmfcblaaGreatDoor
open Go.Proofs
end Go.Proofs.YtlddakefmfcblaaGreatDoor
namespace Go.Proofs.YtlddakefmfcblaaGreatDoor
open Go.Proofs
end Go.Proofs.YtlddakefmfcblaaGreatDoor
namespace Go.Proofs.YtlddakefmfcblaaGreatDoor
open Go.Proofs
end Go.Proofs.YtlddakefmfcblaaGreatDoor
namespace Go.Proofs.YtlddakefmfcblaaGreatDoor
open Go.Proofs
end Go.Proofs.YtlddakefmfcblaaGreatDoor
namespace Go.Proofs.YtlddakefmfcblaaGreatDoor
def bAt (l : List Band) (i : Nat) : Band := l.getD i { ID := 0, Lo := 0, Hi := 0 }
theorem idx_at {l : List Band} {i : Nat} (h : i < l.length) : idx l (i : Int) = some (bAt l i) := by
 rw [idx_nat h]; unfold bAt; rw [List.getD_eq_getElem?_getD, List.getElem?_eq_getElem h]; rfl
theorem bAt_mem {l : List Band} {i : Nat} (h : i < l.length) : bAt l i ∈ l := by
 unfold bAt; rw [List.getD_eq_getElem?_getD, List.getElem?_eq_getElem h]; exact List.getElem_mem h
theorem mem_bAt {l : List Band} {b : Band} (h : b ∈ l) : ∃ i, i < l.length ∧ b = bAt l i := by
 obtain ⟨i, hi, rfl⟩ := List.getElem_of_mem h
 exact ⟨i, hi, by unfold bAt; rw [List.getD_eq_getElem?_getD, List.getElem?_eq_getElem hi]; rfl⟩
def okBand (b : Band) : Bool := (decide (1 ≤ b.ID) && decide (b.ID ≤ 65535)) && ((decide (1 ≤ b.Lo) && decide (b.Lo ≤ b.Hi)) && decide (b.Hi ≤ 10000000))
def okNext (a b : Band) : Bool := decide (a.ID < b.ID) && decide (a.Hi < b.Lo)
def okAt (l : List Band) (i : Nat) : Bool := okBand (bAt l i) && (decide (i = 0) || okNext (bAt l (i - 1)) (bAt l i))
def vB (l : List Band) : Bool := allB l.length (okAt l) && decide (l.length ≤ 16)
theorem gt_dec (a b : Int) : decide (a > b) = !decide (a ≤ b) := by rw [← decide_not, decide_eq_decide]; omega
theorem lt_dec2 (a b : Int) : decide (a < b) = !decide (b ≤ a) := by rw [← decide_not, decide_eq_decide]; omega
theorem w64p (i : Nat) (h : i < 4611686018427387904) (h0 : 0 < i) : W64 ((i : Int) - 1) = ((i - 1 : Nat) : Int) := by
 rw [W64_id (by omega) (by omega)]; omega
section
variable {N : Nat} {l : List Band}
theorem s_ValidBands (hl : l.length < 4000000000) (hN : 4294967300 < N) : air_ValidBands N l = some (vB l) := by
 unfold air_ValidBands
 rw [iter_check' (n := l.length) (okAt l) false ?_ ?_ (by omega)]
 ·unfold vB
  have : decide ((l.length : Int) ≤ 16) = decide (l.length ≤ 16) := by rw [decide_eq_decide]; omega
  rw [this]
  cases allB l.length (okAt l) <;> rfl
 ·intro i hi
  unfold air_ValidBands_L0
  rw [lt_dec hi, cond_true, idx_at hi, Option.bind_some]
  simp only [m_within, Option.bind_some]
  unfold okAt okBand okNext
  rw [w64s i (by omega), gt_dec]
  by_cases h0 : i = 0
  ·subst h0
   rw [decide_eq_false (show ¬ (((0 : Nat) : Int) > 0) by decide), decide_eq_true (show 0 = 0 from rfl)]
   cases (decide (1 ≤ (bAt l 0).ID) && decide ((bAt l 0).ID ≤ 65535)) <;> cases (decide (1 ≤ (bAt l 0).Lo) && decide ((bAt l 0).Lo ≤ (bAt l 0).Hi)) <;> cases decide ((bAt l 0).Hi ≤ 10000000) <;> rfl
  ·rw [decide_eq_true (show (i : Int) > 0 by omega), decide_eq_false h0, w64p i (by omega) (by omega), idx_at (by omega)]
   simp only [Option.bind_some]
   rw [lt_dec2 (bAt l (i - 1)).ID, lt_dec2 (bAt l (i - 1)).Hi]
   cases (decide (1 ≤ (bAt l i).ID) && decide ((bAt l i).ID ≤ 65535)) <;> cases (decide (1 ≤ (bAt l i).Lo) && decide ((bAt l i).Lo ≤ (bAt l i).Hi)) <;> cases decide ((bAt l i).Hi ≤ 10000000) <;> cases decide ((bAt l i).ID ≤ (bAt l (i - 1)).ID) <;> cases decide ((bAt l i).Lo ≤ (bAt l (i - 1)).Hi) <;> rfl
 ·unfold air_ValidBands_L0
  rw [lt_dec', cond_false]
structure BandR (b : Band) : Prop where
 id1 : 1 ≤ b.ID
 id2 : b.ID ≤ 65535
 lo : 1 ≤ b.Lo
 le : b.Lo ≤ b.Hi
 hi : b.Hi ≤ 10000000
theorem okAt_ok {i : Nat} (h : okAt l i = true) : BandR (bAt l i) ∧ (0 < i → (bAt l (i - 1)).ID < (bAt l i).ID ∧ (bAt l (i - 1)).Hi < (bAt l i).Lo) := by
 unfold okAt okBand okNext at h
 simp only [Bool.and_eq_true, Bool.or_eq_true, decide_eq_true_eq] at h
 refine ⟨⟨h.1.1.1, h.1.1.2, h.1.2.1.1, h.1.2.1.2, h.1.2.2⟩, fun h0 => ?_⟩
 rcases h.2 with h2 | h2
 ·omega
 ·exact h2
theorem vB_ok (h : vB l = true) : l.length ≤ 16 ∧ (∀ b, b ∈ l → BandR b) ∧ ∀ j i, i < j → j < l.length → (bAt l i).ID < (bAt l j).ID ∧ (bAt l i).Hi < (bAt l j).Lo := by
 unfold vB at h
 simp only [Bool.and_eq_true, decide_eq_true_eq] at h
 have hall : ∀ i, i < l.length → BandR (bAt l i) := fun i hi => (okAt_ok (allB_t h.1 hi)).1
 refine ⟨h.2, ?_, ?_⟩
 ·intro b hb
  obtain ⟨i, hi, rfl⟩ := mem_bAt hb
  exact hall i hi
 ·intro j
  induction j with
  | zero => intro i hi; omega
  | succ j ih =>
   intro i hi hj
   have h1 := (okAt_ok (allB_t h.1 hj)).2 (by omega)
   rw [Nat.add_sub_cancel] at h1
   by_cases hij : i = j
   ·subst hij; exact h1
   ·have h2 := ih i (by omega) (by omega)
    have h3 := hall j (by omega)
    exact ⟨by omega, by have := h3.le; omega⟩
def dist (b : Band) (f : Int) : Int := max (max 0 (b.Lo - f)) (f - b.Hi)
def near (f : Int) (m b : Band) : Band := if dist b f < dist m f then b else m
def nearS (l : List Band) (f : Int) : Band := (List.range l.length).foldl (fun m i => near f m (bAt l i)) (bAt l 0)
theorem near_fold (f : Int) (l : List Band) (h0 : 0 < l.length) : ∀ n, n ≤ l.length → ((List.range n).foldl (fun m i => near f m (bAt l i)) (bAt l 0)) ∈ l ∧ ∀ i, i < n → dist ((List.range n).foldl (fun m i => near f m (bAt l i)) (bAt l 0)) f ≤ dist (bAt l i) f := by
 intro n
 induction n with
 | zero => intro _; exact ⟨bAt_mem h0, fun i hi => by omega⟩
 | succ n ih =>
  intro hn
  obtain ⟨h1, h2⟩ := ih (by omega)
  rw [List.range_succ, List.foldl_append]
  simp only [List.foldl_cons, List.foldl_nil]
  generalize (List.range n).foldl (fun m i => near f m (bAt l i)) (bAt l 0) = m at h1 h2 ⊢
  unfold near
  split
  ·rename_i hc
   refine ⟨bAt_mem (by omega), fun i hi => ?_⟩
   by_cases hin : i = n
   ·subst hin; exact Int.le_refl _
   ·have := h2 i (by omega); omega
  ·rename_i hc
   refine ⟨h1, fun i hi => ?_⟩
   by_cases hin : i = n
   ·subst hin; omega
   ·exact h2 i (by omega)
theorem nearS_mem (f : Int) (h0 : 0 < l.length) : nearS l f ∈ l := (near_fold f l h0 l.length (Nat.le_refl _)).1
theorem near_pos {f : Int} {m b : Band} (h : dist b f < dist m f) : near f m b = b := if_pos h
theorem near_neg {f : Int} {m b : Band} (h : ¬ dist b f < dist m f) : near f m b = m := if_neg h
theorem near_first (f : Int) (l : List Band) : near f (bAt l 0) (bAt l 0) = bAt l 0 := by unfold near; split <;> rfl
def wrongS (l : List Band) (f : Int) : Int := if vB l = true then (if 1 ≤ f ∧ f ≤ 10000000 then 0 else 1) else 11
theorem s_wrong (hl : l.length < 4000000000) (hN : 4294967300 < N) (f : Int) : air_wrongBands N l f = some (wrongS l f) := by
 unfold air_wrongBands wrongS
 rw [s_ValidBands hl hN, Option.bind_some, m_within]
 cases vB l with
 | false => rfl
 | true =>
  by_cases hf : 1 ≤ f ∧ f ≤ 10000000
  ·rw [if_pos rfl, if_pos hf, decide_eq_true hf.1, decide_eq_true hf.2]; rfl
  ·rw [if_pos rfl, if_neg hf]
   have : (decide (1 ≤ f) && decide (f ≤ 10000000)) = false := by rw [Bool.and_eq_false_iff, decide_eq_false_iff_not, decide_eq_false_iff_not]; omega
   rw [this]; rfl
def nearestS (l : List Band) (f : Int) : Int × Int × Int := if wrongS l f = 0 then (if l.length = 0 then (0, 0, 3) else ((nearS l f).ID, dist (nearS l f) f, 0)) else (0, 0, wrongS l f)
theorem wrong_ok {f : Int} (h : wrongS l f = 0) : vB l = true ∧ 1 ≤ f ∧ f ≤ 10000000 := by
 unfold wrongS at h
 split at h
 ·split at h
  ·exact ⟨by assumption, by omega, by omega⟩
  ·omega
 ·omega
theorem n1 {b : Band} {f : Int} (hb : BandR b) (h1 : 1 ≤ f) (h2 : f ≤ 10000000) : air_Nearest_1 N b f = some (dist b f) := by
 unfold air_Nearest_1 dist
 have := hb.lo; have := hb.le; have := hb.hi
 rw [W64_id (by omega) (by omega), W64_id (by omega) (by omega)]
theorem cmp_lt (a b : Int) : (cmp_Compare_int N a b).bind (fun r => some (decide (r < 0))) = some (decide (a < b)) := by
 unfold cmp_Compare_int cmp_isNaN_int
 rw [show (a != a) = false by simp, show (b != b) = false by simp]
 simp only [Option.bind_some, cond_false]
 by_cases h : a < b
 ·rw [decide_eq_true h]; rfl
 ·rw [decide_eq_false h, cond_false]
  cases decide (a > b) <;> rfl
theorem n2 {a b : Band} {f : Int} (ha : BandR a) (hb : BandR b) (h1 : 1 ≤ f) (h2 : f ≤ 10000000) : (air_Nearest_2 N a b (fun y0 => air_Nearest_1 N y0 f)).bind (fun r => some (decide (r < 0))) = some (decide (dist a f < dist b f)) := by
 unfold air_Nearest_2
 simp only [n1 ha h1 h2, n1 hb h1 h2, Option.bind_some]
 rw [← cmp_lt (N := N) (dist a f) (dist b f)]
 cases cmp_Compare_int N (dist a f) (dist b f) <;> rfl
theorem s_Min {f : Int} (hv : vB l = true) (h0 : 0 < l.length) (h1 : 1 ≤ f) (h2 : f ≤ 10000000) (hN : 4294967300 < N) : slices_MinFunc_api_Band_api_Band N l (fun y0 y1 => air_Nearest_2 N y0 y1 (fun y0 => air_Nearest_1 N y0 f)) = some (nearS l f) := by
 obtain ⟨h16, hR, _⟩ := vB_ok hv
 unfold slices_MinFunc_api_Band_api_Band
 rw [decide_eq_false (by omega), cond_false, show (0 : Int) = ((0 : Nat) : Int) from rfl, idx_at h0, Option.bind_some]
 let enc : Nat → Band → Int × Int × Int × Int := fun i m => ((i : Int), m.ID, m.Lo, m.Hi)
 let fo : Nat → Band := fun n => (List.range n).foldl (fun m i => near f m (bAt l i)) (bAt l 0)
 obtain ⟨o, ho, rfl⟩ := iter_ex (body := slices_MinFunc_api_Band_api_Band_L0 N l (fun y0 y1 => air_Nearest_2 N y0 y1 (fun y0 => air_Nearest_1 N y0 f)) (bAt l 0)) l.length (fun i s => 1 ≤ i ∧ s = enc i (fo i)) (fun o => o = .done (enc l.length (fo l.length))) (by
  rintro i s hi ⟨hi1, rfl⟩
  by_cases h : i < l.length
  ·refine .inl ⟨enc (i + 1) (fo (i + 1)), ?_, ⟨by omega, rfl⟩, h⟩
   have hm := (near_fold f l h0 i hi).1
   have e1 : fo (i + 1) = near f (fo i) (bAt l i) := by show (List.range (i + 1)).foldl _ _ = _; rw [List.range_succ, List.foldl_append]; rfl
   rw [e1]
   unfold slices_MinFunc_api_Band_api_Band_L0
   show (bif decide ((i : Int) < (l.length : Int)) then _ else _) = _
   rw [lt_dec h, cond_true]
   show ((idx l (i : Int)).bind _).bind _ = _
   rw [idx_at h, Option.bind_some]
   show (((air_Nearest_2 N (bAt l i) (fo i) (fun y0 => air_Nearest_1 N y0 f)).bind fun r75 => some (decide (r75 < 0))).bind _) = _
   rw [n2 (hR _ (bAt_mem h)) (hR _ hm) h1 h2, Option.bind_some]
   by_cases hd : dist (bAt l i) f < dist (fo i) f
   ·rw [decide_eq_true hd, cond_true, near_pos hd]
    show some (Flow.next (W64 ((i : Int) + 1), _, _, _)) = _
    rw [w64s i (by omega)]
   ·rw [decide_eq_false hd, cond_false, near_neg hd]
    show some (Flow.next (W64 ((i : Int) + 1), _, _, _)) = _
    rw [w64s i (by omega)]
  ·have : i = l.length := by omega
   subst this
   refine .inr ⟨_, ?_, (fun _ h => by cases h), rfl⟩
   unfold slices_MinFunc_api_Band_api_Band_L0
   show (bif decide ((l.length : Int) < (l.length : Int)) then _ else _) = _
   rw [lt_dec', cond_false]) (l.length - 1) N 1 (enc 1 (fo 1)) (by omega) ⟨Nat.le_refl _, rfl⟩ (by omega)
 have e1 : fo 1 = bAt l 0 := near_first f l
 have ho' := ho
 rw [e1] at ho'
 have : iter (slices_MinFunc_api_Band_api_Band_L0 N l (fun y0 y1 => air_Nearest_2 N y0 y1 (fun y0 => air_Nearest_1 N y0 f)) (bAt l 0)) N (1, (bAt l 0).ID, (bAt l 0).Lo, (bAt l 0).Hi) = some (.done (enc l.length (fo l.length))) := ho'
 rw [this]
 rfl
theorem s_Nearest (hl : l.length < 4000000000) (hN : 4294967300 < N) (f : Int) : air_Nearest N l f = some (nearestS l f) := by
 unfold air_Nearest nearestS
 rw [s_wrong hl hN, Option.bind_some]
 by_cases hw : wrongS l f = 0
 ·rw [if_pos hw, hw, show ((0 : Int) != 0) = false from rfl, cond_false]
  obtain ⟨hv, h1, h2⟩ := wrong_ok hw
  by_cases h0 : l.length = 0
  ·rw [if_pos h0, show ((l.length : Int) == 0) = true by simp [h0]]; rfl
  ·rw [if_neg h0, show ((l.length : Int) == 0) = false by simp; intro h; rw [h] at h0; exact h0 rfl, cond_false, s_Min hv (by omega) h1 h2 hN, Option.bind_some]
   rw [n1 ((vB_ok hv).2.1 _ (nearS_mem f (by omega))) h1 h2]
   rfl
 ·rw [if_neg hw, show (wrongS l f != 0) = true by simpa using hw, cond_true]
end
end Go.Proofs.YtlddakefmfcblaaGreatDoor
namespace Go.Proofs.YtlddakefmfcblaaGreatDoor
open Go.Proofs
def law01_awake (N : Nat)  : Option Bool :=
 ((air_Split N ([71, 51, 47, 77, 48, 65, 66, 47, 80] : List UInt8)).bind fun r1 => ((air_PrefixOf N ([87, 49, 65, 87, 47, 52] : List UInt8)).bind fun r14 => ((air_PrintTime N 1505).bind fun r22 => ((air_ParseTime N ([50, 32, 48, 49, 48, 53] : List UInt8)).bind fun r30 => ((air_Nearest N ([({ ID := 1, Lo := 1800, Hi := 2000 } : Band), ({ ID := 2, Lo := 3500, Hi := 3800 } : Band)]) 2750).bind fun r47 => ((bif (r1.2 == 0) then (bif ((r1.1.Area == ([71, 51] : List UInt8)) && ((r1.1.Prefix == ([77, 48] : List UInt8)) && ((r1.1.Suffix == ([65, 66] : List UInt8)) && ((r1.1.Stroke == ([80] : List UInt8)) && true)))) then (bif (r14.2 == 0) then (bif (r14.1 == ([87, 52] : List UInt8)) then (bif (r22.2 == 0) then (bif (r22.1 == ([50, 32, 48, 49, 48, 53] : List UInt8)) then (bif (r30.2 == 0) then (bif (r30.1 == 1505) then (bif (r47.2.2 == 0) then (bif (r47.1 == 1) then (bif (r47.2.1 == 750) then ((air_ValidCall N ([68, 76, 49, 65, 47, 87, 49, 65] : List UInt8)).bind fun r85 => some (!r85)) else some false) else some false) else some false) else some false) else some false) else some false) else some false) else some false) else some false) else some false) else some false).bind fun j58 => some j58))))))
theorem co_law01_awake : CallOk Tryz.prog 17 := fun _ _ => by kernel_rfl
set_option maxHeartbeats 4000000 in
set_option maxRecDepth 100000 in
theorem c_law01_awake (N : Nat) (w0 : World) (F0 : Mem) (hF : ∀ b o, F0 b = some o → w0.heap[b]? = some o) (hG : Glob F0)  (r : Bool) (h : law01_awake N  = some r) :
  Calls Tryz.prog 17 ([] : List Value).toArray w0 (FRet w0 F0 fun F' v => v = (.bool r)) := by
 have hs0 := HS.start hF
 refine calls_of (n := 85) (c := bodyOf Tryz.f17) Tryz.func17 (by kernel_rfl) (by kernel_rfl) (by kernel_rfl) ?_
 refine Sq (Rg [0] ?_)
 refine V 0 4 (mc (.bool false) (.bool false)) ?_
 refine Nss (Rg [0, 1, 2, 3, 4, 5, 6] ?_)
 obtain ⟨r1, hr2, h3⟩ := bind_some h
 refine Cl 14 28 19 #[(.const (.string ⟨([71, 51, 47, 77, 48, 65, 66, 47, 80] : List UInt8).toArray⟩))] #[9] co_air_Split hs0 (c_air_Split N w0 F0 hs0.pers hG (([71, 51, 47, 77, 48, 65, 66, 47, 80] : List UInt8)) _ hr2) ?_
 intro v4 F1 w5 hs6 le7 hp8
 obtain rfl := hp8
 refine V 13 28 (mv 14 (.tuple #[(.agg #[(.string ⟨(r1.1.Area).toArray⟩), (.string ⟨(r1.1.Prefix).toArray⟩), (.string ⟨(r1.1.Suffix).toArray⟩), (.string ⟨(r1.1.Stroke).toArray⟩)]), (vi r1.2)])) ?_
 refine V 15 27 (ex 13 0 (.agg #[(.string ⟨(r1.1.Area).toArray⟩), (.string ⟨(r1.1.Prefix).toArray⟩), (.string ⟨(r1.1.Suffix).toArray⟩), (.string ⟨(r1.1.Stroke).toArray⟩)]) (vs := #[(.agg #[(.string ⟨(r1.1.Area).toArray⟩), (.string ⟨(r1.1.Prefix).toArray⟩), (.string ⟨(r1.1.Suffix).toArray⟩), (.string ⟨(r1.1.Stroke).toArray⟩)]), (vi r1.2)])) ?_
 refine V 16 23 (ex 13 1 (vi r1.2) (vs := #[(.agg #[(.string ⟨(r1.1.Area).toArray⟩), (.string ⟨(r1.1.Prefix).toArray⟩), (.string ⟨(r1.1.Suffix).toArray⟩), (.string ⟨(r1.1.Stroke).toArray⟩)]), (vi r1.2)])) ?_
 refine Al 1 0 27 #[(.string ⟨(([] : List UInt8)).toArray⟩), (.string ⟨(([] : List UInt8)).toArray⟩), (.string ⟨(([] : List UInt8)).toArray⟩), (.string ⟨(([] : List UInt8)).toArray⟩)] hs6 (fun b9 w10 (hs11 : HS w0 F0 w10 F1 [(sb b9 #[(.string ⟨(([] : List UInt8)).toArray⟩), (.string ⟨(([] : List UInt8)).toArray⟩), (.string ⟨(([] : List UInt8)).toArray⟩), (.string ⟨(([] : List UInt8)).toArray⟩)] 27)]) => ?_)
 refine RWP.store (ty := 0) (g := none) (by kernel_rfl) rfl (x := (.tmp 1)) (y := (.tmp 15)) (t := 27) (gg := true) (s := 4) (v := (.agg #[(.string ⟨(r1.1.Area).toArray⟩), (.string ⟨(r1.1.Prefix).toArray⟩), (.string ⟨(r1.1.Suffix).toArray⟩), (.string ⟨(r1.1.Stroke).toArray⟩)])) (b := b9) (o := 0) (C := #[(.string ⟨(([] : List UInt8)).toArray⟩), (.string ⟨(([] : List UInt8)).toArray⟩), (.string ⟨(([] : List UInt8)).toArray⟩), (.string ⟨(([] : List UInt8)).toArray⟩)]) rfl rfl (by kernel_rfl) hs11 (k := 0) rfl rfl rfl rfl (C' := #[(.string ⟨(r1.1.Area).toArray⟩), (.string ⟨(r1.1.Prefix).toArray⟩), (.string ⟨(r1.1.Suffix).toArray⟩), (.string ⟨(r1.1.Stroke).toArray⟩)]) rfl (fun w12 (hs13 : HS w0 F0 w12 F1 [(sb b9 #[(.string ⟨(r1.1.Area).toArray⟩), (.string ⟨(r1.1.Prefix).toArray⟩), (.string ⟨(r1.1.Suffix).toArray⟩), (.string ⟨(r1.1.Stroke).toArray⟩)] 27)]) => ?_)
 refine V 2 23 (ma 16 (vi r1.2)) ?_
 refine Nss (Rg [0, 1, 2, 3, 4, 5] ?_)
 obtain ⟨r14, hr15, h16⟩ := bind_some h3
 refine Cl 18 24 18 #[(.const (.string ⟨([87, 49, 65, 87, 47, 52] : List UInt8).toArray⟩))] #[9] co_air_PrefixOf hs13 (c_air_PrefixOf N w12 F1 hs13.pers (hG.mono le7) (([87, 49, 65, 87, 47, 52] : List UInt8)) _ hr15) ?_
 intro v17 F2 w18 hs19 le20 hp21
 obtain rfl := hp21
 refine V 17 24 (mv 18 (.tuple #[(.string ⟨(r14.1).toArray⟩), (vi r14.2)])) ?_
 refine V 19 9 (ex 17 0 (.string ⟨(r14.1).toArray⟩) (vs := #[(.string ⟨(r14.1).toArray⟩), (vi r14.2)])) ?_
 refine V 20 23 (ex 17 1 (vi r14.2) (vs := #[(.string ⟨(r14.1).toArray⟩), (vi r14.2)])) ?_
 refine V 3 9 (ma 19 (.string ⟨(r14.1).toArray⟩)) ?_
 refine V 4 23 (ma 20 (vi r14.2)) ?_
 refine Nss (Rg [0, 1, 2, 3, 4, 5] ?_)
 obtain ⟨r22, hr23, h24⟩ := bind_some h16
 refine Cl 22 24 28 #[(.const (vi 1505))] #[3] co_air_PrintTime hs19 (c_air_PrintTime N w18 F2 hs19.pers (hG.mono (le7.trans le20)) (1505) _ hr23) ?_
 intro v25 F3 w26 hs27 le28 hp29
 obtain rfl := hp29
 refine V 21 24 (mv 22 (.tuple #[(.string ⟨(r22.1).toArray⟩), (vi r22.2)])) ?_
 refine V 23 9 (ex 21 0 (.string ⟨(r22.1).toArray⟩) (vs := #[(.string ⟨(r22.1).toArray⟩), (vi r22.2)])) ?_
 refine V 24 23 (ex 21 1 (vi r22.2) (vs := #[(.string ⟨(r22.1).toArray⟩), (vi r22.2)])) ?_
 refine V 5 9 (ma 23 (.string ⟨(r22.1).toArray⟩)) ?_
 refine V 6 23 (ma 24 (vi r22.2)) ?_
 refine Nss (Rg [0, 1, 2, 3, 4, 5] ?_)
 obtain ⟨r30, hr31, h32⟩ := bind_some h24
 refine Cl 26 33 30 #[(.const (.string ⟨([50, 32, 48, 49, 48, 53] : List UInt8).toArray⟩))] #[9] co_air_ParseTime hs27 (c_air_ParseTime N w26 F3 hs27.pers (hG.mono ((le7.trans le20).trans le28)) (([50, 32, 48, 49, 48, 53] : List UInt8)) _ hr31) ?_
 intro v33 F4 w34 hs35 le36 hp37
 obtain rfl := hp37
 refine V 25 33 (mv 26 (.tuple #[(vi r30.1), (vi r30.2)])) ?_
 refine V 27 3 (ex 25 0 (vi r30.1) (vs := #[(vi r30.1), (vi r30.2)])) ?_
 refine V 28 23 (ex 25 1 (vi r30.2) (vs := #[(vi r30.1), (vi r30.2)])) ?_
 refine V 7 3 (ma 27 (vi r30.1)) ?_
 refine V 8 23 (ma 28 (vi r30.2)) ?_
 refine Nss (Rg [0, 1, 2, 3] ?_)
 refine V 29 40 (run_build2 (t := 40) (parts := #[(0, (.const (vi 1))), (1, (.const (vi 1800))), (2, (.const (vi 2000)))]) (vs := [(0, (vi 1)), (1, (vi 1800)), (2, (vi 2000))]) (rfl) (cs := [(vi 1), (vi 1800), (vi 2000)]) (by kernel_rfl)) ?_
 refine V 30 40 (run_build2 (t := 40) (parts := #[(0, (.const (vi 2))), (1, (.const (vi 3500))), (2, (.const (vi 3800)))]) (vs := [(0, (vi 2)), (1, (vi 3500)), (2, (vi 3800))]) (rfl) (cs := [(vi 2), (vi 3500), (vi 3800)]) (by kernel_rfl)) ?_
 refine RWP.buildSlice (dst := (some 31)) (ty := 32) (g := none) (by kernel_rfl) rfl (t := 32) (len := 2) (parts := #[(0, (.tmp 29)), (1, (.tmp 30))]) (vs := [(0, (.agg #[(vi 1), (vi 1800), (vi 2000)])), (1, (.agg #[(vi 2), (vi 3500), (vi 3800)]))]) (rfl) (E := 40) (cs := [(vi 1), (vi 1800), (vi 2000), (vi 2), (vi 3500), (vi 3800)]) (by kernel_rfl) hs35 (fun b38 w39 (hs40 : HS w0 F0 w39 F4 [(some b38, .cells ([(vi 1), (vi 1800), (vi 2000), (vi 2), (vi 3500), (vi 3800)] : List Value).toArray 40 (0, 0)), (sb b9 #[(.string ⟨(r1.1.Area).toArray⟩), (.string ⟨(r1.1.Prefix).toArray⟩), (.string ⟨(r1.1.Suffix).toArray⟩), (.string ⟨(r1.1.Stroke).toArray⟩)] 27)]) => ?_)
 have hr42 : RowR tBand 40 F4 (some ⟨b38, 0, none⟩) 2 [({ ID := 1, Lo := 1800, Hi := 2000 } : Band), ({ ID := 2, Lo := 3500, Hi := 3800 } : Band)] (some b38, .cells ([(vi 1), (vi 1800), (vi 2000), (vi 2), (vi 3500), (vi 3800)] : List Value).toArray 40 (0, 0)) := RowR.lit ⟨rfl, ⟨rfl, rfl⟩⟩ (by simp)
 refine V 9 32 (ma 31 (.slice (some ⟨b38, 0, none⟩) [({ ID := 1, Lo := 1800, Hi := 2000 } : Band), ({ ID := 2, Lo := 3500, Hi := 3800 } : Band)].length 2)) ?_
 refine Nss (Rg [0, 1, 2, 3, 4, 5, 6, 7, 8] ?_)
 refine V 33 32 (mv 9 (.slice (some ⟨b38, 0, none⟩) [({ ID := 1, Lo := 1800, Hi := 2000 } : Band), ({ ID := 2, Lo := 3500, Hi := 3800 } : Band)].length 2)) ?_
 have hb46 := RowR.bound hr42
 obtain ⟨F5, hs43, le44, hs45⟩ : ∃ Fq, HS w0 F0 w39 Fq [(sb b9 #[(.string ⟨(r1.1.Area).toArray⟩), (.string ⟨(r1.1.Prefix).toArray⟩), (.string ⟨(r1.1.Suffix).toArray⟩), (.string ⟨(r1.1.Stroke).toArray⟩)] 27)] ∧ Mem.le F4 Fq ∧ SlA tBand Fq (some ⟨b38, 0, none⟩) [({ ID := 1, Lo := 1800, Hi := 2000 } : Band), ({ ID := 2, Lo := 3500, Hi := 3800 } : Band)] := HS.freezeRow hs40 (k := 0) rfl hr42
 obtain ⟨r47, hr48, h49⟩ := bind_some h32
 refine Cl 34 35 24 #[(.tmp 33), (.const (vi 2750))] #[32, 3] co_air_Nearest hs43 (c_air_Nearest N w39 F5 hs43.pers ([({ ID := 1, Lo := 1800, Hi := 2000 } : Band), ({ ID := 2, Lo := 3500, Hi := 3800 } : Band)]) (some ⟨b38, 0, none⟩) 2 hb46 hs45 (2750) _ hr48) ?_
 intro v50 F6 w51 hs52 le53 hp54
 obtain rfl := hp54
 refine V 32 35 (mv 34 (.tuple #[(vi r47.1), (vi r47.2.1), (vi r47.2.2)])) ?_
 refine V 35 3 (ex 32 0 (vi r47.1) (vs := #[(vi r47.1), (vi r47.2.1), (vi r47.2.2)])) ?_
 refine V 36 3 (ex 32 1 (vi r47.2.1) (vs := #[(vi r47.1), (vi r47.2.1), (vi r47.2.2)])) ?_
 refine V 37 23 (ex 32 2 (vi r47.2.2) (vs := #[(vi r47.1), (vi r47.2.1), (vi r47.2.2)])) ?_
 refine V 10 3 (ma 35 (vi r47.1)) ?_
 refine V 11 3 (ma 36 (vi r47.2.1)) ?_
 refine V 12 23 (ma 37 (vi r47.2.2)) ?_
 refine Nss (Rg [0, 1, 2, 3, 4, 5, 6, 7, 8, 9, 10, 11, 12, 13, 14, 15, 16, 17, 18, 19, 20, 21, 22, 23, 24, 25, 26, 27, 28, 29, 30, 31, 32, 33, 34, 35, 36, 37, 38, 39, 40, 41, 42, 43, 44, 45, 46, 47] ?_)
 obtain ⟨j58, hj61, h62⟩ := bind_some h49
 refine RWP.cut (fun f w => ∃ (F7 : Mem), HS w0 F0 w F7 [] ∧ Mem.le F6 F7 ∧ f.d = [] ∧ f 0 = (.bool j58)) ?_ ?_
 ·refine V 38 23 (mv 2 (vi r1.2)) ?_
  refine V 39 4 (run_eql (t := 23) (t' := 23) (x := (.tmp 38)) (y := (.const (vi 0))) (k := .i64) (a := r1.2) (b := 0) rfl rfl) ?_
  refine V 40 4 (mv 39 (.bool (r1.2 == 0))) ?_
  refine RWP.split (r1.2 == 0) (fun hb63 => ?_) (fun hb63 => ?_)
  ·have h64 := cond_t hj61 hb63
   refine Vg 41 27 2 true 40 hb63 (ld 27 1 b9 0 true 4 (.agg #[(.string ⟨(r1.1.Area).toArray⟩), (.string ⟨(r1.1.Prefix).toArray⟩), (.string ⟨(r1.1.Suffix).toArray⟩), (.string ⟨(r1.1.Stroke).toArray⟩)]) (hs52.ownAt (k := 0) rfl)) ?_
   refine Vg 42 27 2 true 40 hb63 (run_build2 (t := 27) (parts := #[(0, (.const (.string ⟨([71, 51] : List UInt8).toArray⟩))), (1, (.const (.string ⟨([77, 48] : List UInt8).toArray⟩))), (2, (.const (.string ⟨([65, 66] : List UInt8).toArray⟩))), (3, (.const (.string ⟨([80] : List UInt8).toArray⟩)))]) (vs := [(0, (.string ⟨(([71, 51] : List UInt8)).toArray⟩)), (1, (.string ⟨(([77, 48] : List UInt8)).toArray⟩)), (2, (.string ⟨(([65, 66] : List UInt8)).toArray⟩)), (3, (.string ⟨(([80] : List UInt8)).toArray⟩))]) (rfl) (cs := [(.string ⟨(([71, 51] : List UInt8)).toArray⟩), (.string ⟨(([77, 48] : List UInt8)).toArray⟩), (.string ⟨(([65, 66] : List UInt8)).toArray⟩), (.string ⟨(([80] : List UInt8)).toArray⟩)]) (by kernel_rfl)) ?_
   refine Vg 43 4 2 true 40 hb63 (run_eqs (t := 27) (t' := 27) (x := (.tmp 41)) (y := (.tmp 42)) (xs := #[(.string ⟨(r1.1.Area).toArray⟩), (.string ⟨(r1.1.Prefix).toArray⟩), (.string ⟨(r1.1.Suffix).toArray⟩), (.string ⟨(r1.1.Stroke).toArray⟩)]) (ys := #[(.string ⟨(([71, 51] : List UInt8)).toArray⟩), (.string ⟨(([77, 48] : List UInt8)).toArray⟩), (.string ⟨(([65, 66] : List UInt8)).toArray⟩), (.string ⟨(([80] : List UInt8)).toArray⟩)]) (b := ((r1.1.Area == ([71, 51] : List UInt8)) && ((r1.1.Prefix == ([77, 48] : List UInt8)) && ((r1.1.Suffix == ([65, 66] : List UInt8)) && ((r1.1.Stroke == ([80] : List UInt8)) && true))))) rfl rfl (by kernel_rfl) (by kernel_rfl)) ?_
   refine V 44 4 (p1 40 (.tmp 43) (.const (.bool false)) (.bool ((r1.1.Area == ([71, 51] : List UInt8)) && ((r1.1.Prefix == ([77, 48] : List UInt8)) && ((r1.1.Suffix == ([65, 66] : List UInt8)) && ((r1.1.Stroke == ([80] : List UInt8)) && true))))) hb63) ?_
   refine V 45 4 (mv 44 (.bool ((r1.1.Area == ([71, 51] : List UInt8)) && ((r1.1.Prefix == ([77, 48] : List UInt8)) && ((r1.1.Suffix == ([65, 66] : List UInt8)) && ((r1.1.Stroke == ([80] : List UInt8)) && true)))))) ?_
   refine RWP.split ((r1.1.Area == ([71, 51] : List UInt8)) && ((r1.1.Prefix == ([77, 48] : List UInt8)) && ((r1.1.Suffix == ([65, 66] : List UInt8)) && ((r1.1.Stroke == ([80] : List UInt8)) && true)))) (fun hb65 => ?_) (fun hb65 => ?_)
   ·have h66 := cond_t h64 hb65
    refine Vg 46 23 7 true 45 hb65 (mv 4 (vi r14.2)) ?_
    refine Vg 47 4 7 true 45 hb65 (run_eql (t := 23) (t' := 23) (x := (.tmp 46)) (y := (.const (vi 0))) (k := .i64) (a := r14.2) (b := 0) rfl rfl) ?_
    refine V 48 4 (p1 45 (.tmp 47) (.const (.bool false)) (.bool (r14.2 == 0)) hb65) ?_
    refine V 49 4 (mv 48 (.bool (r14.2 == 0))) ?_
    refine RWP.split (r14.2 == 0) (fun hb67 => ?_) (fun hb67 => ?_)
    ·have h68 := cond_t h66 hb67
     refine Vg 50 9 11 true 49 hb67 (mv 3 (.string ⟨(r14.1).toArray⟩)) ?_
     refine Vg 51 4 11 true 49 hb67 (run_scmp (t := 9) (t' := 9) (x := (.tmp 50)) (y := (.const (.string ⟨([87, 52] : List UInt8).toArray⟩))) (op := .eql) (a := r14.1) (b := ([87, 52] : List UInt8)) (v := (r14.1 == ([87, 52] : List UInt8))) rfl rfl rfl) ?_
     refine V 52 4 (p1 49 (.tmp 51) (.const (.bool false)) (.bool (r14.1 == ([87, 52] : List UInt8))) hb67) ?_
     refine V 53 4 (mv 52 (.bool (r14.1 == ([87, 52] : List UInt8)))) ?_
     refine RWP.split (r14.1 == ([87, 52] : List UInt8)) (fun hb69 => ?_) (fun hb69 => ?_)
     ·have h70 := cond_t h68 hb69
      refine Vg 54 23 15 true 53 hb69 (mv 6 (vi r22.2)) ?_
      refine Vg 55 4 15 true 53 hb69 (run_eql (t := 23) (t' := 23) (x := (.tmp 54)) (y := (.const (vi 0))) (k := .i64) (a := r22.2) (b := 0) rfl rfl) ?_
      refine V 56 4 (p1 53 (.tmp 55) (.const (.bool false)) (.bool (r22.2 == 0)) hb69) ?_
      refine V 57 4 (mv 56 (.bool (r22.2 == 0))) ?_
      refine RWP.split (r22.2 == 0) (fun hb71 => ?_) (fun hb71 => ?_)
      ·have h72 := cond_t h70 hb71
       refine Vg 58 9 19 true 57 hb71 (mv 5 (.string ⟨(r22.1).toArray⟩)) ?_
       refine Vg 59 4 19 true 57 hb71 (run_scmp (t := 9) (t' := 9) (x := (.tmp 58)) (y := (.const (.string ⟨([50, 32, 48, 49, 48, 53] : List UInt8).toArray⟩))) (op := .eql) (a := r22.1) (b := ([50, 32, 48, 49, 48, 53] : List UInt8)) (v := (r22.1 == ([50, 32, 48, 49, 48, 53] : List UInt8))) rfl rfl rfl) ?_
       refine V 60 4 (p1 57 (.tmp 59) (.const (.bool false)) (.bool (r22.1 == ([50, 32, 48, 49, 48, 53] : List UInt8))) hb71) ?_
       refine V 61 4 (mv 60 (.bool (r22.1 == ([50, 32, 48, 49, 48, 53] : List UInt8)))) ?_
       refine RWP.split (r22.1 == ([50, 32, 48, 49, 48, 53] : List UInt8)) (fun hb73 => ?_) (fun hb73 => ?_)
       ·have h74 := cond_t h72 hb73
        refine Vg 62 23 23 true 61 hb73 (mv 8 (vi r30.2)) ?_
        refine Vg 63 4 23 true 61 hb73 (run_eql (t := 23) (t' := 23) (x := (.tmp 62)) (y := (.const (vi 0))) (k := .i64) (a := r30.2) (b := 0) rfl rfl) ?_
        refine V 64 4 (p1 61 (.tmp 63) (.const (.bool false)) (.bool (r30.2 == 0)) hb73) ?_
        refine V 65 4 (mv 64 (.bool (r30.2 == 0))) ?_
        refine RWP.split (r30.2 == 0) (fun hb75 => ?_) (fun hb75 => ?_)
        ·have h76 := cond_t h74 hb75
         refine Vg 66 3 27 true 65 hb75 (mv 7 (vi r30.1)) ?_
         refine Vg 67 4 27 true 65 hb75 (run_eql (t := 3) (t' := 3) (x := (.tmp 66)) (y := (.const (vi 1505))) (k := .i64) (a := r30.1) (b := 1505) rfl rfl) ?_
         refine V 68 4 (p1 65 (.tmp 67) (.const (.bool false)) (.bool (r30.1 == 1505)) hb75) ?_
         refine V 69 4 (mv 68 (.bool (r30.1 == 1505))) ?_
         refine RWP.split (r30.1 == 1505) (fun hb77 => ?_) (fun hb77 => ?_)
         ·have h78 := cond_t h76 hb77
          refine Vg 70 23 31 true 69 hb77 (mv 12 (vi r47.2.2)) ?_
          refine Vg 71 4 31 true 69 hb77 (run_eql (t := 23) (t' := 23) (x := (.tmp 70)) (y := (.const (vi 0))) (k := .i64) (a := r47.2.2) (b := 0) rfl rfl) ?_
          refine V 72 4 (p1 69 (.tmp 71) (.const (.bool false)) (.bool (r47.2.2 == 0)) hb77) ?_
          refine V 73 4 (mv 72 (.bool (r47.2.2 == 0))) ?_
          refine RWP.split (r47.2.2 == 0) (fun hb79 => ?_) (fun hb79 => ?_)
          ·have h80 := cond_t h78 hb79
           refine Vg 74 3 35 true 73 hb79 (mv 10 (vi r47.1)) ?_
           refine Vg 75 4 35 true 73 hb79 (run_eql (t := 3) (t' := 3) (x := (.tmp 74)) (y := (.const (vi 1))) (k := .i64) (a := r47.1) (b := 1) rfl rfl) ?_
           refine V 76 4 (p1 73 (.tmp 75) (.const (.bool false)) (.bool (r47.1 == 1)) hb79) ?_
           refine V 77 4 (mv 76 (.bool (r47.1 == 1))) ?_
           refine RWP.split (r47.1 == 1) (fun hb81 => ?_) (fun hb81 => ?_)
           ·have h82 := cond_t h80 hb81
            refine Vg 78 3 39 true 77 hb81 (mv 11 (vi r47.2.1)) ?_
            refine Vg 79 4 39 true 77 hb81 (run_eql (t := 3) (t' := 3) (x := (.tmp 78)) (y := (.const (vi 750))) (k := .i64) (a := r47.2.1) (b := 750) rfl rfl) ?_
            refine V 80 4 (p1 77 (.tmp 79) (.const (.bool false)) (.bool (r47.2.1 == 750)) hb81) ?_
            refine V 81 4 (mv 80 (.bool (r47.2.1 == 750))) ?_
            refine RWP.split (r47.2.1 == 750) (fun hb83 => ?_) (fun hb83 => ?_)
            ·have h84 := cond_t h82 hb83
             obtain ⟨r85, hr86, h87⟩ := bind_some h84
             refine RWP.call (dst := (some 82)) (ty := 4) (g := (some (43, true))) (by kernel_rfl) (gd_y (d := 81) (by kernel_rfl) rfl hb83) (f0 := (.func 37)) (aos := #[(.const (.string ⟨([68, 76, 49, 65, 47, 87, 49, 65] : List UInt8).toArray⟩))]) (ats := #[9]) (fid := 37) (first := #[]) (cap := #[]) (args := [(.string ⟨(([68, 76, 49, 65, 47, 87, 49, 65] : List UInt8)).toArray⟩)]) rfl co_air_ValidCall (rfl) hs52 (c_air_ValidCall N w51 F6 hs52.pers (hG.mono (((((le7.trans le20).trans le28).trans le36).trans le44).trans le53)) (([68, 76, 49, 65, 47, 87, 49, 65] : List UInt8)) _ hr86) ?_
             intro v88 F8 w89 hs90 le91 hp92
             obtain rfl := hp92
             refine Vg 83 4 43 true 81 hb83 (run_not (t := 4) (x := (.tmp 82)) (a := r85) rfl) ?_
             refine V 84 4 (p1 81 (.tmp 83) (.const (.bool false)) (.bool (!r85)) hb83) ?_
             refine V 0 4 (ma 84 (.bool (!r85))) ?_
             obtain rfl := some_inj h87
             have hs93 : HS w0 F0 w89 F8 [] := hs90.drop 0
             exact RWP.nil ⟨rfl, F8, hs93, le91, rfl, rfl⟩
            ·have h94 := cond_f h82 hb83
             refine Sk [82, 83] 43 true 81 hb83 ?_
             refine V 84 4 (p0 81 (.tmp 83) (.const (.bool false)) (.bool false) hb83) ?_
             refine V 0 4 (ma 84 (.bool false)) ?_
             obtain rfl := some_inj h94
             have hs95 : HS w0 F0 w51 F6 [] := hs52.drop 0
             exact RWP.nil ⟨rfl, F6, hs95, (Mem.le.refl _), rfl, rfl⟩
           ·have h96 := cond_f h80 hb81
            refine Sk [78, 79] 39 true 77 hb81 ?_
            refine V 80 4 (p0 77 (.tmp 79) (.const (.bool false)) (.bool false) hb81) ?_
            refine V 81 4 (mv 80 (.bool false)) ?_
            refine Sk [82, 83] 43 true 81 rfl ?_
            refine V 84 4 (p0 81 (.tmp 83) (.const (.bool false)) (.bool false) rfl) ?_
            refine V 0 4 (ma 84 (.bool false)) ?_
            obtain rfl := some_inj h96
            have hs97 : HS w0 F0 w51 F6 [] := hs52.drop 0
            exact RWP.nil ⟨rfl, F6, hs97, (Mem.le.refl _), rfl, rfl⟩
          ·have h98 := cond_f h78 hb79
           refine Sk [74, 75] 35 true 73 hb79 ?_
           refine V 76 4 (p0 73 (.tmp 75) (.const (.bool false)) (.bool false) hb79) ?_
           refine V 77 4 (mv 76 (.bool false)) ?_
           refine Sk [78, 79] 39 true 77 rfl ?_
           refine V 80 4 (p0 77 (.tmp 79) (.const (.bool false)) (.bool false) rfl) ?_
           refine V 81 4 (mv 80 (.bool false)) ?_
           refine Sk [82, 83] 43 true 81 rfl ?_
           refine V 84 4 (p0 81 (.tmp 83) (.const (.bool false)) (.bool false) rfl) ?_
           refine V 0 4 (ma 84 (.bool false)) ?_
           obtain rfl := some_inj h98
           have hs99 : HS w0 F0 w51 F6 [] := hs52.drop 0
           exact RWP.nil ⟨rfl, F6, hs99, (Mem.le.refl _), rfl, rfl⟩
         ·have h100 := cond_f h76 hb77
          refine Sk [70, 71] 31 true 69 hb77 ?_
          refine V 72 4 (p0 69 (.tmp 71) (.const (.bool false)) (.bool false) hb77) ?_
          refine V 73 4 (mv 72 (.bool false)) ?_
          refine Sk [74, 75] 35 true 73 rfl ?_
          refine V 76 4 (p0 73 (.tmp 75) (.const (.bool false)) (.bool false) rfl) ?_
          refine V 77 4 (mv 76 (.bool false)) ?_
          refine Sk [78, 79] 39 true 77 rfl ?_
          refine V 80 4 (p0 77 (.tmp 79) (.const (.bool false)) (.bool false) rfl) ?_
          refine V 81 4 (mv 80 (.bool false)) ?_
          refine Sk [82, 83] 43 true 81 rfl ?_
          refine V 84 4 (p0 81 (.tmp 83) (.const (.bool false)) (.bool false) rfl) ?_
          refine V 0 4 (ma 84 (.bool false)) ?_
          obtain rfl := some_inj h100
          have hs101 : HS w0 F0 w51 F6 [] := hs52.drop 0
          exact RWP.nil ⟨rfl, F6, hs101, (Mem.le.refl _), rfl, rfl⟩
        ·have h102 := cond_f h74 hb75
         refine Sk [66, 67] 27 true 65 hb75 ?_
         refine V 68 4 (p0 65 (.tmp 67) (.const (.bool false)) (.bool false) hb75) ?_
         refine V 69 4 (mv 68 (.bool false)) ?_
         refine Sk [70, 71] 31 true 69 rfl ?_
         refine V 72 4 (p0 69 (.tmp 71) (.const (.bool false)) (.bool false) rfl) ?_
         refine V 73 4 (mv 72 (.bool false)) ?_
         refine Sk [74, 75] 35 true 73 rfl ?_
         refine V 76 4 (p0 73 (.tmp 75) (.const (.bool false)) (.bool false) rfl) ?_
         refine V 77 4 (mv 76 (.bool false)) ?_
         refine Sk [78, 79] 39 true 77 rfl ?_
         refine V 80 4 (p0 77 (.tmp 79) (.const (.bool false)) (.bool false) rfl) ?_
         refine V 81 4 (mv 80 (.bool false)) ?_
         refine Sk [82, 83] 43 true 81 rfl ?_
         refine V 84 4 (p0 81 (.tmp 83) (.const (.bool false)) (.bool false) rfl) ?_
         refine V 0 4 (ma 84 (.bool false)) ?_
         obtain rfl := some_inj h102
         have hs103 : HS w0 F0 w51 F6 [] := hs52.drop 0
         exact RWP.nil ⟨rfl, F6, hs103, (Mem.le.refl _), rfl, rfl⟩
       ·have h104 := cond_f h72 hb73
        refine Sk [62, 63] 23 true 61 hb73 ?_
        refine V 64 4 (p0 61 (.tmp 63) (.const (.bool false)) (.bool false) hb73) ?_
        refine V 65 4 (mv 64 (.bool false)) ?_
        refine Sk [66, 67] 27 true 65 rfl ?_
        refine V 68 4 (p0 65 (.tmp 67) (.const (.bool false)) (.bool false) rfl) ?_
        refine V 69 4 (mv 68 (.bool false)) ?_
        refine Sk [70, 71] 31 true 69 rfl ?_
        refine V 72 4 (p0 69 (.tmp 71) (.const (.bool false)) (.bool false) rfl) ?_
        refine V 73 4 (mv 72 (.bool false)) ?_
        refine Sk [74, 75] 35 true 73 rfl ?_
        refine V 76 4 (p0 73 (.tmp 75) (.const (.bool false)) (.bool false) rfl) ?_
        refine V 77 4 (mv 76 (.bool false)) ?_
        refine Sk [78, 79] 39 true 77 rfl ?_
        refine V 80 4 (p0 77 (.tmp 79) (.const (.bool false)) (.bool false) rfl) ?_
        refine V 81 4 (mv 80 (.bool false)) ?_
        refine Sk [82, 83] 43 true 81 rfl ?_
        refine V 84 4 (p0 81 (.tmp 83) (.const (.bool false)) (.bool false) rfl) ?_
        refine V 0 4 (ma 84 (.bool false)) ?_
        obtain rfl := some_inj h104
        have hs105 : HS w0 F0 w51 F6 [] := hs52.drop 0
        exact RWP.nil ⟨rfl, F6, hs105, (Mem.le.refl _), rfl, rfl⟩
      ·have h106 := cond_f h70 hb71
       refine Sk [58, 59] 19 true 57 hb71 ?_
       refine V 60 4 (p0 57 (.tmp 59) (.const (.bool false)) (.bool false) hb71) ?_
       refine V 61 4 (mv 60 (.bool false)) ?_
       refine Sk [62, 63] 23 true 61 rfl ?_
       refine V 64 4 (p0 61 (.tmp 63) (.const (.bool false)) (.bool false) rfl) ?_
       refine V 65 4 (mv 64 (.bool false)) ?_
       refine Sk [66, 67] 27 true 65 rfl ?_
       refine V 68 4 (p0 65 (.tmp 67) (.const (.bool false)) (.bool false) rfl) ?_
       refine V 69 4 (mv 68 (.bool false)) ?_
       refine Sk [70, 71] 31 true 69 rfl ?_
       refine V 72 4 (p0 69 (.tmp 71) (.const (.bool false)) (.bool false) rfl) ?_
       refine V 73 4 (mv 72 (.bool false)) ?_
       refine Sk [74, 75] 35 true 73 rfl ?_
       refine V 76 4 (p0 73 (.tmp 75) (.const (.bool false)) (.bool false) rfl) ?_
       refine V 77 4 (mv 76 (.bool false)) ?_
       refine Sk [78, 79] 39 true 77 rfl ?_
       refine V 80 4 (p0 77 (.tmp 79) (.const (.bool false)) (.bool false) rfl) ?_
       refine V 81 4 (mv 80 (.bool false)) ?_
       refine Sk [82, 83] 43 true 81 rfl ?_
       refine V 84 4 (p0 81 (.tmp 83) (.const (.bool false)) (.bool false) rfl) ?_
       refine V 0 4 (ma 84 (.bool false)) ?_
       obtain rfl := some_inj h106
       have hs107 : HS w0 F0 w51 F6 [] := hs52.drop 0
       exact RWP.nil ⟨rfl, F6, hs107, (Mem.le.refl _), rfl, rfl⟩
     ·have h108 := cond_f h68 hb69
      refine Sk [54, 55] 15 true 53 hb69 ?_
      refine V 56 4 (p0 53 (.tmp 55) (.const (.bool false)) (.bool false) hb69) ?_
      refine V 57 4 (mv 56 (.bool false)) ?_
      refine Sk [58, 59] 19 true 57 rfl ?_
      refine V 60 4 (p0 57 (.tmp 59) (.const (.bool false)) (.bool false) rfl) ?_
      refine V 61 4 (mv 60 (.bool false)) ?_
      refine Sk [62, 63] 23 true 61 rfl ?_
      refine V 64 4 (p0 61 (.tmp 63) (.const (.bool false)) (.bool false) rfl) ?_
      refine V 65 4 (mv 64 (.bool false)) ?_
      refine Sk [66, 67] 27 true 65 rfl ?_
      refine V 68 4 (p0 65 (.tmp 67) (.const (.bool false)) (.bool false) rfl) ?_
      refine V 69 4 (mv 68 (.bool false)) ?_
      refine Sk [70, 71] 31 true 69 rfl ?_
      refine V 72 4 (p0 69 (.tmp 71) (.const (.bool false)) (.bool false) rfl) ?_
      refine V 73 4 (mv 72 (.bool false)) ?_
      refine Sk [74, 75] 35 true 73 rfl ?_
      refine V 76 4 (p0 73 (.tmp 75) (.const (.bool false)) (.bool false) rfl) ?_
      refine V 77 4 (mv 76 (.bool false)) ?_
      refine Sk [78, 79] 39 true 77 rfl ?_
      refine V 80 4 (p0 77 (.tmp 79) (.const (.bool false)) (.bool false) rfl) ?_
      refine V 81 4 (mv 80 (.bool false)) ?_
      refine Sk [82, 83] 43 true 81 rfl ?_
      refine V 84 4 (p0 81 (.tmp 83) (.const (.bool false)) (.bool false) rfl) ?_
      refine V 0 4 (ma 84 (.bool false)) ?_
      obtain rfl := some_inj h108
      have hs109 : HS w0 F0 w51 F6 [] := hs52.drop 0
      exact RWP.nil ⟨rfl, F6, hs109, (Mem.le.refl _), rfl, rfl⟩
    ·have h110 := cond_f h66 hb67
     refine Sk [50, 51] 11 true 49 hb67 ?_
     refine V 52 4 (p0 49 (.tmp 51) (.const (.bool false)) (.bool false) hb67) ?_
     refine V 53 4 (mv 52 (.bool false)) ?_
     refine Sk [54, 55] 15 true 53 rfl ?_
     refine V 56 4 (p0 53 (.tmp 55) (.const (.bool false)) (.bool false) rfl) ?_
     refine V 57 4 (mv 56 (.bool false)) ?_
     refine Sk [58, 59] 19 true 57 rfl ?_
     refine V 60 4 (p0 57 (.tmp 59) (.const (.bool false)) (.bool false) rfl) ?_
     refine V 61 4 (mv 60 (.bool false)) ?_
     refine Sk [62, 63] 23 true 61 rfl ?_
     refine V 64 4 (p0 61 (.tmp 63) (.const (.bool false)) (.bool false) rfl) ?_
     refine V 65 4 (mv 64 (.bool false)) ?_
     refine Sk [66, 67] 27 true 65 rfl ?_
     refine V 68 4 (p0 65 (.tmp 67) (.const (.bool false)) (.bool false) rfl) ?_
     refine V 69 4 (mv 68 (.bool false)) ?_
     refine Sk [70, 71] 31 true 69 rfl ?_
     refine V 72 4 (p0 69 (.tmp 71) (.const (.bool false)) (.bool false) rfl) ?_
     refine V 73 4 (mv 72 (.bool false)) ?_
     refine Sk [74, 75] 35 true 73 rfl ?_
     refine V 76 4 (p0 73 (.tmp 75) (.const (.bool false)) (.bool false) rfl) ?_
     refine V 77 4 (mv 76 (.bool false)) ?_
     refine Sk [78, 79] 39 true 77 rfl ?_
     refine V 80 4 (p0 77 (.tmp 79) (.const (.bool false)) (.bool false) rfl) ?_
     refine V 81 4 (mv 80 (.bool false)) ?_
     refine Sk [82, 83] 43 true 81 rfl ?_
     refine V 84 4 (p0 81 (.tmp 83) (.const (.bool false)) (.bool false) rfl) ?_
     refine V 0 4 (ma 84 (.bool false)) ?_
     obtain rfl := some_inj h110
     have hs111 : HS w0 F0 w51 F6 [] := hs52.drop 0
     exact RWP.nil ⟨rfl, F6, hs111, (Mem.le.refl _), rfl, rfl⟩
   ·have h112 := cond_f h64 hb65
    refine Sk [46, 47] 7 true 45 hb65 ?_
    refine V 48 4 (p0 45 (.tmp 47) (.const (.bool false)) (.bool false) hb65) ?_
    refine V 49 4 (mv 48 (.bool false)) ?_
    refine Sk [50, 51] 11 true 49 rfl ?_
    refine V 52 4 (p0 49 (.tmp 51) (.const (.bool false)) (.bool false) rfl) ?_
    refine V 53 4 (mv 52 (.bool false)) ?_
    refine Sk [54, 55] 15 true 53 rfl ?_
    refine V 56 4 (p0 53 (.tmp 55) (.const (.bool false)) (.bool false) rfl) ?_
    refine V 57 4 (mv 56 (.bool false)) ?_
    refine Sk [58, 59] 19 true 57 rfl ?_
    refine V 60 4 (p0 57 (.tmp 59) (.const (.bool false)) (.bool false) rfl) ?_
    refine V 61 4 (mv 60 (.bool false)) ?_
    refine Sk [62, 63] 23 true 61 rfl ?_
    refine V 64 4 (p0 61 (.tmp 63) (.const (.bool false)) (.bool false) rfl) ?_
    refine V 65 4 (mv 64 (.bool false)) ?_
    refine Sk [66, 67] 27 true 65 rfl ?_
    refine V 68 4 (p0 65 (.tmp 67) (.const (.bool false)) (.bool false) rfl) ?_
    refine V 69 4 (mv 68 (.bool false)) ?_
    refine Sk [70, 71] 31 true 69 rfl ?_
    refine V 72 4 (p0 69 (.tmp 71) (.const (.bool false)) (.bool false) rfl) ?_
    refine V 73 4 (mv 72 (.bool false)) ?_
    refine Sk [74, 75] 35 true 73 rfl ?_
    refine V 76 4 (p0 73 (.tmp 75) (.const (.bool false)) (.bool false) rfl) ?_
    refine V 77 4 (mv 76 (.bool false)) ?_
    refine Sk [78, 79] 39 true 77 rfl ?_
    refine V 80 4 (p0 77 (.tmp 79) (.const (.bool false)) (.bool false) rfl) ?_
    refine V 81 4 (mv 80 (.bool false)) ?_
    refine Sk [82, 83] 43 true 81 rfl ?_
    refine V 84 4 (p0 81 (.tmp 83) (.const (.bool false)) (.bool false) rfl) ?_
    refine V 0 4 (ma 84 (.bool false)) ?_
    obtain rfl := some_inj h112
    have hs113 : HS w0 F0 w51 F6 [] := hs52.drop 0
    exact RWP.nil ⟨rfl, F6, hs113, (Mem.le.refl _), rfl, rfl⟩
  ·have h114 := cond_f hj61 hb63
   refine Sk [41, 42, 43] 2 true 40 hb63 ?_
   refine V 44 4 (p0 40 (.tmp 43) (.const (.bool false)) (.bool false) hb63) ?_
   refine V 45 4 (mv 44 (.bool false)) ?_
   refine Sk [46, 47] 7 true 45 rfl ?_
   refine V 48 4 (p0 45 (.tmp 47) (.const (.bool false)) (.bool false) rfl) ?_
   refine V 49 4 (mv 48 (.bool false)) ?_
   refine Sk [50, 51] 11 true 49 rfl ?_
   refine V 52 4 (p0 49 (.tmp 51) (.const (.bool false)) (.bool false) rfl) ?_
   refine V 53 4 (mv 52 (.bool false)) ?_
   refine Sk [54, 55] 15 true 53 rfl ?_
   refine V 56 4 (p0 53 (.tmp 55) (.const (.bool false)) (.bool false) rfl) ?_
   refine V 57 4 (mv 56 (.bool false)) ?_
   refine Sk [58, 59] 19 true 57 rfl ?_
   refine V 60 4 (p0 57 (.tmp 59) (.const (.bool false)) (.bool false) rfl) ?_
   refine V 61 4 (mv 60 (.bool false)) ?_
   refine Sk [62, 63] 23 true 61 rfl ?_
   refine V 64 4 (p0 61 (.tmp 63) (.const (.bool false)) (.bool false) rfl) ?_
   refine V 65 4 (mv 64 (.bool false)) ?_
   refine Sk [66, 67] 27 true 65 rfl ?_
   refine V 68 4 (p0 65 (.tmp 67) (.const (.bool false)) (.bool false) rfl) ?_
   refine V 69 4 (mv 68 (.bool false)) ?_
   refine Sk [70, 71] 31 true 69 rfl ?_
   refine V 72 4 (p0 69 (.tmp 71) (.const (.bool false)) (.bool false) rfl) ?_
   refine V 73 4 (mv 72 (.bool false)) ?_
   refine Sk [74, 75] 35 true 73 rfl ?_
   refine V 76 4 (p0 73 (.tmp 75) (.const (.bool false)) (.bool false) rfl) ?_
   refine V 77 4 (mv 76 (.bool false)) ?_
   refine Sk [78, 79] 39 true 77 rfl ?_
   refine V 80 4 (p0 77 (.tmp 79) (.const (.bool false)) (.bool false) rfl) ?_
   refine V 81 4 (mv 80 (.bool false)) ?_
   refine Sk [82, 83] 43 true 81 rfl ?_
   refine V 84 4 (p0 81 (.tmp 83) (.const (.bool false)) (.bool false) rfl) ?_
   refine V 0 4 (ma 84 (.bool false)) ?_
   obtain rfl := some_inj h114
   have hs115 : HS w0 F0 w51 F6 [] := hs52.drop 0
   exact RWP.nil ⟨rfl, F6, hs115, (Mem.le.refl _), rfl, rfl⟩
 ·rintro f w55 ⟨F7, hs56, le57, e59, e60⟩
  refine thenQ_nrm ?_
  refine CWP.ret (by kernel_rfl) ?_
  have hfin := some_inj h62
  subst hfin
  exact ⟨e59, (.bool j58), res_of (l := [.tmp 0]) (by kernel_rfl) (vs := [(.bool j58)]) ⟨e60, trivial⟩, (.bool j58), F7, rfl, hs56.clear, rfl⟩
end Go.Proofs.YtlddakefmfcblaaGreatDoor
namespace Go.Proofs.YtlddakefmfcblaaGreatDoor
open Go.Lib (decDigits)
theorem aw1 : splitS [71, 51, 47, 77, 48, 65, 66, 47, 80] = ({ Area := [71, 51], Prefix := [77, 48], Suffix := [65, 66], Stroke := [80] }, 0) := by rfl
theorem aw2 : prefixS [87, 49, 65, 87, 47, 52] = ([87, 52], 0) := by rfl
theorem aw3 : tText 1505 = [50, 32, 48, 49, 48, 53] := by
 unfold tText dP
 rw [show 1505 / 1440 + 1 = 2 from rfl, show 1505 / 60 % 24 = 1 from rfl, show 1505 % 60 = 5 from rfl, dd_small (by decide), dd_small (by decide), dd_small (by decide)]
 rfl
theorem aw4 : printT 1505 = ([50, 32, 48, 49, 48, 53], 0) := by
 unfold printT
 rw [if_pos (by decide)]
 show (tText 1505, (0 : Int)) = _
 rw [aw3]
theorem aw5 : parseT [50, 32, 48, 49, 48, 53] = (1505, 0) := by
 rw [← aw3, parse_text (by decide)]; rfl
theorem aw6 : validS [68, 76, 49, 65, 47, 87, 49, 65] = false := by rfl
theorem aw7 : nearestS [{ ID := 1, Lo := 1800, Hi := 2000 }, { ID := 2, Lo := 3500, Hi := 3800 }] 2750 = (1, 750, 0) := by decide
theorem awake_true {N : Nat} (hN : 4294967300 < N) : law01_awake N = some true := by
 unfold law01_awake
 rw [s_Split _ hN, aw1, Option.bind_some, s_PrefixOf _ hN, aw2, Option.bind_some, s_PrintTime, aw4, Option.bind_some, s_ParseTime _ (by simp) hN, aw5, Option.bind_some, s_Nearest (by simp) hN, aw7, Option.bind_some]
 simp only [s_Valid _ hN, aw6]
 rfl
end Go.Proofs.YtlddakefmfcblaaGreatDoor
namespace Go.Proofs.YtlddakefmfcblaaGreatDoor
open Go.Proofs
end Go.Proofs.YtlddakefmfcblaaGreatDoor
namespace Go.Proofs.YtlddakefmfcblaaGreatDoor
open Go.Proofs
end Go.Proofs.YtlddakefmfcblaaGreatDoor
namespace Go.Proofs.YtlddakefmfcblaaGreatDoor
open Go.Proofs
end Go.Proofs.YtlddakefmfcblaaGreatDoor
namespace Go.Proofs.YtlddakefmfcblaaGreatDoor
open Go.Proofs
end Go.Proofs.YtlddakefmfcblaaGreatDoor
namespace Go.Proofs.YtlddakefmfcblaaGreatDoor
open Go.Proofs
end Go.Proofs.YtlddakefmfcblaaGreatDoor
namespace Go.Proofs.YtlddakefmfcblaaGreatDoor
open Go.Proofs
def law01_AirAround (N : Nat) (x0 : Parts) (x1 : (List UInt8)) (x2 : (List UInt8)) : Option Bool :=
 ((law01_awake N ).bind fun r4 => (bif (decide ((W64 ((W64 ((W64 ((W64 ((W64 ((x0.Area.length : Int) + (x0.Prefix.length : Int))) + (x0.Suffix.length : Int))) + (x0.Stroke.length : Int))) + (x1.length : Int))) + (x2.length : Int))) > 1000)) then some r4 else ((air_Join N x0).bind fun r15 => ((air_Join N ({ Area := x1, Prefix := x0.Prefix, Suffix := x0.Suffix, Stroke := x2 } : Parts)).bind fun r32 => (bif (r32.2 == 0) then ((air_Split N r32.1).bind fun r42 => (bif ((r42.2 != 0) || (!((r42.1.Area == x1) && ((r42.1.Prefix == x0.Prefix) && ((r42.1.Suffix == x0.Suffix) && ((r42.1.Stroke == x2) && true)))))) then some false else (bif ((r15.2 != 0) || (r32.2 != 0)) then some (r4 && ((r15.2 == 0) || (r15.2 == 10))) else ((air_Same N r15.1 r32.1).bind fun r97 => some (r4 && ((r97.2 == 0) && r97.1)))))) else (bif ((r15.2 != 0) || (r32.2 != 0)) then some (r4 && (bif (r15.2 == 0) then (r32.2 == 10) else ((r15.2 == 10) && (r32.2 == 10)))) else ((air_Same N r15.1 r32.1).bind fun r139 => some (r4 && ((r139.2 == 0) && r139.1)))))))))
set_option maxHeartbeats 4000000 in
set_option maxRecDepth 100000 in
theorem c_law01_AirAround (N : Nat) (w0 : World) (F0 : Mem) (hF : ∀ b o, F0 b = some o → w0.heap[b]? = some o) (hG : Glob F0) (x0 : Parts) (x1 : (List UInt8)) (x2 : (List UInt8)) (r : Bool) (h : law01_AirAround N x0 x1 x2 = some r) :
  Calls Tryz.prog 9 ([(.agg #[(.string ⟨(x0.Area).toArray⟩), (.string ⟨(x0.Prefix).toArray⟩), (.string ⟨(x0.Suffix).toArray⟩), (.string ⟨(x0.Stroke).toArray⟩)]), (.string ⟨(x1).toArray⟩), (.string ⟨(x2).toArray⟩)] : List Value).toArray w0 (FRet w0 F0 fun F' v => v = (.bool r)) := by
 have hs0 := HS.start hF
 refine calls_of (n := 107) (c := bodyOf Tryz.f9) Tryz.func9 (by kernel_rfl) (by kernel_rfl) (by kernel_rfl) ?_
 refine Sq (Rg [0, 1] ?_)
 refine Bx 3 0 0 27 #[(.string ⟨(x0.Area).toArray⟩), (.string ⟨(x0.Prefix).toArray⟩), (.string ⟨(x0.Suffix).toArray⟩), (.string ⟨(x0.Stroke).toArray⟩)] hs0 (fun b1 w2 (hs3 : HS w0 F0 w2 F0 [(sb b1 #[(.string ⟨(x0.Area).toArray⟩), (.string ⟨(x0.Prefix).toArray⟩), (.string ⟨(x0.Suffix).toArray⟩), (.string ⟨(x0.Stroke).toArray⟩)] 27)]) => ?_)
 refine V 6 4 (mc (.bool false) (.bool false)) ?_
 refine Nss (Rg [0, 1] ?_)
 obtain ⟨r4, hr5, h6⟩ := bind_some h
 refine Cl 17 4 17 #[] #[] co_law01_awake hs3 (c_law01_awake N w2 F0 hs3.pers hG  _ hr5) ?_
 intro v7 F1 w8 hs9 le10 hp11
 obtain rfl := hp11
 refine V 7 4 (ma 17 (.bool r4)) ?_
 refine Nss ?_
 refine Sq (Rg [0, 1, 2, 3, 4, 5, 6, 7, 8, 9, 10, 11, 12, 13, 14, 15, 16, 17, 18, 19, 20, 21] ?_)
 refine V 18 0 (fa 27 3 0 0 1 b1 0 0) ?_
 refine V 19 9 (ld 9 18 b1 0 false 1 (.string ⟨(x0.Area).toArray⟩) (hs9.ownAt (k := 0) rfl)) ?_
 refine V 20 3 (run_slen (x := (.tmp 19)) (ats := #[9]) (t := 9) (a := x0.Area) rfl rfl (by kernel_rfl)) ?_
 refine V 21 0 (fa 27 3 1 1 1 b1 0 1) ?_
 refine V 22 9 (ld 9 21 b1 1 false 1 (.string ⟨(x0.Prefix).toArray⟩) (hs9.ownAt (k := 0) rfl)) ?_
 refine V 23 3 (run_slen (x := (.tmp 22)) (ats := #[9]) (t := 9) (a := x0.Prefix) rfl rfl (by kernel_rfl)) ?_
 refine V 24 3 (run_add (t := 3) (t' := 3) (x := (.tmp 20)) (y := (.tmp 23)) (k := .i64) (a := (x0.Area.length : Int)) (b := (x0.Prefix.length : Int)) rfl rfl) ?_
 refine V 25 0 (fa 27 3 2 2 1 b1 0 2) ?_
 refine V 26 9 (ld 9 25 b1 2 false 1 (.string ⟨(x0.Suffix).toArray⟩) (hs9.ownAt (k := 0) rfl)) ?_
 refine V 27 3 (run_slen (x := (.tmp 26)) (ats := #[9]) (t := 9) (a := x0.Suffix) rfl rfl (by kernel_rfl)) ?_
 refine V 28 3 (run_add (t := 3) (t' := 3) (x := (.tmp 24)) (y := (.tmp 27)) (k := .i64) (a := (W64 ((x0.Area.length : Int) + (x0.Prefix.length : Int)))) (b := (x0.Suffix.length : Int)) rfl rfl) ?_
 refine V 29 0 (fa 27 3 3 3 1 b1 0 3) ?_
 refine V 30 9 (ld 9 29 b1 3 false 1 (.string ⟨(x0.Stroke).toArray⟩) (hs9.ownAt (k := 0) rfl)) ?_
 refine V 31 3 (run_slen (x := (.tmp 30)) (ats := #[9]) (t := 9) (a := x0.Stroke) rfl rfl (by kernel_rfl)) ?_
 refine V 32 3 (run_add (t := 3) (t' := 3) (x := (.tmp 28)) (y := (.tmp 31)) (k := .i64) (a := (W64 ((W64 ((x0.Area.length : Int) + (x0.Prefix.length : Int))) + (x0.Suffix.length : Int)))) (b := (x0.Stroke.length : Int)) rfl rfl) ?_
 refine V 33 9 (mv 1 (.string ⟨(x1).toArray⟩)) ?_
 refine V 34 3 (run_slen (x := (.tmp 33)) (ats := #[9]) (t := 9) (a := x1) rfl rfl (by kernel_rfl)) ?_
 refine V 35 3 (run_add (t := 3) (t' := 3) (x := (.tmp 32)) (y := (.tmp 34)) (k := .i64) (a := (W64 ((W64 ((W64 ((x0.Area.length : Int) + (x0.Prefix.length : Int))) + (x0.Suffix.length : Int))) + (x0.Stroke.length : Int)))) (b := (x1.length : Int)) rfl rfl) ?_
 refine V 36 9 (mv 2 (.string ⟨(x2).toArray⟩)) ?_
 refine V 37 3 (run_slen (x := (.tmp 36)) (ats := #[9]) (t := 9) (a := x2) rfl rfl (by kernel_rfl)) ?_
 refine V 38 3 (run_add (t := 3) (t' := 3) (x := (.tmp 35)) (y := (.tmp 37)) (k := .i64) (a := (W64 ((W64 ((W64 ((W64 ((x0.Area.length : Int) + (x0.Prefix.length : Int))) + (x0.Suffix.length : Int))) + (x0.Stroke.length : Int))) + (x1.length : Int)))) (b := (x2.length : Int)) rfl rfl) ?_
 refine V 39 4 (run_gtr (t := 3) (t' := 3) (x := (.tmp 38)) (y := (.const (vi 1000))) (k := .i64) (a := (W64 ((W64 ((W64 ((W64 ((W64 ((x0.Area.length : Int) + (x0.Prefix.length : Int))) + (x0.Suffix.length : Int))) + (x0.Stroke.length : Int))) + (x1.length : Int))) + (x2.length : Int)))) (b := 1000) rfl rfl) ?_
 refine Nt ?_
 refine CWP.cond (t := (decide ((W64 ((W64 ((W64 ((W64 ((W64 ((x0.Area.length : Int) + (x0.Prefix.length : Int))) + (x0.Suffix.length : Int))) + (x0.Stroke.length : Int))) + (x1.length : Int))) + (x2.length : Int))) > 1000))) (by kernel_rfl) rfl (fun hb12 => ?_) (fun hb12 => ?_)
 ·have h13 := cond_t h6 hb12
  refine Sq (Rg [0, 1] ?_)
  refine V 40 4 (mv 7 (.bool r4)) ?_
  refine V 6 4 (ma 40 (.bool r4)) ?_
  refine Nt ?_
  refine CWP.ret (by kernel_rfl) ?_
  refine thenQ_ret ?_
  have hfin := some_inj h13
  subst hfin
  exact ⟨rfl, (.bool r4), res_of (l := [.tmp 6]) (by kernel_rfl) (vs := [(.bool r4)]) ⟨rfl, trivial⟩, (.bool r4), F1, rfl, hs9.clear, rfl⟩
 ·have h14 := cond_f h6 hb12
  refine Sc ?_
  refine thenQ_nrm ?_
  refine Sq (Rg [0, 1, 2, 3, 4, 5, 6] ?_)
  refine V 42 27 (ld 27 3 b1 0 true 4 (.agg #[(.string ⟨(x0.Area).toArray⟩), (.string ⟨(x0.Prefix).toArray⟩), (.string ⟨(x0.Suffix).toArray⟩), (.string ⟨(x0.Stroke).toArray⟩)]) (hs9.ownAt (k := 0) rfl)) ?_
  obtain ⟨r15, hr16, h17⟩ := bind_some h14
  refine Cl 43 24 35 #[(.tmp 42)] #[27] co_air_Join hs9 (c_air_Join N w8 F1 hs9.pers (hG.mono le10) (x0) _ hr16) ?_
  intro v18 F2 w19 hs20 le21 hp22
  obtain rfl := hp22
  refine V 41 24 (mv 43 (.tuple #[(.string ⟨(r15.1).toArray⟩), (vi r15.2)])) ?_
  refine V 44 9 (ex 41 0 (.string ⟨(r15.1).toArray⟩) (vs := #[(.string ⟨(r15.1).toArray⟩), (vi r15.2)])) ?_
  refine V 45 23 (ex 41 1 (vi r15.2) (vs := #[(.string ⟨(r15.1).toArray⟩), (vi r15.2)])) ?_
  refine V 8 9 (ma 44 (.string ⟨(r15.1).toArray⟩)) ?_
  refine V 9 23 (ma 45 (vi r15.2)) ?_
  refine Nss (Rg [0, 1, 2] ?_)
  refine V 46 27 (ld 27 3 b1 0 true 4 (.agg #[(.string ⟨(x0.Area).toArray⟩), (.string ⟨(x0.Prefix).toArray⟩), (.string ⟨(x0.Suffix).toArray⟩), (.string ⟨(x0.Stroke).toArray⟩)]) (hs20.ownAt (k := 0) rfl)) ?_
  refine Al 10 0 27 #[(.string ⟨(([] : List UInt8)).toArray⟩), (.string ⟨(([] : List UInt8)).toArray⟩), (.string ⟨(([] : List UInt8)).toArray⟩), (.string ⟨(([] : List UInt8)).toArray⟩)] hs20 (fun b23 w24 (hs25 : HS w0 F0 w24 F2 [(sb b23 #[(.string ⟨(([] : List UInt8)).toArray⟩), (.string ⟨(([] : List UInt8)).toArray⟩), (.string ⟨(([] : List UInt8)).toArray⟩), (.string ⟨(([] : List UInt8)).toArray⟩)] 27), (sb b1 #[(.string ⟨(x0.Area).toArray⟩), (.string ⟨(x0.Prefix).toArray⟩), (.string ⟨(x0.Suffix).toArray⟩), (.string ⟨(x0.Stroke).toArray⟩)] 27)]) => ?_)
  refine RWP.store (ty := 0) (g := none) (by kernel_rfl) rfl (x := (.tmp 10)) (y := (.tmp 46)) (t := 27) (gg := true) (s := 4) (v := (.agg #[(.string ⟨(x0.Area).toArray⟩), (.string ⟨(x0.Prefix).toArray⟩), (.string ⟨(x0.Suffix).toArray⟩), (.string ⟨(x0.Stroke).toArray⟩)])) (b := b23) (o := 0) (C := #[(.string ⟨(([] : List UInt8)).toArray⟩), (.string ⟨(([] : List UInt8)).toArray⟩), (.string ⟨(([] : List UInt8)).toArray⟩), (.string ⟨(([] : List UInt8)).toArray⟩)]) rfl rfl (by kernel_rfl) hs25 (k := 0) rfl rfl rfl rfl (C' := #[(.string ⟨(x0.Area).toArray⟩), (.string ⟨(x0.Prefix).toArray⟩), (.string ⟨(x0.Suffix).toArray⟩), (.string ⟨(x0.Stroke).toArray⟩)]) rfl (fun w26 (hs27 : HS w0 F0 w26 F2 [(sb b23 #[(.string ⟨(x0.Area).toArray⟩), (.string ⟨(x0.Prefix).toArray⟩), (.string ⟨(x0.Suffix).toArray⟩), (.string ⟨(x0.Stroke).toArray⟩)] 27), (sb b1 #[(.string ⟨(x0.Area).toArray⟩), (.string ⟨(x0.Prefix).toArray⟩), (.string ⟨(x0.Suffix).toArray⟩), (.string ⟨(x0.Stroke).toArray⟩)] 27)]) => ?_)
  refine Nss (Rg [0, 1, 2] ?_)
  refine V 47 9 (mv 1 (.string ⟨(x1).toArray⟩)) ?_
  refine V 48 0 (fa 27 10 0 0 1 b23 0 0) ?_
  refine RWP.store (ty := 0) (g := none) (by kernel_rfl) rfl (x := (.tmp 48)) (y := (.tmp 47)) (t := 9) (gg := false) (s := 1) (v := (.string ⟨(x1).toArray⟩)) (b := b23) (o := 0) (C := #[(.string ⟨(x0.Area).toArray⟩), (.string ⟨(x0.Prefix).toArray⟩), (.string ⟨(x0.Suffix).toArray⟩), (.string ⟨(x0.Stroke).toArray⟩)]) rfl rfl (by kernel_rfl) hs27 (k := 0) rfl rfl rfl rfl (C' := #[(.string ⟨(x1).toArray⟩), (.string ⟨(x0.Prefix).toArray⟩), (.string ⟨(x0.Suffix).toArray⟩), (.string ⟨(x0.Stroke).toArray⟩)]) rfl (fun w28 (hs29 : HS w0 F0 w28 F2 [(sb b23 #[(.string ⟨(x1).toArray⟩), (.string ⟨(x0.Prefix).toArray⟩), (.string ⟨(x0.Suffix).toArray⟩), (.string ⟨(x0.Stroke).toArray⟩)] 27), (sb b1 #[(.string ⟨(x0.Area).toArray⟩), (.string ⟨(x0.Prefix).toArray⟩), (.string ⟨(x0.Suffix).toArray⟩), (.string ⟨(x0.Stroke).toArray⟩)] 27)]) => ?_)
  refine Nss (Rg [0, 1, 2] ?_)
  refine V 49 9 (mv 2 (.string ⟨(x2).toArray⟩)) ?_
  refine V 50 0 (fa 27 10 3 3 1 b23 0 3) ?_
  refine RWP.store (ty := 0) (g := none) (by kernel_rfl) rfl (x := (.tmp 50)) (y := (.tmp 49)) (t := 9) (gg := false) (s := 1) (v := (.string ⟨(x2).toArray⟩)) (b := b23) (o := 3) (C := #[(.string ⟨(x1).toArray⟩), (.string ⟨(x0.Prefix).toArray⟩), (.string ⟨(x0.Suffix).toArray⟩), (.string ⟨(x0.Stroke).toArray⟩)]) rfl rfl (by kernel_rfl) hs29 (k := 0) rfl rfl rfl rfl (C' := #[(.string ⟨(x1).toArray⟩), (.string ⟨(x0.Prefix).toArray⟩), (.string ⟨(x0.Suffix).toArray⟩), (.string ⟨(x2).toArray⟩)]) rfl (fun w30 (hs31 : HS w0 F0 w30 F2 [(sb b23 #[(.string ⟨(x1).toArray⟩), (.string ⟨(x0.Prefix).toArray⟩), (.string ⟨(x0.Suffix).toArray⟩), (.string ⟨(x2).toArray⟩)] 27), (sb b1 #[(.string ⟨(x0.Area).toArray⟩), (.string ⟨(x0.Prefix).toArray⟩), (.string ⟨(x0.Suffix).toArray⟩), (.string ⟨(x0.Stroke).toArray⟩)] 27)]) => ?_)
  refine Nss (Rg [0, 1, 2, 3, 4, 5, 6] ?_)
  refine V 52 27 (ld 27 10 b23 0 true 4 (.agg #[(.string ⟨(x1).toArray⟩), (.string ⟨(x0.Prefix).toArray⟩), (.string ⟨(x0.Suffix).toArray⟩), (.string ⟨(x2).toArray⟩)]) (hs31.ownAt (k := 0) rfl)) ?_
  obtain ⟨r32, hr33, h34⟩ := bind_some h17
  refine Cl 53 24 35 #[(.tmp 52)] #[27] co_air_Join hs31 (c_air_Join N w30 F2 hs31.pers (hG.mono (le10.trans le21)) (({ Area := x1, Prefix := x0.Prefix, Suffix := x0.Suffix, Stroke := x2 } : Parts)) _ hr33) ?_
  intro v35 F3 w36 hs37 le38 hp39
  obtain rfl := hp39
  refine V 51 24 (mv 53 (.tuple #[(.string ⟨(r32.1).toArray⟩), (vi r32.2)])) ?_
  refine V 54 9 (ex 51 0 (.string ⟨(r32.1).toArray⟩) (vs := #[(.string ⟨(r32.1).toArray⟩), (vi r32.2)])) ?_
  refine V 55 23 (ex 51 1 (vi r32.2) (vs := #[(.string ⟨(r32.1).toArray⟩), (vi r32.2)])) ?_
  refine V 11 9 (ma 54 (.string ⟨(r32.1).toArray⟩)) ?_
  refine V 12 23 (ma 55 (vi r32.2)) ?_
  refine Nss ?_
  refine Sq (Rg [0, 1] ?_)
  refine V 56 23 (mv 12 (vi r32.2)) ?_
  refine V 57 4 (run_eql (t := 23) (t' := 23) (x := (.tmp 56)) (y := (.const (vi 0))) (k := .i64) (a := r32.2) (b := 0) rfl rfl) ?_
  refine Nt ?_
  refine CWP.cond (t := (r32.2 == 0)) (by kernel_rfl) rfl (fun hb40 => ?_) (fun hb40 => ?_)
  ·have h41 := cond_t h34 hb40
   refine Sq (Rg [0, 1, 2, 3, 4, 5, 6, 7] ?_)
   refine V 59 9 (mv 11 (.string ⟨(r32.1).toArray⟩)) ?_
   obtain ⟨r42, hr43, h44⟩ := bind_some h41
   refine Cl 60 28 19 #[(.tmp 59)] #[9] co_air_Split hs37 (c_air_Split N w36 F3 hs37.pers (hG.mono ((le10.trans le21).trans le38)) (r32.1) _ hr43) ?_
   intro v45 F4 w46 hs47 le48 hp49
   obtain rfl := hp49
   refine V 58 28 (mv 60 (.tuple #[(.agg #[(.string ⟨(r42.1.Area).toArray⟩), (.string ⟨(r42.1.Prefix).toArray⟩), (.string ⟨(r42.1.Suffix).toArray⟩), (.string ⟨(r42.1.Stroke).toArray⟩)]), (vi r42.2)])) ?_
   refine V 61 27 (ex 58 0 (.agg #[(.string ⟨(r42.1.Area).toArray⟩), (.string ⟨(r42.1.Prefix).toArray⟩), (.string ⟨(r42.1.Suffix).toArray⟩), (.string ⟨(r42.1.Stroke).toArray⟩)]) (vs := #[(.agg #[(.string ⟨(r42.1.Area).toArray⟩), (.string ⟨(r42.1.Prefix).toArray⟩), (.string ⟨(r42.1.Suffix).toArray⟩), (.string ⟨(r42.1.Stroke).toArray⟩)]), (vi r42.2)])) ?_
   refine V 62 23 (ex 58 1 (vi r42.2) (vs := #[(.agg #[(.string ⟨(r42.1.Area).toArray⟩), (.string ⟨(r42.1.Prefix).toArray⟩), (.string ⟨(r42.1.Suffix).toArray⟩), (.string ⟨(r42.1.Stroke).toArray⟩)]), (vi r42.2)])) ?_
   refine Al 13 0 27 #[(.string ⟨(([] : List UInt8)).toArray⟩), (.string ⟨(([] : List UInt8)).toArray⟩), (.string ⟨(([] : List UInt8)).toArray⟩), (.string ⟨(([] : List UInt8)).toArray⟩)] hs47 (fun b50 w51 (hs52 : HS w0 F0 w51 F4 [(sb b50 #[(.string ⟨(([] : List UInt8)).toArray⟩), (.string ⟨(([] : List UInt8)).toArray⟩), (.string ⟨(([] : List UInt8)).toArray⟩), (.string ⟨(([] : List UInt8)).toArray⟩)] 27), (sb b23 #[(.string ⟨(x1).toArray⟩), (.string ⟨(x0.Prefix).toArray⟩), (.string ⟨(x0.Suffix).toArray⟩), (.string ⟨(x2).toArray⟩)] 27), (sb b1 #[(.string ⟨(x0.Area).toArray⟩), (.string ⟨(x0.Prefix).toArray⟩), (.string ⟨(x0.Suffix).toArray⟩), (.string ⟨(x0.Stroke).toArray⟩)] 27)]) => ?_)
   refine RWP.store (ty := 0) (g := none) (by kernel_rfl) rfl (x := (.tmp 13)) (y := (.tmp 61)) (t := 27) (gg := true) (s := 4) (v := (.agg #[(.string ⟨(r42.1.Area).toArray⟩), (.string ⟨(r42.1.Prefix).toArray⟩), (.string ⟨(r42.1.Suffix).toArray⟩), (.string ⟨(r42.1.Stroke).toArray⟩)])) (b := b50) (o := 0) (C := #[(.string ⟨(([] : List UInt8)).toArray⟩), (.string ⟨(([] : List UInt8)).toArray⟩), (.string ⟨(([] : List UInt8)).toArray⟩), (.string ⟨(([] : List UInt8)).toArray⟩)]) rfl rfl (by kernel_rfl) hs52 (k := 0) rfl rfl rfl rfl (C' := #[(.string ⟨(r42.1.Area).toArray⟩), (.string ⟨(r42.1.Prefix).toArray⟩), (.string ⟨(r42.1.Suffix).toArray⟩), (.string ⟨(r42.1.Stroke).toArray⟩)]) rfl (fun w53 (hs54 : HS w0 F0 w53 F4 [(sb b50 #[(.string ⟨(r42.1.Area).toArray⟩), (.string ⟨(r42.1.Prefix).toArray⟩), (.string ⟨(r42.1.Suffix).toArray⟩), (.string ⟨(r42.1.Stroke).toArray⟩)] 27), (sb b23 #[(.string ⟨(x1).toArray⟩), (.string ⟨(x0.Prefix).toArray⟩), (.string ⟨(x0.Suffix).toArray⟩), (.string ⟨(x2).toArray⟩)] 27), (sb b1 #[(.string ⟨(x0.Area).toArray⟩), (.string ⟨(x0.Prefix).toArray⟩), (.string ⟨(x0.Suffix).toArray⟩), (.string ⟨(x0.Stroke).toArray⟩)] 27)]) => ?_)
   refine V 14 23 (ma 62 (vi r42.2)) ?_
   refine Nss (Rg [0, 1, 2, 3, 4, 5, 6] ?_)
   refine RWP.cut (fun f w => ∃ (F5 : Mem), HS w0 F0 w F5 [] ∧ Mem.le F4 F5 ∧ f.d = [] ∧ f 7 = (.bool r4) ∧ f 8 = (.string ⟨(r15.1).toArray⟩) ∧ f 9 = (vi r15.2) ∧ f 11 = (.string ⟨(r32.1).toArray⟩) ∧ f 12 = (vi r32.2) ∧ f 69 = (.bool ((r42.2 != 0) || (!((r42.1.Area == x1) && ((r42.1.Prefix == x0.Prefix) && ((r42.1.Suffix == x0.Suffix) && ((r42.1.Stroke == x2) && true)))))))) ?_ ?_
   ·refine V 63 23 (mv 14 (vi r42.2)) ?_
    refine V 64 4 (run_neq (t := 23) (t' := 23) (x := (.tmp 63)) (y := (.const (vi 0))) (k := .i64) (a := r42.2) (b := 0) rfl rfl) ?_
    refine V 65 4 (mv 64 (.bool (r42.2 != 0))) ?_
    refine RWP.split (r42.2 != 0) (fun hb65 => ?_) (fun hb65 => ?_)
    ·refine Sk [66, 67, 68] 2 false 65 hb65 ?_
     refine V 69 4 (p1 65 (.const (.bool true)) (.tmp 68) (.bool true) hb65) ?_
     have hs66 : HS w0 F0 w53 F4 [(sb b23 #[(.string ⟨(x1).toArray⟩), (.string ⟨(x0.Prefix).toArray⟩), (.string ⟨(x0.Suffix).toArray⟩), (.string ⟨(x2).toArray⟩)] 27), (sb b1 #[(.string ⟨(x0.Area).toArray⟩), (.string ⟨(x0.Prefix).toArray⟩), (.string ⟨(x0.Suffix).toArray⟩), (.string ⟨(x0.Stroke).toArray⟩)] 27)] := hs54.drop 0
     have hs67 : HS w0 F0 w53 F4 [(sb b1 #[(.string ⟨(x0.Area).toArray⟩), (.string ⟨(x0.Prefix).toArray⟩), (.string ⟨(x0.Suffix).toArray⟩), (.string ⟨(x0.Stroke).toArray⟩)] 27)] := hs66.drop 0
     have hs68 : HS w0 F0 w53 F4 [] := hs67.drop 0
     exact RWP.nil ⟨rfl, F4, hs68, (Mem.le.refl _), rfl, rfl, rfl, rfl, rfl, rfl, (congrArg Value.bool (or_t hb65 (rfl)))⟩
    ·refine Vg 66 27 2 false 65 hb65 (ld 27 13 b50 0 true 4 (.agg #[(.string ⟨(r42.1.Area).toArray⟩), (.string ⟨(r42.1.Prefix).toArray⟩), (.string ⟨(r42.1.Suffix).toArray⟩), (.string ⟨(r42.1.Stroke).toArray⟩)]) (hs54.ownAt (k := 0) rfl)) ?_
     refine Vg 67 27 2 false 65 hb65 (ld 27 10 b23 0 true 4 (.agg #[(.string ⟨(x1).toArray⟩), (.string ⟨(x0.Prefix).toArray⟩), (.string ⟨(x0.Suffix).toArray⟩), (.string ⟨(x2).toArray⟩)]) (hs54.ownAt (k := 1) rfl)) ?_
     refine Vg 68 4 2 false 65 hb65 (run_nes (t := 27) (t' := 27) (x := (.tmp 66)) (y := (.tmp 67)) (xs := #[(.string ⟨(r42.1.Area).toArray⟩), (.string ⟨(r42.1.Prefix).toArray⟩), (.string ⟨(r42.1.Suffix).toArray⟩), (.string ⟨(r42.1.Stroke).toArray⟩)]) (ys := #[(.string ⟨(x1).toArray⟩), (.string ⟨(x0.Prefix).toArray⟩), (.string ⟨(x0.Suffix).toArray⟩), (.string ⟨(x2).toArray⟩)]) (b := ((r42.1.Area == x1) && ((r42.1.Prefix == x0.Prefix) && ((r42.1.Suffix == x0.Suffix) && ((r42.1.Stroke == x2) && true))))) rfl rfl (by kernel_rfl) (by kernel_rfl)) ?_
     refine V 69 4 (p0 65 (.const (.bool true)) (.tmp 68) (.bool (!((r42.1.Area == x1) && ((r42.1.Prefix == x0.Prefix) && ((r42.1.Suffix == x0.Suffix) && ((r42.1.Stroke == x2) && true)))))) hb65) ?_
     have hs69 : HS w0 F0 w53 F4 [(sb b23 #[(.string ⟨(x1).toArray⟩), (.string ⟨(x0.Prefix).toArray⟩), (.string ⟨(x0.Suffix).toArray⟩), (.string ⟨(x2).toArray⟩)] 27), (sb b1 #[(.string ⟨(x0.Area).toArray⟩), (.string ⟨(x0.Prefix).toArray⟩), (.string ⟨(x0.Suffix).toArray⟩), (.string ⟨(x0.Stroke).toArray⟩)] 27)] := hs54.drop 0
     have hs70 : HS w0 F0 w53 F4 [(sb b1 #[(.string ⟨(x0.Area).toArray⟩), (.string ⟨(x0.Prefix).toArray⟩), (.string ⟨(x0.Suffix).toArray⟩), (.string ⟨(x0.Stroke).toArray⟩)] 27)] := hs69.drop 0
     have hs71 : HS w0 F0 w53 F4 [] := hs70.drop 0
     exact RWP.nil ⟨rfl, F4, hs71, (Mem.le.refl _), rfl, rfl, rfl, rfl, rfl, rfl, (congrArg Value.bool (or_f hb65 (rfl)))⟩
   ·rintro f w55 ⟨F5, hs56, le57, e58, e59, e60, e61, e62, e63, e64⟩
    refine thenQ_nrm ?_
    refine CWP.cond (t := ((r42.2 != 0) || (!((r42.1.Area == x1) && ((r42.1.Prefix == x0.Prefix) && ((r42.1.Suffix == x0.Suffix) && ((r42.1.Stroke == x2) && true))))))) (by kernel_rfl) e64 (fun hb72 => ?_) (fun hb72 => ?_)
    ·have h73 := cond_t h44 hb72
     refine Sq (Rg [0] ?_)
     refine V 6 4 (mc (.bool false) (.bool false)) ?_
     refine Nt ?_
     refine CWP.ret (by kernel_rfl) ?_
     refine thenQ_ret ?_
     have hfin := some_inj h73
     subst hfin
     exact ⟨e58, (.bool false), res_of (l := [.tmp 6]) (by kernel_rfl) (vs := [(.bool false)]) ⟨rfl, trivial⟩, (.bool false), F5, rfl, hs56.clear, rfl⟩
    ·have h74 := cond_f h44 hb72
     refine Sc ?_
     refine thenQ_nrm ?_
     refine Sq ?_
     refine Sq (Rg [0, 1, 2, 3, 4, 5] ?_)
     refine RWP.cut (fun f w => ∃ (F6 : Mem), HS w0 F0 w F6 [] ∧ Mem.le F5 F6 ∧ f.d = [] ∧ f 7 = (.bool r4) ∧ f 8 = (.string ⟨(r15.1).toArray⟩) ∧ f 9 = (vi r15.2) ∧ f 11 = (.string ⟨(r32.1).toArray⟩) ∧ f 12 = (vi r32.2) ∧ f 75 = (.bool ((r15.2 != 0) || (r32.2 != 0)))) ?_ ?_
     ·refine V 70 23 (mv 9 (vi r15.2) e61) ?_
      refine V 71 4 (run_neq (t := 23) (t' := 23) (x := (.tmp 70)) (y := (.const (vi 0))) (k := .i64) (a := r15.2) (b := 0) rfl rfl) ?_
      refine V 72 4 (mv 71 (.bool (r15.2 != 0))) ?_
      refine RWP.split (r15.2 != 0) (fun hb85 => ?_) (fun hb85 => ?_)
      ·refine Sk [73, 74] 2 false 72 hb85 ?_
       refine V 75 4 (p1 72 (.const (.bool true)) (.tmp 74) (.bool true) hb85) ?_
       exact RWP.nil ⟨rfl, F5, hs56, (Mem.le.refl _), e58, e59, e60, e61, e62, e63, (congrArg Value.bool (or_t hb85 (rfl)))⟩
      ·refine Vg 73 23 2 false 72 hb85 (mv 12 (vi r32.2) e63) ?_
       refine Vg 74 4 2 false 72 hb85 (run_neq (t := 23) (t' := 23) (x := (.tmp 73)) (y := (.const (vi 0))) (k := .i64) (a := r32.2) (b := 0) rfl rfl) ?_
       refine V 75 4 (p0 72 (.const (.bool true)) (.tmp 74) (.bool (r32.2 != 0)) hb85) ?_
       exact RWP.nil ⟨rfl, F5, hs56, (Mem.le.refl _), e58, e59, e60, e61, e62, e63, (congrArg Value.bool (or_f hb85 (rfl)))⟩
     ·rintro f w75 ⟨F6, hs76, le77, e78, e79, e80, e81, e82, e83, e84⟩
      refine thenQ_nrm ?_
      refine CWP.cond (t := ((r15.2 != 0) || (r32.2 != 0))) (by kernel_rfl) e84 (fun hb86 => ?_) (fun hb86 => ?_)
      ·have h87 := cond_t h74 hb86
       refine Sq (Rg [0, 1, 2, 3, 4, 5, 6, 7, 8, 9, 10, 11, 12, 13, 14, 15, 16, 17] ?_)
       refine RWP.cut (fun f w => ∃ (F7 : Mem), HS w0 F0 w F7 [] ∧ Mem.le F6 F7 ∧ f.d = [] ∧ f 6 = (.bool (r4 && ((r15.2 == 0) || (r15.2 == 10))))) ?_ ?_
       ·refine V 76 4 (mv 7 (.bool r4) e79) ?_
        refine V 77 4 (mv 76 (.bool r4)) ?_
        refine RWP.split r4 (fun hb93 => ?_) (fun hb93 => ?_)
        ·refine Vg 78 23 1 true 77 hb93 (mv 9 (vi r15.2) e81) ?_
         refine Vg 79 4 1 true 77 hb93 (run_eql (t := 23) (t' := 23) (x := (.tmp 78)) (y := (.const (vi 0))) (k := .i64) (a := r15.2) (b := 0) rfl rfl) ?_
         refine Vg 80 4 1 true 77 hb93 (mv 79 (.bool (r15.2 == 0))) ?_
         refine RWP.split (r15.2 == 0) (fun hb94 => ?_) (fun hb94 => ?_)
         ·refine Sk [81, 82] 4 false 80 hb94 ?_
          refine Vg 83 4 1 true 77 hb93 (p1 80 (.const (.bool true)) (.tmp 82) (.bool true) hb94) ?_
          refine V 84 4 (p1 77 (.tmp 83) (.const (.bool false)) (.bool true) hb93) ?_
          refine V 85 4 (mv 84 (.bool true)) ?_
          refine Vg 86 23 9 true 85 rfl (mv 12 (vi r32.2) e83) ?_
          refine Vg 87 4 9 true 85 rfl (run_eql (t := 23) (t' := 23) (x := (.tmp 86)) (y := (.const (vi 0))) (k := .i64) (a := r32.2) (b := 0) rfl rfl) ?_
          refine Vg 88 4 9 true 85 rfl (mv 87 (.bool (r32.2 == 0))) ?_
          refine Sk [89, 90] 12 false 88 hb40 ?_
          refine Vg 91 4 9 true 85 rfl (p1 88 (.const (.bool true)) (.tmp 90) (.bool true) hb40) ?_
          refine V 92 4 (p1 85 (.tmp 91) (.const (.bool false)) (.bool true) rfl) ?_
          refine V 6 4 (ma 92 (.bool true)) ?_
          exact RWP.nil ⟨rfl, F6, hs76, (Mem.le.refl _), e78, (congrArg Value.bool (and_t hb93 (or_t hb94 (rfl))))⟩
         ·refine Vg 81 23 4 false 80 hb94 (mv 9 (vi r15.2) e81) ?_
          refine Vg 82 4 4 false 80 hb94 (run_eql (t := 23) (t' := 23) (x := (.tmp 81)) (y := (.const (vi 10))) (k := .i64) (a := r15.2) (b := 10) rfl rfl) ?_
          refine Vg 83 4 1 true 77 hb93 (p0 80 (.const (.bool true)) (.tmp 82) (.bool (r15.2 == 10)) hb94) ?_
          refine V 84 4 (p1 77 (.tmp 83) (.const (.bool false)) (.bool (r15.2 == 10)) hb93) ?_
          refine V 85 4 (mv 84 (.bool (r15.2 == 10))) ?_
          refine RWP.split (r15.2 == 10) (fun hb95 => ?_) (fun hb95 => ?_)
          ·refine Vg 86 23 9 true 85 hb95 (mv 12 (vi r32.2) e83) ?_
           refine Vg 87 4 9 true 85 hb95 (run_eql (t := 23) (t' := 23) (x := (.tmp 86)) (y := (.const (vi 0))) (k := .i64) (a := r32.2) (b := 0) rfl rfl) ?_
           refine Vg 88 4 9 true 85 hb95 (mv 87 (.bool (r32.2 == 0))) ?_
           refine Sk [89, 90] 12 false 88 hb40 ?_
           refine Vg 91 4 9 true 85 hb95 (p1 88 (.const (.bool true)) (.tmp 90) (.bool true) hb40) ?_
           refine V 92 4 (p1 85 (.tmp 91) (.const (.bool false)) (.bool true) hb95) ?_
           refine V 6 4 (ma 92 (.bool true)) ?_
           exact RWP.nil ⟨rfl, F6, hs76, (Mem.le.refl _), e78, (congrArg Value.bool (and_t hb93 (or_f hb94 (hb95.symm))))⟩
          ·refine Sk [86, 87, 88] 9 true 85 hb95 ?_
           refine Su [89, 90] 12 false 88 ?_
           refine Sk [91] 9 true 85 hb95 ?_
           refine V 92 4 (p0 85 (.tmp 91) (.const (.bool false)) (.bool false) hb95) ?_
           refine V 6 4 (ma 92 (.bool false)) ?_
           exact RWP.nil ⟨rfl, F6, hs76, (Mem.le.refl _), e78, (congrArg Value.bool (and_t hb93 (or_f hb94 (hb95.symm))))⟩
        ·refine Sk [78, 79, 80] 1 true 77 hb93 ?_
         refine Su [81, 82] 4 false 80 ?_
         refine Sk [83] 1 true 77 hb93 ?_
         refine V 84 4 (p0 77 (.tmp 83) (.const (.bool false)) (.bool false) hb93) ?_
         refine V 85 4 (mv 84 (.bool false)) ?_
         refine Sk [86, 87, 88] 9 true 85 rfl ?_
         refine Su [89, 90] 12 false 88 ?_
         refine Sk [91] 9 true 85 rfl ?_
         refine V 92 4 (p0 85 (.tmp 91) (.const (.bool false)) (.bool false) rfl) ?_
         refine V 6 4 (ma 92 (.bool false)) ?_
         exact RWP.nil ⟨rfl, F6, hs76, (Mem.le.refl _), e78, (congrArg Value.bool (and_f hb93 (rfl)))⟩
       ·rintro f w88 ⟨F7, hs89, le90, e91, e92⟩
        refine thenQ_nrm ?_
        refine CWP.ret (by kernel_rfl) ?_
        refine thenQ_ret ?_
        have hfin := some_inj h87
        subst hfin
        exact ⟨e91, (.bool (r4 && ((r15.2 == 0) || (r15.2 == 10)))), res_of (l := [.tmp 6]) (by kernel_rfl) (vs := [(.bool (r4 && ((r15.2 == 0) || (r15.2 == 10))))]) ⟨e92, trivial⟩, (.bool (r4 && ((r15.2 == 0) || (r15.2 == 10)))), F7, rfl, hs89.clear, rfl⟩
      ·have h96 := cond_f h74 hb86
       refine Sc ?_
       refine thenQ_nrm ?_
       refine Sq (Rg [0, 1, 2, 3, 4, 5, 6, 7] ?_)
       refine V 94 9 (mv 8 (.string ⟨(r15.1).toArray⟩) e80) ?_
       refine V 95 9 (mv 11 (.string ⟨(r32.1).toArray⟩) e82) ?_
       obtain ⟨r97, hr98, h99⟩ := bind_some h96
       refine Cl 96 46 41 #[(.tmp 94), (.tmp 95)] #[9, 9] co_air_Same hs76 (c_air_Same N w75 F6 hs76.pers (hG.mono (((((le10.trans le21).trans le38).trans le48).trans le57).trans le77)) (r15.1) (r32.1) _ hr98) ?_
       intro v100 F8 w101 hs102 le103 hp104
       obtain rfl := hp104
       refine V 93 46 (mv 96 (.tuple #[(.bool r97.1), (vi r97.2)])) ?_
       refine V 97 4 (ex 93 0 (.bool r97.1) (vs := #[(.bool r97.1), (vi r97.2)])) ?_
       refine V 98 23 (ex 93 1 (vi r97.2) (vs := #[(.bool r97.1), (vi r97.2)])) ?_
       refine V 15 4 (ma 97 (.bool r97.1)) ?_
       refine V 16 23 (ma 98 (vi r97.2)) ?_
       refine Nss (Rg [0, 1, 2, 3, 4, 5, 6, 7, 8] ?_)
       refine RWP.cut (fun f w => ∃ (F9 : Mem), HS w0 F0 w F9 [] ∧ Mem.le F8 F9 ∧ f.d = [] ∧ f 6 = (.bool (r4 && ((r97.2 == 0) && r97.1)))) ?_ ?_
       ·refine V 99 4 (mv 7 (.bool r4) e79) ?_
        refine V 100 4 (mv 99 (.bool r4)) ?_
        refine RWP.split r4 (fun hb110 => ?_) (fun hb110 => ?_)
        ·refine Vg 101 23 1 true 100 hb110 (mv 16 (vi r97.2)) ?_
         refine Vg 102 4 1 true 100 hb110 (run_eql (t := 23) (t' := 23) (x := (.tmp 101)) (y := (.const (vi 0))) (k := .i64) (a := r97.2) (b := 0) rfl rfl) ?_
         refine V 103 4 (p1 100 (.tmp 102) (.const (.bool false)) (.bool (r97.2 == 0)) hb110) ?_
         refine V 104 4 (mv 103 (.bool (r97.2 == 0))) ?_
         refine RWP.split (r97.2 == 0) (fun hb111 => ?_) (fun hb111 => ?_)
         ·refine Vg 105 4 5 true 104 hb111 (mv 15 (.bool r97.1)) ?_
          refine V 106 4 (p1 104 (.tmp 105) (.const (.bool false)) (.bool r97.1) hb111) ?_
          refine V 6 4 (ma 106 (.bool r97.1)) ?_
          exact RWP.nil ⟨rfl, F8, hs102, (Mem.le.refl _), e78, (congrArg Value.bool (and_t hb110 (and_t hb111 (rfl))))⟩
         ·refine Sk [105] 5 true 104 hb111 ?_
          refine V 106 4 (p0 104 (.tmp 105) (.const (.bool false)) (.bool false) hb111) ?_
          refine V 6 4 (ma 106 (.bool false)) ?_
          exact RWP.nil ⟨rfl, F8, hs102, (Mem.le.refl _), e78, (congrArg Value.bool (and_t hb110 (and_f hb111 (rfl))))⟩
        ·refine Sk [101, 102] 1 true 100 hb110 ?_
         refine V 103 4 (p0 100 (.tmp 102) (.const (.bool false)) (.bool false) hb110) ?_
         refine V 104 4 (mv 103 (.bool false)) ?_
         refine Sk [105] 5 true 104 rfl ?_
         refine V 106 4 (p0 104 (.tmp 105) (.const (.bool false)) (.bool false) rfl) ?_
         refine V 6 4 (ma 106 (.bool false)) ?_
         exact RWP.nil ⟨rfl, F8, hs102, (Mem.le.refl _), e78, (congrArg Value.bool (and_f hb110 (rfl)))⟩
       ·rintro f w105 ⟨F9, hs106, le107, e108, e109⟩
        refine thenQ_nrm ?_
        refine CWP.ret (by kernel_rfl) ?_
        have hfin := some_inj h99
        subst hfin
        exact ⟨e108, (.bool (r4 && ((r97.2 == 0) && r97.1))), res_of (l := [.tmp 6]) (by kernel_rfl) (vs := [(.bool (r4 && ((r97.2 == 0) && r97.1)))]) ⟨e109, trivial⟩, (.bool (r4 && ((r97.2 == 0) && r97.1))), F9, rfl, hs106.clear, rfl⟩
  ·have h112 := cond_f h34 hb40
   refine Sc ?_
   refine thenQ_nrm ?_
   refine Sq ?_
   refine Sq (Rg [0, 1, 2, 3, 4, 5] ?_)
   refine RWP.cut (fun f w => ∃ (F10 : Mem), HS w0 F0 w F10 [] ∧ Mem.le F3 F10 ∧ f.d = [] ∧ f 7 = (.bool r4) ∧ f 8 = (.string ⟨(r15.1).toArray⟩) ∧ f 9 = (vi r15.2) ∧ f 11 = (.string ⟨(r32.1).toArray⟩) ∧ f 12 = (vi r32.2) ∧ f 75 = (.bool ((r15.2 != 0) || (r32.2 != 0)))) ?_ ?_
   ·refine V 70 23 (mv 9 (vi r15.2)) ?_
    refine V 71 4 (run_neq (t := 23) (t' := 23) (x := (.tmp 70)) (y := (.const (vi 0))) (k := .i64) (a := r15.2) (b := 0) rfl rfl) ?_
    refine V 72 4 (mv 71 (.bool (r15.2 != 0))) ?_
    refine RWP.split (r15.2 != 0) (fun hb123 => ?_) (fun hb123 => ?_)
    ·refine Sk [73, 74] 2 false 72 hb123 ?_
     refine V 75 4 (p1 72 (.const (.bool true)) (.tmp 74) (.bool true) hb123) ?_
     have hs124 : HS w0 F0 w36 F3 [(sb b1 #[(.string ⟨(x0.Area).toArray⟩), (.string ⟨(x0.Prefix).toArray⟩), (.string ⟨(x0.Suffix).toArray⟩), (.string ⟨(x0.Stroke).toArray⟩)] 27)] := hs37.drop 0
     have hs125 : HS w0 F0 w36 F3 [] := hs124.drop 0
     exact RWP.nil ⟨rfl, F3, hs125, (Mem.le.refl _), rfl, rfl, rfl, rfl, rfl, rfl, (congrArg Value.bool (or_t hb123 (rfl)))⟩
    ·refine Vg 73 23 2 false 72 hb123 (mv 12 (vi r32.2)) ?_
     refine Vg 74 4 2 false 72 hb123 (run_neq (t := 23) (t' := 23) (x := (.tmp 73)) (y := (.const (vi 0))) (k := .i64) (a := r32.2) (b := 0) rfl rfl) ?_
     refine V 75 4 (p0 72 (.const (.bool true)) (.tmp 74) (.bool (r32.2 != 0)) hb123) ?_
     have hs126 : HS w0 F0 w36 F3 [(sb b1 #[(.string ⟨(x0.Area).toArray⟩), (.string ⟨(x0.Prefix).toArray⟩), (.string ⟨(x0.Suffix).toArray⟩), (.string ⟨(x0.Stroke).toArray⟩)] 27)] := hs37.drop 0
     have hs127 : HS w0 F0 w36 F3 [] := hs126.drop 0
     exact RWP.nil ⟨rfl, F3, hs127, (Mem.le.refl _), rfl, rfl, rfl, rfl, rfl, rfl, (congrArg Value.bool (or_f hb123 (rfl)))⟩
   ·rintro f w113 ⟨F10, hs114, le115, e116, e117, e118, e119, e120, e121, e122⟩
    refine thenQ_nrm ?_
    refine CWP.cond (t := ((r15.2 != 0) || (r32.2 != 0))) (by kernel_rfl) e122 (fun hb128 => ?_) (fun hb128 => ?_)
    ·have h129 := cond_t h112 hb128
     refine Sq (Rg [0, 1, 2, 3, 4, 5, 6, 7, 8, 9, 10, 11, 12, 13, 14, 15, 16, 17] ?_)
     refine RWP.cut (fun f w => ∃ (F11 : Mem), HS w0 F0 w F11 [] ∧ Mem.le F10 F11 ∧ f.d = [] ∧ f 6 = (.bool (r4 && (bif (r15.2 == 0) then (r32.2 == 10) else ((r15.2 == 10) && (r32.2 == 10)))))) ?_ ?_
     ·refine V 76 4 (mv 7 (.bool r4) e117) ?_
      refine V 77 4 (mv 76 (.bool r4)) ?_
      refine RWP.split r4 (fun hb135 => ?_) (fun hb135 => ?_)
      ·refine Vg 78 23 1 true 77 hb135 (mv 9 (vi r15.2) e119) ?_
       refine Vg 79 4 1 true 77 hb135 (run_eql (t := 23) (t' := 23) (x := (.tmp 78)) (y := (.const (vi 0))) (k := .i64) (a := r15.2) (b := 0) rfl rfl) ?_
       refine Vg 80 4 1 true 77 hb135 (mv 79 (.bool (r15.2 == 0))) ?_
       refine RWP.split (r15.2 == 0) (fun hb136 => ?_) (fun hb136 => ?_)
       ·refine Sk [81, 82] 4 false 80 hb136 ?_
        refine Vg 83 4 1 true 77 hb135 (p1 80 (.const (.bool true)) (.tmp 82) (.bool true) hb136) ?_
        refine V 84 4 (p1 77 (.tmp 83) (.const (.bool false)) (.bool true) hb135) ?_
        refine V 85 4 (mv 84 (.bool true)) ?_
        refine Vg 86 23 9 true 85 rfl (mv 12 (vi r32.2) e121) ?_
        refine Vg 87 4 9 true 85 rfl (run_eql (t := 23) (t' := 23) (x := (.tmp 86)) (y := (.const (vi 0))) (k := .i64) (a := r32.2) (b := 0) rfl rfl) ?_
        refine Vg 88 4 9 true 85 rfl (mv 87 (.bool (r32.2 == 0))) ?_
        refine Vg 89 23 12 false 88 hb40 (mv 12 (vi r32.2) e121) ?_
        refine Vg 90 4 12 false 88 hb40 (run_eql (t := 23) (t' := 23) (x := (.tmp 89)) (y := (.const (vi 10))) (k := .i64) (a := r32.2) (b := 10) rfl rfl) ?_
        refine Vg 91 4 9 true 85 rfl (p0 88 (.const (.bool true)) (.tmp 90) (.bool (r32.2 == 10)) hb40) ?_
        refine V 92 4 (p1 85 (.tmp 91) (.const (.bool false)) (.bool (r32.2 == 10)) rfl) ?_
        refine V 6 4 (ma 92 (.bool (r32.2 == 10))) ?_
        exact RWP.nil ⟨rfl, F10, hs114, (Mem.le.refl _), e116, (congrArg Value.bool (and_t hb135 (bif_t hb136 (rfl))))⟩
       ·refine Vg 81 23 4 false 80 hb136 (mv 9 (vi r15.2) e119) ?_
        refine Vg 82 4 4 false 80 hb136 (run_eql (t := 23) (t' := 23) (x := (.tmp 81)) (y := (.const (vi 10))) (k := .i64) (a := r15.2) (b := 10) rfl rfl) ?_
        refine Vg 83 4 1 true 77 hb135 (p0 80 (.const (.bool true)) (.tmp 82) (.bool (r15.2 == 10)) hb136) ?_
        refine V 84 4 (p1 77 (.tmp 83) (.const (.bool false)) (.bool (r15.2 == 10)) hb135) ?_
        refine V 85 4 (mv 84 (.bool (r15.2 == 10))) ?_
        refine RWP.split (r15.2 == 10) (fun hb137 => ?_) (fun hb137 => ?_)
        ·refine Vg 86 23 9 true 85 hb137 (mv 12 (vi r32.2) e121) ?_
         refine Vg 87 4 9 true 85 hb137 (run_eql (t := 23) (t' := 23) (x := (.tmp 86)) (y := (.const (vi 0))) (k := .i64) (a := r32.2) (b := 0) rfl rfl) ?_
         refine Vg 88 4 9 true 85 hb137 (mv 87 (.bool (r32.2 == 0))) ?_
         refine Vg 89 23 12 false 88 hb40 (mv 12 (vi r32.2) e121) ?_
         refine Vg 90 4 12 false 88 hb40 (run_eql (t := 23) (t' := 23) (x := (.tmp 89)) (y := (.const (vi 10))) (k := .i64) (a := r32.2) (b := 10) rfl rfl) ?_
         refine Vg 91 4 9 true 85 hb137 (p0 88 (.const (.bool true)) (.tmp 90) (.bool (r32.2 == 10)) hb40) ?_
         refine V 92 4 (p1 85 (.tmp 91) (.const (.bool false)) (.bool (r32.2 == 10)) hb137) ?_
         refine V 6 4 (ma 92 (.bool (r32.2 == 10))) ?_
         exact RWP.nil ⟨rfl, F10, hs114, (Mem.le.refl _), e116, (congrArg Value.bool (and_t hb135 (bif_f hb136 (and_t hb137 (rfl)))))⟩
        ·refine Sk [86, 87, 88] 9 true 85 hb137 ?_
         refine Su [89, 90] 12 false 88 ?_
         refine Sk [91] 9 true 85 hb137 ?_
         refine V 92 4 (p0 85 (.tmp 91) (.const (.bool false)) (.bool false) hb137) ?_
         refine V 6 4 (ma 92 (.bool false)) ?_
         exact RWP.nil ⟨rfl, F10, hs114, (Mem.le.refl _), e116, (congrArg Value.bool (and_t hb135 (bif_f hb136 (and_f hb137 (rfl)))))⟩
      ·refine Sk [78, 79, 80] 1 true 77 hb135 ?_
       refine Su [81, 82] 4 false 80 ?_
       refine Sk [83] 1 true 77 hb135 ?_
       refine V 84 4 (p0 77 (.tmp 83) (.const (.bool false)) (.bool false) hb135) ?_
       refine V 85 4 (mv 84 (.bool false)) ?_
       refine Sk [86, 87, 88] 9 true 85 rfl ?_
       refine Su [89, 90] 12 false 88 ?_
       refine Sk [91] 9 true 85 rfl ?_
       refine V 92 4 (p0 85 (.tmp 91) (.const (.bool false)) (.bool false) rfl) ?_
       refine V 6 4 (ma 92 (.bool false)) ?_
       exact RWP.nil ⟨rfl, F10, hs114, (Mem.le.refl _), e116, (congrArg Value.bool (and_f hb135 (rfl)))⟩
     ·rintro f w130 ⟨F11, hs131, le132, e133, e134⟩
      refine thenQ_nrm ?_
      refine CWP.ret (by kernel_rfl) ?_
      refine thenQ_ret ?_
      have hfin := some_inj h129
      subst hfin
      exact ⟨e133, (.bool (r4 && (bif (r15.2 == 0) then (r32.2 == 10) else ((r15.2 == 10) && (r32.2 == 10))))), res_of (l := [.tmp 6]) (by kernel_rfl) (vs := [(.bool (r4 && (bif (r15.2 == 0) then (r32.2 == 10) else ((r15.2 == 10) && (r32.2 == 10)))))]) ⟨e134, trivial⟩, (.bool (r4 && (bif (r15.2 == 0) then (r32.2 == 10) else ((r15.2 == 10) && (r32.2 == 10))))), F11, rfl, hs131.clear, rfl⟩
    ·have h138 := cond_f h112 hb128
     refine Sc ?_
     refine thenQ_nrm ?_
     refine Sq (Rg [0, 1, 2, 3, 4, 5, 6, 7] ?_)
     refine V 94 9 (mv 8 (.string ⟨(r15.1).toArray⟩) e118) ?_
     refine V 95 9 (mv 11 (.string ⟨(r32.1).toArray⟩) e120) ?_
     obtain ⟨r139, hr140, h141⟩ := bind_some h138
     refine Cl 96 46 41 #[(.tmp 94), (.tmp 95)] #[9, 9] co_air_Same hs114 (c_air_Same N w113 F10 hs114.pers (hG.mono (((le10.trans le21).trans le38).trans le115)) (r15.1) (r32.1) _ hr140) ?_
     intro v142 F12 w143 hs144 le145 hp146
     obtain rfl := hp146
     refine V 93 46 (mv 96 (.tuple #[(.bool r139.1), (vi r139.2)])) ?_
     refine V 97 4 (ex 93 0 (.bool r139.1) (vs := #[(.bool r139.1), (vi r139.2)])) ?_
     refine V 98 23 (ex 93 1 (vi r139.2) (vs := #[(.bool r139.1), (vi r139.2)])) ?_
     refine V 15 4 (ma 97 (.bool r139.1)) ?_
     refine V 16 23 (ma 98 (vi r139.2)) ?_
     refine Nss (Rg [0, 1, 2, 3, 4, 5, 6, 7, 8] ?_)
     refine RWP.cut (fun f w => ∃ (F13 : Mem), HS w0 F0 w F13 [] ∧ Mem.le F12 F13 ∧ f.d = [] ∧ f 6 = (.bool (r4 && ((r139.2 == 0) && r139.1)))) ?_ ?_
     ·refine V 99 4 (mv 7 (.bool r4) e117) ?_
      refine V 100 4 (mv 99 (.bool r4)) ?_
      refine RWP.split r4 (fun hb152 => ?_) (fun hb152 => ?_)
      ·refine Vg 101 23 1 true 100 hb152 (mv 16 (vi r139.2)) ?_
       refine Vg 102 4 1 true 100 hb152 (run_eql (t := 23) (t' := 23) (x := (.tmp 101)) (y := (.const (vi 0))) (k := .i64) (a := r139.2) (b := 0) rfl rfl) ?_
       refine V 103 4 (p1 100 (.tmp 102) (.const (.bool false)) (.bool (r139.2 == 0)) hb152) ?_
       refine V 104 4 (mv 103 (.bool (r139.2 == 0))) ?_
       refine RWP.split (r139.2 == 0) (fun hb153 => ?_) (fun hb153 => ?_)
       ·refine Vg 105 4 5 true 104 hb153 (mv 15 (.bool r139.1)) ?_
        refine V 106 4 (p1 104 (.tmp 105) (.const (.bool false)) (.bool r139.1) hb153) ?_
        refine V 6 4 (ma 106 (.bool r139.1)) ?_
        exact RWP.nil ⟨rfl, F12, hs144, (Mem.le.refl _), e116, (congrArg Value.bool (and_t hb152 (and_t hb153 (rfl))))⟩
       ·refine Sk [105] 5 true 104 hb153 ?_
        refine V 106 4 (p0 104 (.tmp 105) (.const (.bool false)) (.bool false) hb153) ?_
        refine V 6 4 (ma 106 (.bool false)) ?_
        exact RWP.nil ⟨rfl, F12, hs144, (Mem.le.refl _), e116, (congrArg Value.bool (and_t hb152 (and_f hb153 (rfl))))⟩
      ·refine Sk [101, 102] 1 true 100 hb152 ?_
       refine V 103 4 (p0 100 (.tmp 102) (.const (.bool false)) (.bool false) hb152) ?_
       refine V 104 4 (mv 103 (.bool false)) ?_
       refine Sk [105] 5 true 104 rfl ?_
       refine V 106 4 (p0 104 (.tmp 105) (.const (.bool false)) (.bool false) rfl) ?_
       refine V 6 4 (ma 106 (.bool false)) ?_
       exact RWP.nil ⟨rfl, F12, hs144, (Mem.le.refl _), e116, (congrArg Value.bool (and_f hb152 (rfl)))⟩
     ·rintro f w147 ⟨F13, hs148, le149, e150, e151⟩
      refine thenQ_nrm ?_
      refine CWP.ret (by kernel_rfl) ?_
      have hfin := some_inj h141
      subst hfin
      exact ⟨e150, (.bool (r4 && ((r139.2 == 0) && r139.1))), res_of (l := [.tmp 6]) (by kernel_rfl) (vs := [(.bool (r4 && ((r139.2 == 0) && r139.1)))]) ⟨e151, trivial⟩, (.bool (r4 && ((r139.2 == 0) && r139.1))), F13, rfl, hs148.clear, rfl⟩
end Go.Proofs.YtlddakefmfcblaaGreatDoor
namespace Go.Proofs.YtlddakefmfcblaaGreatDoor
section
variable {N : Nat}
theorem around_holds (p : Parts) (a k : List UInt8) (hp : rS p.Area ∧ rS p.Prefix ∧ rS p.Suffix ∧ rS p.Stroke) (ha : rS a) (hk : rS k) (hN : 4294967300 < N) : law01_AirAround N p a k = some true := by
 unfold law01_AirAround
 rw [awake_true hN, Option.bind_some]
 obtain ⟨q1, q2, q3, q4⟩ := hp
 unfold rS at q1 q2 q3 q4 ha hk
 rw [W64_id (n := (p.Area.length : Int) + (p.Prefix.length : Int)) (by omega) (by omega), W64_id (n := (p.Area.length : Int) + (p.Prefix.length : Int) + (p.Suffix.length : Int)) (by omega) (by omega), W64_id (n := (p.Area.length : Int) + (p.Prefix.length : Int) + (p.Suffix.length : Int) + (p.Stroke.length : Int)) (by omega) (by omega), W64_id (n := (p.Area.length : Int) + (p.Prefix.length : Int) + (p.Suffix.length : Int) + (p.Stroke.length : Int) + (a.length : Int)) (by omega) (by omega), W64_id (by omega) (by omega)]
 by_cases hg : p.Area.length + p.Prefix.length + p.Suffix.length + p.Stroke.length + a.length + k.length ≤ 1000
 ·rw [decide_eq_false (by omega), cond_false]
  have h1 : shortP p := ⟨by omega, by omega, by omega, by omega⟩
  have h2 : shortP { Area := a, Prefix := p.Prefix, Suffix := p.Suffix, Stroke := k } := ⟨by simp only; omega, by simp only; omega, by simp only; omega, by simp only; omega⟩
  rw [s_Join _ h1 hN, s_Join _ h2 hN, Option.bind_some, Option.bind_some]
  have J : ∀ q : Parts, (joinS q = ([], 10)) ∨ ∃ t, joinS q = (joinT (triP q), 0) ∧ callB (joinT (triP q)) = some t ∧ partsOf t = q := by
   intro q
   unfold joinS
   cases hc : callB (joinT (triP q)) with
   | none => exact .inl rfl
   | some t =>
    by_cases hq : partsOf t = q
    ·exact .inr ⟨t, by simp [hq], rfl, hq⟩
    ·exact .inl (by simp [hq])
  rcases J p with e1 | ⟨t, e1, e1c, e1p⟩
  ·rcases J { Area := a, Prefix := p.Prefix, Suffix := p.Suffix, Stroke := k } with e2 | ⟨w, e2, e2c, e2p⟩
   ·rw [e1, e2]; rfl
   ·rw [e1, e2]
    simp only [beq_self_eq_true, cond_true]
    rw [s_Split _ hN, Option.bind_some]
    have : splitS (joinT (triP { Area := a, Prefix := p.Prefix, Suffix := p.Suffix, Stroke := k })) = ({ Area := a, Prefix := p.Prefix, Suffix := p.Suffix, Stroke := k }, 0) := by unfold splitS; rw [e2c]; simp only; rw [e2p]
    rw [this]
    simp
  ·rcases J { Area := a, Prefix := p.Prefix, Suffix := p.Suffix, Stroke := k } with e2 | ⟨w, e2, e2c, e2p⟩
   ·rw [e1, e2]; rfl
   ·rw [e1, e2]
    simp only [beq_self_eq_true, cond_true]
    rw [s_Split _ hN, Option.bind_some]
    have : splitS (joinT (triP { Area := a, Prefix := p.Prefix, Suffix := p.Suffix, Stroke := k })) = ({ Area := a, Prefix := p.Prefix, Suffix := p.Suffix, Stroke := k }, 0) := by unfold splitS; rw [e2c]; simp only; rw [e2p]
    rw [this, s_Same _ _ hN]
    have hb1 := ps_app t
    have hb2 := ps_app w
    rw [e1p] at hb1
    rw [e2p] at hb2
    have e3 : sameS (joinT (triP p)) (joinT (triP { Area := a, Prefix := p.Prefix, Suffix := p.Suffix, Stroke := k })) = (true, 0) := by
     unfold sameS
     rw [e1c, e2c]
     simp only
     rw [← hb1, ← hb2]
     simp
    rw [e3]
    simp
 ·rw [decide_eq_true (by omega), cond_true]
structure GoodP (p : List UInt8) : Prop where
 all : p.all isE = true
 letter : p.any isL = true
 last : lastD p = true
theorem GoodP.len {p : List UInt8} (h : GoodP p) : 2 ≤ p.length := by
 match p, h with
 | [], h => have := h.letter; cases this
 | [b], h =>
  have h1 := h.letter
  have h2 := h.last
  simp at h1
  have h3 : lastD [b] = isD b := rfl
  rw [h3, isLD h1] at h2; cases h2
 | _ :: _ :: _, _ => simp
end
theorem airAround_row (x0 : Parts) (x1 x2 : List UInt8) (q : qParts x0) (q1 : rS x1) (q2 : rS x2) : law01_AirAround 9223372036854775808 x0 x1 x2 = some true := around_holds x0 x1 x2 q q1 q2 (by omega)
end Go.Proofs.YtlddakefmfcblaaGreatDoor
namespace Go.Proofs.YtlddakefmfcblaaGreatDoor
open Go.ChangeShapes Go.WideShapes Go.ChangeAt Go.RowKit
set_option maxRecDepth 100000 in
theorem lifted_airAround (os : Os) (started : os.Started) (H : Type) (enc : TypeId × Value → H) :
  ReturnsInHanded {} Tryz.checked os 9 .any (fun w args => (Rows.airAroundSpec.pre enc Tryz.prog Tryz.f9 Rows.airAroundRow.domain false w args ∧ laidMetH Tryz.prog Rows.airAroundRow.laid w) ∧ sizedMet enc Tryz.prog Tryz.f9 (OpenSpec.ofChange Rows.airAroundSpec) false w args) (Rows.airAroundSpec.post enc Tryz.prog Tryz.f9 false true false false) := by
 refine handed_laid (C := Tryz.checked) (X := fun w _ => laidMetH Tryz.prog laid7 w) (fun _ _ _ hh h => h.of_heap hh) own_knob started (by kernel_rfl) Tryz.func9
  (ChangeSpec.witness_shaped (enc := enc) (C := Tryz.checked) (os := os) (X := fun w _ => laidMetH Tryz.prog laid7 w) false (World.laidAll Tryz.prog os laid7) #[.agg #[.string ByteArray.empty, .string ByteArray.empty, .string ByteArray.empty, .string ByteArray.empty], .string ByteArray.empty, .string ByteArray.empty] 8 (World.laidAll_os _ _ _)
   (World.shaped_of_ZipB (by kernel_rfl) (by kernel_rfl)) (by kernel_rfl) (by kernel_rfl) (by kernel_rfl) (door_met7 os _)) ?_
 intro W base args ds gs before hval0 hW hsz hL hsh
 have hval : ∀ (j : Nat) t v, Tryz.f9.params[j]? = some t → args[j]? = some v → Value.okWide Tryz.prog W .any base t v := hval0
 have hW' := hW
 obtain ⟨p, q, hA0, hV, rfl, hfz, hnd⟩ := hW
 have hA : DataW.TrodAll enc Tryz.prog W 0 (fun _ => true) true Tryz.f9.params.toList args.toList ds p := hA0
 rw [Tryz.params9] at hA hval
 obtain ⟨v0, vs0, d0, ds0, p0, q0, hargs, rfl, rfl, h0, r0⟩ := trodAll_cons hA
 obtain ⟨v1, vs1, d1, ds1, p1, q1, rfl, rfl, rfl, h1, r1⟩ := trodAll_cons r0
 obtain ⟨v2, vs2, d2, ds2, p2, q2, rfl, rfl, rfl, h2, r2⟩ := trodAll_cons r1
 obtain ⟨rfl, rfl, rfl⟩ := trodAll_nil r2
 obtain rfl : args = #[v0, v1, v2] := by cases args; simp_all
 have z0 : SzW Tryz.prog 27 d0 := SzW.each hsz (j := 0) (by kernel_rfl) rfl
 obtain ⟨cs0, x0, rfl, R0, Q0⟩ := Opens.agg opens_Parts_27 (by kernel_rfl) (hval 0 27 v0 rfl rfl) h0 z0
 have e0 := R0
 obtain rfl : cs0 = #[.string ⟨(x0.Area).toArray⟩, .string ⟨(x0.Prefix).toArray⟩, .string ⟨(x0.Suffix).toArray⟩, .string ⟨(x0.Stroke).toArray⟩] := Array.ext' (by exact e0)
 have z1 : SzW Tryz.prog 9 d1 := SzW.each hsz (j := 1) (by kernel_rfl) rfl
 obtain ⟨x1, R1, Q1⟩ := Opens.one (opens_str (t := 9) (by kernel_rfl) (by kernel_rfl) : Opens Tryz.prog 9 tStr rS) (by kernel_rfl) (hval 1 9 v1 rfl rfl) h1 z1
 have e1 : [v1] = [.string ⟨x1.toArray⟩] := R1
 cases e1
 have z2 : SzW Tryz.prog 9 d2 := SzW.each hsz (j := 2) (by kernel_rfl) rfl
 obtain ⟨x2, R2, Q2⟩ := Opens.one (opens_str (t := 9) (by kernel_rfl) (by kernel_rfl) : Opens Tryz.prog 9 tStr rS) (by kernel_rfl) (hval 2 9 v2 rfl rfl) h2 z2
 have e2 : [v2] = [.string ⟨x2.toArray⟩] := R2
 cases e2
 refine (c_law01_AirAround 9223372036854775808 W (memOf W) (fun _ _ h => h) (glob_of hL hsh) x0 x1 x2 true (airAround_row x0 x1 x2 Q0 Q1 Q2)).mono fun e W' he => ?_
 obtain ⟨r, F', rfl, hs, rfl⟩ := he
 refine ⟨_, rfl, post_grown (by kernel_rfl) (tb := 4) ?_ rfl hW' (by kernel_rfl) (by kernel_rfl) ?_ hs⟩
 ·intro t ht
  rw [Tryz.params9] at ht
  simp only [List.mem_cons, List.not_mem_nil, or_false] at ht
  rcases ht with rfl | rfl | rfl <;> exact ⟨by kernel_rfl, by decide +kernel⟩
 ·intro _; rfl
theorem airAround_row_holds : Rows.AirAroundSaid :=
 OpenClaim.holds_of_wide 9 Tryz.f9 rfl rfl rfl rfl rfl rfl rfl ⟨rfl, rfl, rfl, rfl, rfl⟩ rfl rfl rfl rfl rfl (by kernel_rfl) Tryz.func9 (by kernel_rfl)
  (of_decide_eq_true (by kernel_rfl)) (by unfold Func.isWrapper; first | (rw [if_pos (by decide +kernel)]; kernel_rfl) | (rw [if_neg (by decide +kernel)]; exact ⟨rfl, rfl⟩))
  (fun os started H enc _ => lifted_airAround os started H enc)
theorem airAround_proved : Rows.AirAroundCardSaid :=
 Claim7.holds_tied_plain_at .later [] [.data, .data, .data, .data, .sentinel, .sentinel, .pinned] true (true, "e13dca8d4619a64a69fa99222db8f18b16b74485258a6a257541940742401f67") true airAround_row_holds (fun _ h => by cases h) (by kernel_rfl) (fun _ h => by cases h) airAround_row_tie rfl ⟨rfl, rfl⟩ (by kernel_rfl) rfl
  (fun f fn hf hfn => by
   obtain rfl : f = 9 := Option.some.inj ((show Tryz.prog.funcNamed Tryz.f9.name = some 9 by kernel_rfl).symm.trans hf) |>.symm
   obtain rfl : fn = Tryz.f9 := (Option.some.inj (Tryz.func9.symm.trans hfn)).symm
   exact ⟨by kernel_rfl, fun j t ht => by
    rw [Tryz.params9] at ht
    have hm : t ∈ [27, 9, 9] := by simpa using Array.mem_of_getElem? ht
    have hall : ([27, 9, 9].all fun u => !Tryz.prog.wantsStandIn u) = true := by kernel_rfl
    exact (show Tryz.prog.wantsStandIn t = false by simpa using List.all_eq_true.1 hall t hm)⟩)
  (by kernel_rfl)
end Go.Proofs.YtlddakefmfcblaaGreatDoor
