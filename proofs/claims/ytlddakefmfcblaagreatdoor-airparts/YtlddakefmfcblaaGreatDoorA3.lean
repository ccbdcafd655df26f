/- AirParts: for every input the law returns true, and each argument reads afterwards as it read before. No condition. -/
import Derived.Test.YtlddakefmfcblaaGreatDoorA2
set_option linter.unusedVariables false
set_option linter.unusedSimpArgs false
set_option linter.unusedSectionVars false
namespace Go.Proofs.YtlddakefmfcblaaGreatDoor
open Go.Proofs
def air_ValidBands_L0 (N : Nat) (x0 : (List Band)) : Int → Option (Flow Bool Int) := fun s4 =>
 (bif (decide (s4 < (x0.length : Int))) then ((idx x0 s4).bind fun x27 => (((air_within N x27.ID 1 65535).bind fun r60 => (bif (!r60) then some true else ((air_within N x27.Lo 1 x27.Hi).bind fun r72 => (bif (!r72) then some true else (bif (decide (x27.Hi > 10000000)) then some true else (bif (decide (s4 > 0)) then ((idx x0 (W64 (s4 - 1))).bind fun x90 => (bif (decide (x27.ID ≤ x90.ID)) then some true else ((idx x0 (W64 (s4 - 1))).bind fun x100 => some (decide (x27.Lo ≤ x100.Hi))))) else some false)))))).bind fun j51 => (bif j51 then some (.ret false) else some (.next (W64 (s4 + 1)))))) else some (.done s4))
def air_ValidBands (N : Nat) (x0 : (List Band)) : Option Bool :=
 ((iter (air_ValidBands_L0 N x0) N 0).bind fun o => o.k (fun r => some r) (fun s13 => some (decide ((x0.length : Int) ≤ 16))))
theorem co_air_ValidBands : CallOk Tryz.prog 26 := fun _ _ => by kernel_rfl
set_option maxHeartbeats 4000000 in
set_option maxRecDepth 100000 in
theorem c_air_ValidBands (N : Nat) (w0 : World) (F0 : Mem) (hF : ∀ b o, F0 b = some o → w0.heap[b]? = some o) (x0 : (List Band)) (a0_0 : Option Addr) (n0_0 : Nat) (hb0_0 : LC x0.length n0_0) (hs0_0 : SlA tBand F0 a0_0 x0) (r : Bool) (h : air_ValidBands N x0 = some r) :
  Calls Tryz.prog 26 ([(.slice a0_0 x0.length n0_0)] : List Value).toArray w0 (FRet w0 F0 fun F' v => v = (.bool r)) := by
 have hs0 := HS.start hF
 refine calls_of (n := 59) (c := bodyOf Tryz.f26) Tryz.func26 (by kernel_rfl) (by kernel_rfl) (by kernel_rfl) ?_
 refine Sq (Rg [0] ?_)
 refine V 2 4 (mc (.bool false) (.bool false)) ?_
 refine Nss ?_
 refine Sq (Rg [0, 1, 2] ?_)
 refine V 5 32 (mv 0 (.slice a0_0 x0.length n0_0)) ?_
 refine V 6 3 (ln 5 32 a0_0 x0.length n0_0 40 3 24) ?_
 refine V 7 3 (run_move (x := (.const (vi 0))) (v := (vi 0)) rfl) ?_
 refine Nt ?_
 obtain ⟨o1, ho2, h3⟩ := bind_some h
 refine CWP.cut (fun f w => ∃ (s13 : Int) (F2 : Mem), o1 = .done s13 ∧ HS w0 F0 w F2 [] ∧ Mem.le F0 F2 ∧ f.d = [] ∧ f 0 = (.slice a0_0 x0.length n0_0)) ?_ ?_
 ·refine Bk ?_
  refine CWP.loop (by kernel_rfl) (fun m f w => ∃ (s4 : Int) (F1 : Mem), iter (air_ValidBands_L0 N x0) m s4 = some o1 ∧ HS w0 F0 w F1 [] ∧ Mem.le F0 F1 ∧ f.d = [] ∧ f 0 = (.slice a0_0 x0.length n0_0) ∧ f 5 = (.slice a0_0 x0.length n0_0) ∧ f 6 = (vi (x0.length : Int)) ∧ f 7 = (vi s4)) N ⟨0, F0, ho2, hs0, (Mem.le.refl _), rfl, rfl, rfl, rfl, rfl⟩ ?_
  rintro m19 f w5 ⟨s4, F1, hit20, hs6, le7, e8, e9, e10, e11, e12⟩
  obtain ⟨m21, fl22, rfl, hb23, hnx24⟩ := iter_step hit20
  refine Sq (Rg [0] ?_)
  refine V 8 0 (run_lss (t := 3) (t' := 3) (x := (.tmp 7)) (y := (.tmp 6)) (k := .i64) (a := s4) (b := (x0.length : Int)) e12 e11) ?_
  refine Nss ?_
  refine CWP.cond (t := (decide (s4 < (x0.length : Int)))) (by kernel_rfl) rfl (fun hb25 => ?_) (fun hb25 => ?_)
  ·have h26 := cond_t hb23 hb25
   refine Sc ?_
   refine thenQ_nrm ?_
   refine Sq ?_
   refine Bk ?_
   refine Sq (Rg [0, 1, 2, 3, 4, 5] ?_)
   refine V 9 3 (mv 7 (vi s4) e12) ?_
   obtain ⟨x27, hx28, h30⟩ := bind_some h26
   obtain ⟨hi29, hx28'⟩ := idx_spec hx28
   obtain ⟨b31, o32, C33, E34, fz35, rfl, hF37, hE38⟩ := SlA.open (SlA.mono hs0_0 le7) hx28'
   have hc40 := hE38 _ _ hx28'
   refine V 10 0 (run_index (t := 32) (x := (.tmp 5)) (y := (.tmp 7)) (b := b31) (o := o32) (E := 40) (s := 3) (by_ := 24) e10 e12 (by kernel_rfl) hi29) ?_
   refine V 11 40 (lx 40 10 0 3 true 3 (.agg (kBand x27)) (hs6.pers _ _ hF37) hc40) ?_
   refine Al 4 0 40 #[(vi 0), (vi 0), (vi 0)] hs6 (fun b41 w42 (hs43 : HS w0 F0 w42 F1 [(sb b41 #[(vi 0), (vi 0), (vi 0)] 40)]) => ?_)
   refine V 3 3 (ma 9 (vi s4)) ?_
   refine RWP.store (ty := 0) (g := none) (by kernel_rfl) rfl (x := (.tmp 4)) (y := (.tmp 11)) (t := 40) (gg := true) (s := 3) (v := (.agg (kBand x27))) (b := b41) (o := 0) (C := #[(vi 0), (vi 0), (vi 0)]) rfl rfl (by kernel_rfl) hs43 (k := 0) rfl rfl rfl rfl (C' := (kBand x27)) rfl (fun w44 (hs45 : HS w0 F0 w44 F1 [(sb b41 (kBand x27) 40)]) => ?_)
   refine Nss ?_
   obtain ⟨j51, hj58, h59⟩ := bind_some h30
   refine CWP.regionD (by kernel_rfl) (by kernel_rfl) (by kernel_rfl) (by kernel_rfl) (z := 43) (F := F1) (Lc := [(sb b41 (kBand x27) 40)]) (Lz := []) (l := [false, false, false, false, false, false, false, false, false, false, false, false, false, false, false, false, false, false, false, false, false, false, false, false, false, false, false, false, false, false, false, false, false, false, false, false, false, false, false, false, false, false, false]) (fuel := 43) (by kernel_rfl) (by kernel_rfl) hs45 (by simp) (by simp) (fun f w => ∃ (F3 : Mem), HS w0 F0 w F3 [] ∧ Mem.le F1 F3 ∧ f.d = [] ∧ f 0 = (.slice (some ⟨b31, o32, none⟩) x0.length n0_0) ∧ f 5 = (.slice (some ⟨b31, o32, none⟩) x0.length n0_0) ∧ f 6 = (vi (x0.length : Int)) ∧ f 7 = (vi s4) ∧ f 54 = (.bool j51)) (fun wd46 hw47 => ?_) ?_
   ·refine Dtl 0 12 0 (.pointer (some ⟨b41, 0, none⟩)) [tt, ff, ff, ff, ff, ff, ff, ff, ff, ff, ff, ff, ff, ff, ff, ff, ff, ff, ff, ff, ff, ff, ff, ff, ff, ff, ff, ff, ff, ff, ff, ff, ff, ff, ff, ff, ff, ff, ff, ff, ff, ff, ff] (fun _ hq => fa 40 4 0 0 1 b41 0 0) ?_
    refine Dtl 1 13 3 _ [tt, tt, ff, ff, ff, ff, ff, ff, ff, ff, ff, ff, ff, ff, ff, ff, ff, ff, ff, ff, ff, ff, ff, ff, ff, ff, ff, ff, ff, ff, ff, ff, ff, ff, ff, ff, ff, ff, ff, ff, ff, ff, ff] (fun _ hq => ld 3 12 b41 0 false 1 (vi x27.ID) (hq.1.2 0 _ _ rfl)) ?_
    refine DWP.one (i := 2) (by kernel_rfl) ?_
    obtain ⟨r60, hr61, h62⟩ := bind_some hj58
    refine DStep.call (l' := [true, true, true, false, false, false, false, false, false, false, false, false, false, false, false, false, false, false, false, false, false, false, false, false, false, false, false, false, false, false, false, false, false, false, false, false, false, false, false, false, false, false, false]) (zd := true) (by kernel_rfl) (by kernel_rfl) (by kernel_rfl) (dst := (some 14)) (ty := 4) (g := none) (by kernel_rfl) rfl (f0 := (.func 73)) (aos := #[(.tmp 13), (.const (vi 1)), (.const (vi 65535))]) (ats := #[3, 3, 3]) (fid := 73) (first := #[]) (cap := #[]) (args := [(vi x27.ID), (vi 1), (vi 65535)]) rfl co_air_within (rfl) hw47 (c_air_within N wd46 F1 hw47.pers (x27.ID) (1) (65535) _ hr61) ?_
    intro v63 F4 w64 hs65 le66 hp67
    obtain rfl := hp67
    refine Dtl 3 15 4 (.bool (!r60)) [tt, tt, tt, tt, ff, ff, ff, ff, ff, ff, ff, ff, ff, ff, ff, ff, ff, ff, ff, ff, ff, ff, ff, ff, ff, ff, ff, ff, ff, ff, ff, ff, ff, ff, ff, ff, ff, ff, ff, ff, ff, ff, ff] (fun _ hq => run_not (t := 4) (x := (.tmp 14)) (a := r60) rfl) ?_
    refine Dtl 4 16 4 _ [tt, tt, tt, tt, tt, ff, ff, ff, ff, ff, ff, ff, ff, ff, ff, ff, ff, ff, ff, ff, ff, ff, ff, ff, ff, ff, ff, ff, ff, ff, ff, ff, ff, ff, ff, ff, ff, ff, ff, ff, ff, ff, ff] (fun _ hq => mv 15 (.bool (!r60))) ?_
    refine DWP.split (!r60) (fun hb68 => ?_) (fun hb68 => ?_)
    ·have h69 := cond_t h62 hb68
     refine Dkl [(5, 17), (6, 18), (7, 19), (8, 20), (9, 21), (10, 22)] 4 false 16 hb68 [tt, tt, tt, tt, tt, tt, tt, tt, tt, tt, tt, ff, ff, ff, ff, ff, ff, ff, ff, ff, ff, ff, ff, ff, ff, ff, ff, ff, ff, ff, ff, ff, ff, ff, ff, ff, ff, ff, ff, ff, ff, ff, ff] ?_
     refine Dtl 11 23 4 _ [tt, tt, tt, tt, tt, tt, tt, tt, tt, tt, tt, tt, ff, ff, ff, ff, ff, ff, ff, ff, ff, ff, ff, ff, ff, ff, ff, ff, ff, ff, ff, ff, ff, ff, ff, ff, ff, ff, ff, ff, ff, ff, ff] (fun _ hq => p1 16 (.const (.bool true)) (.tmp 22) (.bool true) hb68) ?_
     refine Dtl 12 24 4 _ [tt, tt, tt, tt, tt, tt, tt, tt, tt, tt, tt, tt, tt, ff, ff, ff, ff, ff, ff, ff, ff, ff, ff, ff, ff, ff, ff, ff, ff, ff, ff, ff, ff, ff, ff, ff, ff, ff, ff, ff, ff, ff, ff] (fun _ hq => mv 23 (.bool true)) ?_
     refine Dkl [(13, 25), (14, 26), (15, 27)] 12 false 24 rfl [tt, tt, tt, tt, tt, tt, tt, tt, tt, tt, tt, tt, tt, tt, tt, tt, ff, ff, ff, ff, ff, ff, ff, ff, ff, ff, ff, ff, ff, ff, ff, ff, ff, ff, ff, ff, ff, ff, ff, ff, ff, ff, ff] ?_
     refine Dtl 16 28 4 _ [tt, tt, tt, tt, tt, tt, tt, tt, tt, tt, tt, tt, tt, tt, tt, tt, tt, ff, ff, ff, ff, ff, ff, ff, ff, ff, ff, ff, ff, ff, ff, ff, ff, ff, ff, ff, ff, ff, ff, ff, ff, ff, ff] (fun _ hq => p1 24 (.const (.bool true)) (.tmp 27) (.bool true) rfl) ?_
     refine Dtl 17 29 4 _ [tt, tt, tt, tt, tt, tt, tt, tt, tt, tt, tt, tt, tt, tt, tt, tt, tt, tt, ff, ff, ff, ff, ff, ff, ff, ff, ff, ff, ff, ff, ff, ff, ff, ff, ff, ff, ff, ff, ff, ff, ff, ff, ff] (fun _ hq => mv 28 (.bool true)) ?_
     refine Dkl [(18, 30), (19, 31), (20, 32)] 17 false 29 rfl [tt, tt, tt, tt, tt, tt, tt, tt, tt, tt, tt, tt, tt, tt, tt, tt, tt, tt, tt, tt, tt, ff, ff, ff, ff, ff, ff, ff, ff, ff, ff, ff, ff, ff, ff, ff, ff, ff, ff, ff, ff, ff, ff] ?_
     refine Dul [(21, 33), (22, 34), (23, 35), (24, 36), (25, 37), (26, 38)] 20 true 32 [tt, tt, tt, tt, tt, tt, tt, tt, tt, tt, tt, tt, tt, tt, tt, tt, tt, tt, tt, tt, tt, tt, tt, tt, tt, tt, tt, ff, ff, ff, ff, ff, ff, ff, ff, ff, ff, ff, ff, ff, ff, ff, ff] ?_
     refine Dul [(27, 39), (28, 40), (29, 41), (30, 42)] 20 true 32 [tt, tt, tt, tt, tt, tt, tt, tt, tt, tt, tt, tt, tt, tt, tt, tt, tt, tt, tt, tt, tt, tt, tt, tt, tt, tt, tt, tt, tt, tt, tt, ff, ff, ff, ff, ff, ff, ff, ff, ff, ff, ff, ff] ?_
     refine Dul [(31, 43), (32, 44), (33, 45), (34, 46), (35, 47), (36, 48)] 30 false 42 [tt, tt, tt, tt, tt, tt, tt, tt, tt, tt, tt, tt, tt, tt, tt, tt, tt, tt, tt, tt, tt, tt, tt, tt, tt, tt, tt, tt, tt, tt, tt, tt, tt, tt, tt, tt, tt, ff, ff, ff, ff, ff, ff] ?_
     refine Dul [(37, 49), (38, 50), (39, 51)] 30 false 42 [tt, tt, tt, tt, tt, tt, tt, tt, tt, tt, tt, tt, tt, tt, tt, tt, tt, tt, tt, tt, tt, tt, tt, tt, tt, tt, tt, tt, tt, tt, tt, tt, tt, tt, tt, tt, tt, tt, tt, tt, ff, ff, ff] ?_
     refine Dul [(40, 52)] 20 true 32 [tt, tt, tt, tt, tt, tt, tt, tt, tt, tt, tt, tt, tt, tt, tt, tt, tt, tt, tt, tt, tt, tt, tt, tt, tt, tt, tt, tt, tt, tt, tt, tt, tt, tt, tt, tt, tt, tt, tt, tt, tt, ff, ff] ?_
     refine Dkl [(41, 53)] 17 false 29 rfl [tt, tt, tt, tt, tt, tt, tt, tt, tt, tt, tt, tt, tt, tt, tt, tt, tt, tt, tt, tt, tt, tt, tt, tt, tt, tt, tt, tt, tt, tt, tt, tt, tt, tt, tt, tt, tt, tt, tt, tt, tt, tt, ff] ?_
     refine Dtl 42 54 4 _ [tt, tt, tt, tt, tt, tt, tt, tt, tt, tt, tt, tt, tt, tt, tt, tt, tt, tt, tt, tt, tt, tt, tt, tt, tt, tt, tt, tt, tt, tt, tt, tt, tt, tt, tt, tt, tt, tt, tt, tt, tt, tt, tt] (fun _ hq => p1 29 (.const (.bool true)) (.tmp 53) (.bool true) rfl) ?_
     obtain rfl := some_inj h69
     have hs70 : HS w0 F0 w64 F4 [] := hs65.drop 0
     exact DWP.done (by kernel_rfl) ⟨F4, hs70, le66, e8, e9, e10, e11, e12, rfl⟩
    ·have h71 := cond_f h62 hb68
     refine Dgl 5 17 0 (.pointer (some ⟨b41, 1, none⟩)) [tt, tt, tt, tt, tt, tt, ff, ff, ff, ff, ff, ff, ff, ff, ff, ff, ff, ff, ff, ff, ff, ff, ff, ff, ff, ff, ff, ff, ff, ff, ff, ff, ff, ff, ff, ff, ff, ff, ff, ff, ff, ff, ff] 4 false 16 hb68 (fun _ hq => fa 40 4 1 1 1 b41 0 1) ?_
     refine Dgl 6 18 3 _ [tt, tt, tt, tt, tt, tt, tt, ff, ff, ff, ff, ff, ff, ff, ff, ff, ff, ff, ff, ff, ff, ff, ff, ff, ff, ff, ff, ff, ff, ff, ff, ff, ff, ff, ff, ff, ff, ff, ff, ff, ff, ff, ff] 4 false 16 hb68 (fun _ hq => ld 3 17 b41 1 false 1 (vi x27.Lo) (hq.1.2 0 _ _ rfl)) ?_
     refine Dgl 7 19 0 (.pointer (some ⟨b41, 2, none⟩)) [tt, tt, tt, tt, tt, tt, tt, tt, ff, ff, ff, ff, ff, ff, ff, ff, ff, ff, ff, ff, ff, ff, ff, ff, ff, ff, ff, ff, ff, ff, ff, ff, ff, ff, ff, ff, ff, ff, ff, ff, ff, ff, ff] 4 false 16 hb68 (fun _ hq => fa 40 4 2 2 1 b41 0 2) ?_
     refine Dgl 8 20 3 _ [tt, tt, tt, tt, tt, tt, tt, tt, tt, ff, ff, ff, ff, ff, ff, ff, ff, ff, ff, ff, ff, ff, ff, ff, ff, ff, ff, ff, ff, ff, ff, ff, ff, ff, ff, ff, ff, ff, ff, ff, ff, ff, ff] 4 false 16 hb68 (fun _ hq => ld 3 19 b41 2 false 1 (vi x27.Hi) (hq.1.2 0 _ _ rfl)) ?_
     refine DWP.one (i := 9) (by kernel_rfl) ?_
     obtain ⟨r72, hr73, h74⟩ := bind_some h71
     refine DStep.call (l' := [true, true, true, true, true, true, true, true, true, true, false, false, false, false, false, false, false, false, false, false, false, false, false, false, false, false, false, false, false, false, false, false, false, false, false, false, false, false, false, false, false, false, false]) (zd := true) (by kernel_rfl) (by kernel_rfl) (by kernel_rfl) (dst := (some 21)) (ty := 4) (g := (some (4, false))) (by kernel_rfl) (gd_y (d := 16) (by kernel_rfl) rfl hb68) (f0 := (.func 73)) (aos := #[(.tmp 18), (.const (vi 1)), (.tmp 20)]) (ats := #[3, 3, 3]) (fid := 73) (first := #[]) (cap := #[]) (args := [(vi x27.Lo), (vi 1), (vi x27.Hi)]) rfl co_air_within (rfl) hs65 (c_air_within N w64 F4 hs65.pers (x27.Lo) (1) (x27.Hi) _ hr73) ?_
     intro v75 F5 w76 hs77 le78 hp79
     obtain rfl := hp79
     refine Dgl 10 22 4 (.bool (!r72)) [tt, tt, tt, tt, tt, tt, tt, tt, tt, tt, tt, ff, ff, ff, ff, ff, ff, ff, ff, ff, ff, ff, ff, ff, ff, ff, ff, ff, ff, ff, ff, ff, ff, ff, ff, ff, ff, ff, ff, ff, ff, ff, ff] 4 false 16 hb68 (fun _ hq => run_not (t := 4) (x := (.tmp 21)) (a := r72) rfl) ?_
     refine Dtl 11 23 4 _ [tt, tt, tt, tt, tt, tt, tt, tt, tt, tt, tt, tt, ff, ff, ff, ff, ff, ff, ff, ff, ff, ff, ff, ff, ff, ff, ff, ff, ff, ff, ff, ff, ff, ff, ff, ff, ff, ff, ff, ff, ff, ff, ff] (fun _ hq => p0 16 (.const (.bool true)) (.tmp 22) (.bool (!r72)) hb68) ?_
     refine Dtl 12 24 4 _ [tt, tt, tt, tt, tt, tt, tt, tt, tt, tt, tt, tt, tt, ff, ff, ff, ff, ff, ff, ff, ff, ff, ff, ff, ff, ff, ff, ff, ff, ff, ff, ff, ff, ff, ff, ff, ff, ff, ff, ff, ff, ff, ff] (fun _ hq => mv 23 (.bool (!r72))) ?_
     refine DWP.split (!r72) (fun hb80 => ?_) (fun hb80 => ?_)
     ·have h81 := cond_t h74 hb80
      refine Dkl [(13, 25), (14, 26), (15, 27)] 12 false 24 hb80 [tt, tt, tt, tt, tt, tt, tt, tt, tt, tt, tt, tt, tt, tt, tt, tt, ff, ff, ff, ff, ff, ff, ff, ff, ff, ff, ff, ff, ff, ff, ff, ff, ff, ff, ff, ff, ff, ff, ff, ff, ff, ff, ff] ?_
      refine Dtl 16 28 4 _ [tt, tt, tt, tt, tt, tt, tt, tt, tt, tt, tt, tt, tt, tt, tt, tt, tt, ff, ff, ff, ff, ff, ff, ff, ff, ff, ff, ff, ff, ff, ff, ff, ff, ff, ff, ff, ff, ff, ff, ff, ff, ff, ff] (fun _ hq => p1 24 (.const (.bool true)) (.tmp 27) (.bool true) hb80) ?_
      refine Dtl 17 29 4 _ [tt, tt, tt, tt, tt, tt, tt, tt, tt, tt, tt, tt, tt, tt, tt, tt, tt, tt, ff, ff, ff, ff, ff, ff, ff, ff, ff, ff, ff, ff, ff, ff, ff, ff, ff, ff, ff, ff, ff, ff, ff, ff, ff] (fun _ hq => mv 28 (.bool true)) ?_
      refine Dkl [(18, 30), (19, 31), (20, 32)] 17 false 29 rfl [tt, tt, tt, tt, tt, tt, tt, tt, tt, tt, tt, tt, tt, tt, tt, tt, tt, tt, tt, tt, tt, ff, ff, ff, ff, ff, ff, ff, ff, ff, ff, ff, ff, ff, ff, ff, ff, ff, ff, ff, ff, ff, ff] ?_
      refine Dul [(21, 33), (22, 34), (23, 35), (24, 36), (25, 37), (26, 38)] 20 true 32 [tt, tt, tt, tt, tt, tt, tt, tt, tt, tt, tt, tt, tt, tt, tt, tt, tt, tt, tt, tt, tt, tt, tt, tt, tt, tt, tt, ff, ff, ff, ff, ff, ff, ff, ff, ff, ff, ff, ff, ff, ff, ff, ff] ?_
      refine Dul [(27, 39), (28, 40), (29, 41), (30, 42)] 20 true 32 [tt, tt, tt, tt, tt, tt, tt, tt, tt, tt, tt, tt, tt, tt, tt, tt, tt, tt, tt, tt, tt, tt, tt, tt, tt, tt, tt, tt, tt, tt, tt, ff, ff, ff, ff, ff, ff, ff, ff, ff, ff, ff, ff] ?_
      refine Dul [(31, 43), (32, 44), (33, 45), (34, 46), (35, 47), (36, 48)] 30 false 42 [tt, tt, tt, tt, tt, tt, tt, tt, tt, tt, tt, tt, tt, tt, tt, tt, tt, tt, tt, tt, tt, tt, tt, tt, tt, tt, tt, tt, tt, tt, tt, tt, tt, tt, tt, tt, tt, ff, ff, ff, ff, ff, ff] ?_
      refine Dul [(37, 49), (38, 50), (39, 51)] 30 false 42 [tt, tt, tt, tt, tt, tt, tt, tt, tt, tt, tt, tt, tt, tt, tt, tt, tt, tt, tt, tt, tt, tt, tt, tt, tt, tt, tt, tt, tt, tt, tt, tt, tt, tt, tt, tt, tt, tt, tt, tt, ff, ff, ff] ?_
      refine Dul [(40, 52)] 20 true 32 [tt, tt, tt, tt, tt, tt, tt, tt, tt, tt, tt, tt, tt, tt, tt, tt, tt, tt, tt, tt, tt, tt, tt, tt, tt, tt, tt, tt, tt, tt, tt, tt, tt, tt, tt, tt, tt, tt, tt, tt, tt, ff, ff] ?_
      refine Dkl [(41, 53)] 17 false 29 rfl [tt, tt, tt, tt, tt, tt, tt, tt, tt, tt, tt, tt, tt, tt, tt, tt, tt, tt, tt, tt, tt, tt, tt, tt, tt, tt, tt, tt, tt, tt, tt, tt, tt, tt, tt, tt, tt, tt, tt, tt, tt, tt, ff] ?_
      refine Dtl 42 54 4 _ [tt, tt, tt, tt, tt, tt, tt, tt, tt, tt, tt, tt, tt, tt, tt, tt, tt, tt, tt, tt, tt, tt, tt, tt, tt, tt, tt, tt, tt, tt, tt, tt, tt, tt, tt, tt, tt, tt, tt, tt, tt, tt, tt] (fun _ hq => p1 29 (.const (.bool true)) (.tmp 53) (.bool true) rfl) ?_
      obtain rfl := some_inj h81
      have hs82 : HS w0 F0 w76 F5 [] := hs77.drop 0
      exact DWP.done (by kernel_rfl) ⟨F5, hs82, (le66.trans le78), e8, e9, e10, e11, e12, rfl⟩
     ·have h83 := cond_f h74 hb80
      refine Dgl 13 25 0 (.pointer (some ⟨b41, 2, none⟩)) [tt, tt, tt, tt, tt, tt, tt, tt, tt, tt, tt, tt, tt, tt, ff, ff, ff, ff, ff, ff, ff, ff, ff, ff, ff, ff, ff, ff, ff, ff, ff, ff, ff, ff, ff, ff, ff, ff, ff, ff, ff, ff, ff] 12 false 24 hb80 (fun _ hq => fa 40 4 2 2 1 b41 0 2) ?_
      refine Dgl 14 26 3 _ [tt, tt, tt, tt, tt, tt, tt, tt, tt, tt, tt, tt, tt, tt, tt, ff, ff, ff, ff, ff, ff, ff, ff, ff, ff, ff, ff, ff, ff, ff, ff, ff, ff, ff, ff, ff, ff, ff, ff, ff, ff, ff, ff] 12 false 24 hb80 (fun _ hq => ld 3 25 b41 2 false 1 (vi x27.Hi) (hq.1.2 0 _ _ rfl)) ?_
      refine Dgl 15 27 4 (.bool (decide (x27.Hi > 10000000))) [tt, tt, tt, tt, tt, tt, tt, tt, tt, tt, tt, tt, tt, tt, tt, tt, ff, ff, ff, ff, ff, ff, ff, ff, ff, ff, ff, ff, ff, ff, ff, ff, ff, ff, ff, ff, ff, ff, ff, ff, ff, ff, ff] 12 false 24 hb80 (fun _ hq => run_gtr (t := 3) (t' := 3) (x := (.tmp 26)) (y := (.const (vi 10000000))) (k := .i64) (a := x27.Hi) (b := 10000000) rfl rfl) ?_
      refine Dtl 16 28 4 _ [tt, tt, tt, tt, tt, tt, tt, tt, tt, tt, tt, tt, tt, tt, tt, tt, tt, ff, ff, ff, ff, ff, ff, ff, ff, ff, ff, ff, ff, ff, ff, ff, ff, ff, ff, ff, ff, ff, ff, ff, ff, ff, ff] (fun _ hq => p0 24 (.const (.bool true)) (.tmp 27) (.bool (decide (x27.Hi > 10000000))) hb80) ?_
      refine Dtl 17 29 4 _ [tt, tt, tt, tt, tt, tt, tt, tt, tt, tt, tt, tt, tt, tt, tt, tt, tt, tt, ff, ff, ff, ff, ff, ff, ff, ff, ff, ff, ff, ff, ff, ff, ff, ff, ff, ff, ff, ff, ff, ff, ff, ff, ff] (fun _ hq => mv 28 (.bool (decide (x27.Hi > 10000000)))) ?_
      refine DWP.split (decide (x27.Hi > 10000000)) (fun hb84 => ?_) (fun hb84 => ?_)
      ·have h85 := cond_t h83 hb84
       refine Dkl [(18, 30), (19, 31), (20, 32)] 17 false 29 hb84 [tt, tt, tt, tt, tt, tt, tt, tt, tt, tt, tt, tt, tt, tt, tt, tt, tt, tt, tt, tt, tt, ff, ff, ff, ff, ff, ff, ff, ff, ff, ff, ff, ff, ff, ff, ff, ff, ff, ff, ff, ff, ff, ff] ?_
       refine Dul [(21, 33), (22, 34), (23, 35), (24, 36), (25, 37), (26, 38)] 20 true 32 [tt, tt, tt, tt, tt, tt, tt, tt, tt, tt, tt, tt, tt, tt, tt, tt, tt, tt, tt, tt, tt, tt, tt, tt, tt, tt, tt, ff, ff, ff, ff, ff, ff, ff, ff, ff, ff, ff, ff, ff, ff, ff, ff] ?_
       refine Dul [(27, 39), (28, 40), (29, 41), (30, 42)] 20 true 32 [tt, tt, tt, tt, tt, tt, tt, tt, tt, tt, tt, tt, tt, tt, tt, tt, tt, tt, tt, tt, tt, tt, tt, tt, tt, tt, tt, tt, tt, tt, tt, ff, ff, ff, ff, ff, ff, ff, ff, ff, ff, ff, ff] ?_
       refine Dul [(31, 43), (32, 44), (33, 45), (34, 46), (35, 47), (36, 48)] 30 false 42 [tt, tt, tt, tt, tt, tt, tt, tt, tt, tt, tt, tt, tt, tt, tt, tt, tt, tt, tt, tt, tt, tt, tt, tt, tt, tt, tt, tt, tt, tt, tt, tt, tt, tt, tt, tt, tt, ff, ff, ff, ff, ff, ff] ?_
       refine Dul [(37, 49), (38, 50), (39, 51)] 30 false 42 [tt, tt, tt, tt, tt, tt, tt, tt, tt, tt, tt, tt, tt, tt, tt, tt, tt, tt, tt, tt, tt, tt, tt, tt, tt, tt, tt, tt, tt, tt, tt, tt, tt, tt, tt, tt, tt, tt, tt, tt, ff, ff, ff] ?_
       refine Dul [(40, 52)] 20 true 32 [tt, tt, tt, tt, tt, tt, tt, tt, tt, tt, tt, tt, tt, tt, tt, tt, tt, tt, tt, tt, tt, tt, tt, tt, tt, tt, tt, tt, tt, tt, tt, tt, tt, tt, tt, tt, tt, tt, tt, tt, tt, ff, ff] ?_
       refine Dkl [(41, 53)] 17 false 29 hb84 [tt, tt, tt, tt, tt, tt, tt, tt, tt, tt, tt, tt, tt, tt, tt, tt, tt, tt, tt, tt, tt, tt, tt, tt, tt, tt, tt, tt, tt, tt, tt, tt, tt, tt, tt, tt, tt, tt, tt, tt, tt, tt, ff] ?_
       refine Dtl 42 54 4 _ [tt, tt, tt, tt, tt, tt, tt, tt, tt, tt, tt, tt, tt, tt, tt, tt, tt, tt, tt, tt, tt, tt, tt, tt, tt, tt, tt, tt, tt, tt, tt, tt, tt, tt, tt, tt, tt, tt, tt, tt, tt, tt, tt] (fun _ hq => p1 29 (.const (.bool true)) (.tmp 53) (.bool true) hb84) ?_
       obtain rfl := some_inj h85
       have hs86 : HS w0 F0 w76 F5 [] := hs77.drop 0
       exact DWP.done (by kernel_rfl) ⟨F5, hs86, (le66.trans le78), e8, e9, e10, e11, e12, rfl⟩
      ·have h87 := cond_f h83 hb84
       refine Dgl 18 30 3 _ [tt, tt, tt, tt, tt, tt, tt, tt, tt, tt, tt, tt, tt, tt, tt, tt, tt, tt, tt, ff, ff, ff, ff, ff, ff, ff, ff, ff, ff, ff, ff, ff, ff, ff, ff, ff, ff, ff, ff, ff, ff, ff, ff] 17 false 29 hb84 (fun _ hq => mv 3 (vi s4)) ?_
       refine Dgl 19 31 4 (.bool (decide (s4 > 0))) [tt, tt, tt, tt, tt, tt, tt, tt, tt, tt, tt, tt, tt, tt, tt, tt, tt, tt, tt, tt, ff, ff, ff, ff, ff, ff, ff, ff, ff, ff, ff, ff, ff, ff, ff, ff, ff, ff, ff, ff, ff, ff, ff] 17 false 29 hb84 (fun _ hq => run_gtr (t := 3) (t' := 3) (x := (.tmp 30)) (y := (.const (vi 0))) (k := .i64) (a := s4) (b := 0) rfl rfl) ?_
       refine Dgl 20 32 4 _ [tt, tt, tt, tt, tt, tt, tt, tt, tt, tt, tt, tt, tt, tt, tt, tt, tt, tt, tt, tt, tt, ff, ff, ff, ff, ff, ff, ff, ff, ff, ff, ff, ff, ff, ff, ff, ff, ff, ff, ff, ff, ff, ff] 17 false 29 hb84 (fun _ hq => mv 31 (.bool (decide (s4 > 0)))) ?_
       refine DWP.split (decide (s4 > 0)) (fun hb88 => ?_) (fun hb88 => ?_)
       ·have h89 := cond_t h87 hb88
        refine Dgl 21 33 0 (.pointer (some ⟨b41, 0, none⟩)) [tt, tt, tt, tt, tt, tt, tt, tt, tt, tt, tt, tt, tt, tt, tt, tt, tt, tt, tt, tt, tt, tt, ff, ff, ff, ff, ff, ff, ff, ff, ff, ff, ff, ff, ff, ff, ff, ff, ff, ff, ff, ff, ff] 20 true 32 hb88 (fun _ hq => fa 40 4 0 0 1 b41 0 0) ?_
        refine Dgl 22 34 3 _ [tt, tt, tt, tt, tt, tt, tt, tt, tt, tt, tt, tt, tt, tt, tt, tt, tt, tt, tt, tt, tt, tt, tt, ff, ff, ff, ff, ff, ff, ff, ff, ff, ff, ff, ff, ff, ff, ff, ff, ff, ff, ff, ff] 20 true 32 hb88 (fun _ hq => ld 3 33 b41 0 false 1 (vi x27.ID) (hq.1.2 0 _ _ rfl)) ?_
        refine Dgl 23 35 32 _ [tt, tt, tt, tt, tt, tt, tt, tt, tt, tt, tt, tt, tt, tt, tt, tt, tt, tt, tt, tt, tt, tt, tt, tt, ff, ff, ff, ff, ff, ff, ff, ff, ff, ff, ff, ff, ff, ff, ff, ff, ff, ff, ff] 20 true 32 hb88 (fun _ hq => mv 0 (.slice (some ⟨b31, o32, none⟩) x0.length n0_0) e9) ?_
        refine Dgl 24 36 3 _ [tt, tt, tt, tt, tt, tt, tt, tt, tt, tt, tt, tt, tt, tt, tt, tt, tt, tt, tt, tt, tt, tt, tt, tt, tt, ff, ff, ff, ff, ff, ff, ff, ff, ff, ff, ff, ff, ff, ff, ff, ff, ff, ff] 20 true 32 hb88 (fun _ hq => mv 3 (vi s4)) ?_
        refine Dgl 25 37 3 (vi (W64 (s4 - 1))) [tt, tt, tt, tt, tt, tt, tt, tt, tt, tt, tt, tt, tt, tt, tt, tt, tt, tt, tt, tt, tt, tt, tt, tt, tt, tt, ff, ff, ff, ff, ff, ff, ff, ff, ff, ff, ff, ff, ff, ff, ff, ff, ff] 20 true 32 hb88 (fun _ hq => run_sub (t := 3) (t' := 3) (x := (.tmp 36)) (y := (.const (vi 1))) (k := .i64) (a := s4) (b := 1) rfl rfl) ?_
        obtain ⟨x90, hx91, h93⟩ := bind_some h89
        obtain ⟨hi92, hx91'⟩ := idx_spec hx91
        have hc95 := hE38 _ _ hx91'
        refine Dgl 26 38 0 (.pointer (some ⟨b31, (o32 + ((W64 (s4 - 1)) : Int).toNat * 3), none⟩)) [tt, tt, tt, tt, tt, tt, tt, tt, tt, tt, tt, tt, tt, tt, tt, tt, tt, tt, tt, tt, tt, tt, tt, tt, tt, tt, tt, ff, ff, ff, ff, ff, ff, ff, ff, ff, ff, ff, ff, ff, ff, ff, ff] 20 true 32 hb88 (fun _ hq => ix 32 35 37 b31 o32 40 3 24 hi92) ?_
        refine Dgl 27 39 0 (.pointer (some ⟨b31, (o32 + ((W64 (s4 - 1)) : Int).toNat * 3), none⟩)) [tt, tt, tt, tt, tt, tt, tt, tt, tt, tt, tt, tt, tt, tt, tt, tt, tt, tt, tt, tt, tt, tt, tt, tt, tt, tt, tt, tt, ff, ff, ff, ff, ff, ff, ff, ff, ff, ff, ff, ff, ff, ff, ff] 20 true 32 hb88 (fun _ hq => fa 40 38 0 0 1 b31 (o32 + ((W64 (s4 - 1)) : Int).toNat * 3) (o32 + ((W64 (s4 - 1)) : Int).toNat * 3)) ?_
        refine Dgl 28 40 3 _ [tt, tt, tt, tt, tt, tt, tt, tt, tt, tt, tt, tt, tt, tt, tt, tt, tt, tt, tt, tt, tt, tt, tt, tt, tt, tt, tt, tt, tt, ff, ff, ff, ff, ff, ff, ff, ff, ff, ff, ff, ff, ff, ff] 20 true 32 hb88 (fun _ hq => lx 3 39 0 3 false 1 (vi x90.ID) (hq.1.1 _ _ hF37) hc95) ?_
        refine Dgl 29 41 4 (.bool (decide (x27.ID ≤ x90.ID))) [tt, tt, tt, tt, tt, tt, tt, tt, tt, tt, tt, tt, tt, tt, tt, tt, tt, tt, tt, tt, tt, tt, tt, tt, tt, tt, tt, tt, tt, tt, ff, ff, ff, ff, ff, ff, ff, ff, ff, ff, ff, ff, ff] 20 true 32 hb88 (fun _ hq => run_leq (t := 3) (t' := 3) (x := (.tmp 34)) (y := (.tmp 40)) (k := .i64) (a := x27.ID) (b := x90.ID) rfl rfl) ?_
        refine Dgl 30 42 4 _ [tt, tt, tt, tt, tt, tt, tt, tt, tt, tt, tt, tt, tt, tt, tt, tt, tt, tt, tt, tt, tt, tt, tt, tt, tt, tt, tt, tt, tt, tt, tt, ff, ff, ff, ff, ff, ff, ff, ff, ff, ff, ff, ff] 20 true 32 hb88 (fun _ hq => mv 41 (.bool (decide (x27.ID ≤ x90.ID)))) ?_
        refine DWP.split (decide (x27.ID ≤ x90.ID)) (fun hb96 => ?_) (fun hb96 => ?_)
        ·have h97 := cond_t h93 hb96
         refine Dkl [(31, 43), (32, 44), (33, 45), (34, 46), (35, 47), (36, 48)] 30 false 42 hb96 [tt, tt, tt, tt, tt, tt, tt, tt, tt, tt, tt, tt, tt, tt, tt, tt, tt, tt, tt, tt, tt, tt, tt, tt, tt, tt, tt, tt, tt, tt, tt, tt, tt, tt, tt, tt, tt, ff, ff, ff, ff, ff, ff] ?_
         refine Dkl [(37, 49), (38, 50), (39, 51)] 30 false 42 hb96 [tt, tt, tt, tt, tt, tt, tt, tt, tt, tt, tt, tt, tt, tt, tt, tt, tt, tt, tt, tt, tt, tt, tt, tt, tt, tt, tt, tt, tt, tt, tt, tt, tt, tt, tt, tt, tt, tt, tt, tt, ff, ff, ff] ?_
         refine Dgl 40 52 4 _ [tt, tt, tt, tt, tt, tt, tt, tt, tt, tt, tt, tt, tt, tt, tt, tt, tt, tt, tt, tt, tt, tt, tt, tt, tt, tt, tt, tt, tt, tt, tt, tt, tt, tt, tt, tt, tt, tt, tt, tt, tt, ff, ff] 20 true 32 hb88 (fun _ hq => p1 42 (.const (.bool true)) (.tmp 51) (.bool true) hb96) ?_
         refine Dgl 41 53 4 _ [tt, tt, tt, tt, tt, tt, tt, tt, tt, tt, tt, tt, tt, tt, tt, tt, tt, tt, tt, tt, tt, tt, tt, tt, tt, tt, tt, tt, tt, tt, tt, tt, tt, tt, tt, tt, tt, tt, tt, tt, tt, tt, ff] 17 false 29 hb84 (fun _ hq => p1 32 (.tmp 52) (.const (.bool false)) (.bool true) hb88) ?_
         refine Dtl 42 54 4 _ [tt, tt, tt, tt, tt, tt, tt, tt, tt, tt, tt, tt, tt, tt, tt, tt, tt, tt, tt, tt, tt, tt, tt, tt, tt, tt, tt, tt, tt, tt, tt, tt, tt, tt, tt, tt, tt, tt, tt, tt, tt, tt, tt] (fun _ hq => p0 29 (.const (.bool true)) (.tmp 53) (.bool true) hb84) ?_
         obtain rfl := some_inj h97
         have hs98 : HS w0 F0 w76 F5 [] := hs77.drop 0
         exact DWP.done (by kernel_rfl) ⟨F5, hs98, (le66.trans le78), e8, e9, e10, e11, e12, rfl⟩
        ·have h99 := cond_f h93 hb96
         refine Dgl 31 43 0 (.pointer (some ⟨b41, 1, none⟩)) [tt, tt, tt, tt, tt, tt, tt, tt, tt, tt, tt, tt, tt, tt, tt, tt, tt, tt, tt, tt, tt, tt, tt, tt, tt, tt, tt, tt, tt, tt, tt, tt, ff, ff, ff, ff, ff, ff, ff, ff, ff, ff, ff] 30 false 42 hb96 (fun _ hq => fa 40 4 1 1 1 b41 0 1) ?_
         refine Dgl 32 44 3 _ [tt, tt, tt, tt, tt, tt, tt, tt, tt, tt, tt, tt, tt, tt, tt, tt, tt, tt, tt, tt, tt, tt, tt, tt, tt, tt, tt, tt, tt, tt, tt, tt, tt, ff, ff, ff, ff, ff, ff, ff, ff, ff, ff] 30 false 42 hb96 (fun _ hq => ld 3 43 b41 1 false 1 (vi x27.Lo) (hq.1.2 0 _ _ rfl)) ?_
         refine Dgl 33 45 32 _ [tt, tt, tt, tt, tt, tt, tt, tt, tt, tt, tt, tt, tt, tt, tt, tt, tt, tt, tt, tt, tt, tt, tt, tt, tt, tt, tt, tt, tt, tt, tt, tt, tt, tt, ff, ff, ff, ff, ff, ff, ff, ff, ff] 30 false 42 hb96 (fun _ hq => mv 0 (.slice (some ⟨b31, o32, none⟩) x0.length n0_0) e9) ?_
         refine Dgl 34 46 3 _ [tt, tt, tt, tt, tt, tt, tt, tt, tt, tt, tt, tt, tt, tt, tt, tt, tt, tt, tt, tt, tt, tt, tt, tt, tt, tt, tt, tt, tt, tt, tt, tt, tt, tt, tt, ff, ff, ff, ff, ff, ff, ff, ff] 30 false 42 hb96 (fun _ hq => mv 3 (vi s4)) ?_
         refine Dgl 35 47 3 (vi (W64 (s4 - 1))) [tt, tt, tt, tt, tt, tt, tt, tt, tt, tt, tt, tt, tt, tt, tt, tt, tt, tt, tt, tt, tt, tt, tt, tt, tt, tt, tt, tt, tt, tt, tt, tt, tt, tt, tt, tt, ff, ff, ff, ff, ff, ff, ff] 30 false 42 hb96 (fun _ hq => run_sub (t := 3) (t' := 3) (x := (.tmp 46)) (y := (.const (vi 1))) (k := .i64) (a := s4) (b := 1) rfl rfl) ?_
         obtain ⟨x100, hx101, h103⟩ := bind_some h99
         obtain ⟨hi102, hx101'⟩ := idx_spec hx101
         have hc105 := hE38 _ _ hx101'
         refine Dgl 36 48 0 (.pointer (some ⟨b31, (o32 + ((W64 (s4 - 1)) : Int).toNat * 3), none⟩)) [tt, tt, tt, tt, tt, tt, tt, tt, tt, tt, tt, tt, tt, tt, tt, tt, tt, tt, tt, tt, tt, tt, tt, tt, tt, tt, tt, tt, tt, tt, tt, tt, tt, tt, tt, tt, tt, ff, ff, ff, ff, ff, ff] 30 false 42 hb96 (fun _ hq => ix 32 45 47 b31 o32 40 3 24 hi102) ?_
         refine Dgl 37 49 0 (.pointer (some ⟨b31, ((o32 + ((W64 (s4 - 1)) : Int).toNat * 3) + 2), none⟩)) [tt, tt, tt, tt, tt, tt, tt, tt, tt, tt, tt, tt, tt, tt, tt, tt, tt, tt, tt, tt, tt, tt, tt, tt, tt, tt, tt, tt, tt, tt, tt, tt, tt, tt, tt, tt, tt, tt, ff, ff, ff, ff, ff] 30 false 42 hb96 (fun _ hq => fa 40 48 2 2 1 b31 (o32 + ((W64 (s4 - 1)) : Int).toNat * 3) ((o32 + ((W64 (s4 - 1)) : Int).toNat * 3) + 2)) ?_
         refine Dgl 38 50 3 _ [tt, tt, tt, tt, tt, tt, tt, tt, tt, tt, tt, tt, tt, tt, tt, tt, tt, tt, tt, tt, tt, tt, tt, tt, tt, tt, tt, tt, tt, tt, tt, tt, tt, tt, tt, tt, tt, tt, tt, ff, ff, ff, ff] 30 false 42 hb96 (fun _ hq => lx 3 49 2 3 false 1 (vi x100.Hi) (hq.1.1 _ _ hF37) hc105) ?_
         refine Dgl 39 51 4 (.bool (decide (x27.Lo ≤ x100.Hi))) [tt, tt, tt, tt, tt, tt, tt, tt, tt, tt, tt, tt, tt, tt, tt, tt, tt, tt, tt, tt, tt, tt, tt, tt, tt, tt, tt, tt, tt, tt, tt, tt, tt, tt, tt, tt, tt, tt, tt, tt, ff, ff, ff] 30 false 42 hb96 (fun _ hq => run_leq (t := 3) (t' := 3) (x := (.tmp 44)) (y := (.tmp 50)) (k := .i64) (a := x27.Lo) (b := x100.Hi) rfl rfl) ?_
         refine Dgl 40 52 4 _ [tt, tt, tt, tt, tt, tt, tt, tt, tt, tt, tt, tt, tt, tt, tt, tt, tt, tt, tt, tt, tt, tt, tt, tt, tt, tt, tt, tt, tt, tt, tt, tt, tt, tt, tt, tt, tt, tt, tt, tt, tt, ff, ff] 20 true 32 hb88 (fun _ hq => p0 42 (.const (.bool true)) (.tmp 51) (.bool (decide (x27.Lo ≤ x100.Hi))) hb96) ?_
         refine Dgl 41 53 4 _ [tt, tt, tt, tt, tt, tt, tt, tt, tt, tt, tt, tt, tt, tt, tt, tt, tt, tt, tt, tt, tt, tt, tt, tt, tt, tt, tt, tt, tt, tt, tt, tt, tt, tt, tt, tt, tt, tt, tt, tt, tt, tt, ff] 17 false 29 hb84 (fun _ hq => p1 32 (.tmp 52) (.const (.bool false)) (.bool (decide (x27.Lo ≤ x100.Hi))) hb88) ?_
         refine Dtl 42 54 4 _ [tt, tt, tt, tt, tt, tt, tt, tt, tt, tt, tt, tt, tt, tt, tt, tt, tt, tt, tt, tt, tt, tt, tt, tt, tt, tt, tt, tt, tt, tt, tt, tt, tt, tt, tt, tt, tt, tt, tt, tt, tt, tt, tt] (fun _ hq => p0 29 (.const (.bool true)) (.tmp 53) (.bool (decide (x27.Lo ≤ x100.Hi))) hb84) ?_
         obtain rfl := some_inj h103
         have hs106 : HS w0 F0 w76 F5 [] := hs77.drop 0
         exact DWP.done (by kernel_rfl) ⟨F5, hs106, (le66.trans le78), e8, e9, e10, e11, e12, rfl⟩
       ·have h107 := cond_f h87 hb88
        refine Dkl [(21, 33), (22, 34), (23, 35), (24, 36), (25, 37), (26, 38)] 20 true 32 hb88 [tt, tt, tt, tt, tt, tt, tt, tt, tt, tt, tt, tt, tt, tt, tt, tt, tt, tt, tt, tt, tt, tt, tt, tt, tt, tt, tt, ff, ff, ff, ff, ff, ff, ff, ff, ff, ff, ff, ff, ff, ff, ff, ff] ?_
        refine Dkl [(27, 39), (28, 40), (29, 41), (30, 42)] 20 true 32 hb88 [tt, tt, tt, tt, tt, tt, tt, tt, tt, tt, tt, tt, tt, tt, tt, tt, tt, tt, tt, tt, tt, tt, tt, tt, tt, tt, tt, tt, tt, tt, tt, ff, ff, ff, ff, ff, ff, ff, ff, ff, ff, ff, ff] ?_
        refine Dul [(31, 43), (32, 44), (33, 45), (34, 46), (35, 47), (36, 48)] 30 false 42 [tt, tt, tt, tt, tt, tt, tt, tt, tt, tt, tt, tt, tt, tt, tt, tt, tt, tt, tt, tt, tt, tt, tt, tt, tt, tt, tt, tt, tt, tt, tt, tt, tt, tt, tt, tt, tt, ff, ff, ff, ff, ff, ff] ?_
        refine Dul [(37, 49), (38, 50), (39, 51)] 30 false 42 [tt, tt, tt, tt, tt, tt, tt, tt, tt, tt, tt, tt, tt, tt, tt, tt, tt, tt, tt, tt, tt, tt, tt, tt, tt, tt, tt, tt, tt, tt, tt, tt, tt, tt, tt, tt, tt, tt, tt, tt, ff, ff, ff] ?_
        refine Dkl [(40, 52)] 20 true 32 hb88 [tt, tt, tt, tt, tt, tt, tt, tt, tt, tt, tt, tt, tt, tt, tt, tt, tt, tt, tt, tt, tt, tt, tt, tt, tt, tt, tt, tt, tt, tt, tt, tt, tt, tt, tt, tt, tt, tt, tt, tt, tt, ff, ff] ?_
        refine Dgl 41 53 4 _ [tt, tt, tt, tt, tt, tt, tt, tt, tt, tt, tt, tt, tt, tt, tt, tt, tt, tt, tt, tt, tt, tt, tt, tt, tt, tt, tt, tt, tt, tt, tt, tt, tt, tt, tt, tt, tt, tt, tt, tt, tt, tt, ff] 17 false 29 hb84 (fun _ hq => p0 32 (.tmp 52) (.const (.bool false)) (.bool false) hb88) ?_
        refine Dtl 42 54 4 _ [tt, tt, tt, tt, tt, tt, tt, tt, tt, tt, tt, tt, tt, tt, tt, tt, tt, tt, tt, tt, tt, tt, tt, tt, tt, tt, tt, tt, tt, tt, tt, tt, tt, tt, tt, tt, tt, tt, tt, tt, tt, tt, tt] (fun _ hq => p0 29 (.const (.bool true)) (.tmp 53) (.bool false) hb84) ?_
        obtain rfl := some_inj h107
        have hs108 : HS w0 F0 w76 F5 [] := hs77.drop 0
        exact DWP.done (by kernel_rfl) ⟨F5, hs108, (le66.trans le78), e8, e9, e10, e11, e12, rfl⟩
   ·rintro f w48 ⟨F3, hs49, le50, e52, e53, e54, e55, e56, e57⟩
    refine thenQ_nrm ?_
    refine CWP.cond (t := j51) (by kernel_rfl) e57 (fun hb109 => ?_) (fun hb109 => ?_)
    ·have h110 := cond_t h59 hb109
     refine Sq (Rg [0] ?_)
     refine V 2 4 (mc (.bool false) (.bool false)) ?_
     refine Nt ?_
     refine CWP.ret (by kernel_rfl) ?_
     refine blockQ_ret ?_
     refine thenQ_ret ?_
     refine thenQ_ret ?_
     refine blockQ_ret ?_
     have hret := iter_ret h110 hnx24
     subst hret
     refine .inr ?_
     refine thenQ_ret ?_
     have hfin := some_inj h3
     subst hfin
     exact ⟨e52, (.bool false), res_of (l := [.tmp 2]) (by kernel_rfl) (vs := [(.bool false)]) ⟨rfl, trivial⟩, (.bool false), F3, rfl, hs49.clear, rfl⟩
    ·have h111 := cond_f h59 hb109
     refine Sc ?_
     refine blockQ_nrm ?_
     refine thenQ_nrm ?_
     refine Rg [0, 1] ?_
     refine V 55 3 (run_add (t := 3) (t' := 3) (x := (.tmp 7)) (y := (.const (vi 1))) (k := .i64) (a := s4) (b := 1) e56 rfl) ?_
     refine V 7 3 (mv 55 (vi (W64 (s4 + 1)))) ?_
     refine RWP.nil ?_
     have hn112 := iter_next h111 hnx24
     exact ⟨m21, Nat.lt_succ_self _, (W64 (s4 + 1)), F3, hn112, hs49, (le7.trans le50), e52, e53, e54, e55, rfl⟩
  ·have h113 := cond_f hb23 hb25
   refine CWP.exit (by kernel_rfl) ?_
   refine thenQ_ex ?_
   refine thenQ_ex ?_
   refine blockQ_hit rfl ?_
   have ho114 := iter_done h113 hnx24
   exact .inl ⟨rfl, s4, F1, ho114, hs6, le7, e8, e9⟩
 ·rintro f w14 ⟨s13, F2, rfl, hs15, le16, e17, e18⟩
  have h115 := k_done h3
  refine thenQ_nrm ?_
  refine Sq (Rg [0, 1, 2, 3] ?_)
  refine V 56 32 (mv 0 (.slice a0_0 x0.length n0_0) e18) ?_
  refine V 57 3 (ln 56 32 a0_0 x0.length n0_0 40 3 24) ?_
  refine V 58 4 (run_leq (t := 3) (t' := 3) (x := (.tmp 57)) (y := (.const (vi 16))) (k := .i64) (a := (x0.length : Int)) (b := 16) rfl rfl) ?_
  refine V 2 4 (ma 58 (.bool (decide ((x0.length : Int) ≤ 16)))) ?_
  refine Nt ?_
  refine CWP.ret (by kernel_rfl) ?_
  have hfin := some_inj h115
  subst hfin
  exact ⟨e17, (.bool (decide ((x0.length : Int) ≤ 16))), res_of (l := [.tmp 2]) (by kernel_rfl) (vs := [(.bool (decide ((x0.length : Int) ≤ 16)))]) ⟨rfl, trivial⟩, (.bool (decide ((x0.length : Int) ≤ 16))), F2, rfl, hs15.clear, rfl⟩
end Go.Proofs.YtlddakefmfcblaaGreatDoor
namespace Go.Proofs.YtlddakefmfcblaaGreatDoor
open Go.Proofs
def air_wrongBands (N : Nat) (x0 : (List Band)) (x1 : Int) : Option Int :=
 ((air_ValidBands N x0).bind fun r1 => (bif (!r1) then some 11 else ((air_within N x1 1 10000000).bind fun r12 => (bif (!r12) then some 1 else some 0))))
theorem co_air_wrongBands : CallOk Tryz.prog 68 := fun _ _ => by kernel_rfl
set_option maxHeartbeats 4000000 in
set_option maxRecDepth 100000 in
theorem c_air_wrongBands (N : Nat) (w0 : World) (F0 : Mem) (hF : ∀ b o, F0 b = some o → w0.heap[b]? = some o) (x0 : (List Band)) (a0_0 : Option Addr) (n0_0 : Nat) (hb0_0 : LC x0.length n0_0) (hs0_0 : SlA tBand F0 a0_0 x0) (x1 : Int) (r : Int) (h : air_wrongBands N x0 x1 = some r) :
  Calls Tryz.prog 68 ([(.slice a0_0 x0.length n0_0), (vi x1)] : List Value).toArray w0 (FRet w0 F0 fun F' v => v = (vi r)) := by
 have hs0 := HS.start hF
 refine calls_of (n := 13) (c := bodyOf Tryz.f68) Tryz.func68 (by kernel_rfl) (by kernel_rfl) (by kernel_rfl) ?_
 refine Sq (Rg [0] ?_)
 refine V 4 23 (mc (vi 0) (vi 0)) ?_
 refine Nss ?_
 refine Bk ?_
 refine Sq (Rg [0, 1, 2, 3] ?_)
 refine V 6 32 (mv 0 (.slice a0_0 x0.length n0_0)) ?_
 obtain ⟨r1, hr2, h3⟩ := bind_some h
 refine Cl 7 4 26 #[(.tmp 6)] #[32] co_air_ValidBands hs0 (c_air_ValidBands N w0 F0 hs0.pers (x0) a0_0 n0_0 hb0_0 hs0_0 _ hr2) ?_
 intro v4 F1 w5 hs6 le7 hp8
 obtain rfl := hp8
 refine V 8 4 (run_not (t := 4) (x := (.tmp 7)) (a := r1) rfl) ?_
 refine V 5 4 (ma 8 (.bool (!r1))) ?_
 refine Nt ?_
 refine CWP.cond (t := (!r1)) (by kernel_rfl) rfl (fun hb9 => ?_) (fun hb9 => ?_)
 ·have h10 := cond_t h3 hb9
  refine Sq (Rg [0] ?_)
  refine V 4 23 (mc (vi 11) (vi 11)) ?_
  refine Nt ?_
  refine CWP.ret (by kernel_rfl) ?_
  refine blockQ_ret ?_
  refine thenQ_ret ?_
  have hfin := some_inj h10
  subst hfin
  exact ⟨rfl, (vi 11), res_of (l := [.tmp 4]) (by kernel_rfl) (vs := [(vi 11)]) ⟨rfl, trivial⟩, (vi 11), F1, rfl, hs6.clear, rfl⟩
 ·have h11 := cond_f h3 hb9
  refine Sq (Rg [0, 1, 2, 3] ?_)
  refine V 10 3 (mv 1 (vi x1)) ?_
  obtain ⟨r12, hr13, h14⟩ := bind_some h11
  refine Cl 11 4 73 #[(.tmp 10), (.const (vi 1)), (.const (vi 10000000))] #[3, 3, 3] co_air_within hs6 (c_air_within N w5 F1 hs6.pers (x1) (1) (10000000) _ hr13) ?_
  intro v15 F2 w16 hs17 le18 hp19
  obtain rfl := hp19
  refine V 12 4 (run_not (t := 4) (x := (.tmp 11)) (a := r12) rfl) ?_
  refine V 9 4 (ma 12 (.bool (!r12))) ?_
  refine Nt ?_
  refine CWP.cond (t := (!r12)) (by kernel_rfl) rfl (fun hb20 => ?_) (fun hb20 => ?_)
  ·have h21 := cond_t h14 hb20
   refine Sq (Rg [0] ?_)
   refine V 4 23 (mc (vi 1) (vi 1)) ?_
   refine Nt ?_
   refine CWP.ret (by kernel_rfl) ?_
   refine blockQ_ret ?_
   refine thenQ_ret ?_
   have hfin := some_inj h21
   subst hfin
   exact ⟨rfl, (vi 1), res_of (l := [.tmp 4]) (by kernel_rfl) (vs := [(vi 1)]) ⟨rfl, trivial⟩, (vi 1), F2, rfl, hs17.clear, rfl⟩
  ·have h22 := cond_f h14 hb20
   refine Sc ?_
   refine blockQ_nrm ?_
   refine thenQ_nrm ?_
   refine Sq (Rg [0] ?_)
   refine V 4 23 (mc (vi 0) (vi 0)) ?_
   refine Nt ?_
   refine CWP.ret (by kernel_rfl) ?_
   have hfin := some_inj h22
   subst hfin
   exact ⟨rfl, (vi 0), res_of (l := [.tmp 4]) (by kernel_rfl) (vs := [(vi 0)]) ⟨rfl, trivial⟩, (vi 0), F2, rfl, hs17.clear, rfl⟩
end Go.Proofs.YtlddakefmfcblaaGreatDoor
namespace Go.Proofs.YtlddakefmfcblaaGreatDoor
open Go.Proofs
def air_Nearest_1 (N : Nat) (x0 : Band) (z0 : Int) : Option Int :=
 some (max (max 0 (W64 (x0.Lo - z0))) (W64 (z0 - x0.Hi)))
theorem co_air_Nearest_1 : CallOk Tryz.prog 69 := fun _ _ => by kernel_rfl
set_option maxHeartbeats 4000000 in
set_option maxRecDepth 100000 in
theorem c_air_Nearest_1 (N : Nat) (w0 : World) (F0 : Mem) (hF : ∀ b o, F0 b = some o → w0.heap[b]? = some o) (x0 : Band) (bz0 : Nat) (z0 : Int) (hz0 : F0 bz0 = some (oc #[(vi z0)] 3)) (r : Int) (h : air_Nearest_1 N x0 z0 = some r) :
  Calls Tryz.prog 69 ([(.agg (kBand x0)), (.pointer (some ⟨bz0, 0, none⟩))] : List Value).toArray w0 (FRet w0 F0 fun F' v => v = (vi r)) := by
 have hs0 := HS.start hF
 refine calls_of (n := 13) (c := bodyOf Tryz.f69) Tryz.func69 (by kernel_rfl) (by kernel_rfl) (by kernel_rfl) ?_
 refine Sq (Rg [0, 1] ?_)
 refine Bx 2 0 0 40 (kBand x0) hs0 (fun b1 w2 (hs3 : HS w0 F0 w2 F0 [(sb b1 (kBand x0) 40)]) => ?_)
 refine V 3 3 (mc (vi 0) (vi 0)) ?_
 refine Nss (Rg [0, 1, 2, 3, 4, 5, 6, 7, 8, 9] ?_)
 refine V 4 0 (fa 40 2 1 1 1 b1 0 1) ?_
 refine V 5 3 (ld 3 4 b1 1 false 1 (vi x0.Lo) (hs3.ownAt (k := 0) rfl)) ?_
 refine V 6 3 (ld 3 1 bz0 0 false 1 (vi z0) (hs3.pers _ _ hz0)) ?_
 refine V 7 3 (run_sub (t := 3) (t' := 3) (x := (.tmp 5)) (y := (.tmp 6)) (k := .i64) (a := x0.Lo) (b := z0) rfl rfl) ?_
 refine V 8 3 (ld 3 1 bz0 0 false 1 (vi z0) (hs3.pers _ _ hz0)) ?_
 refine V 9 0 (fa 40 2 2 2 1 b1 0 2) ?_
 refine V 10 3 (ld 3 9 b1 2 false 1 (vi x0.Hi) (hs3.ownAt (k := 0) rfl)) ?_
 refine V 11 3 (run_sub (t := 3) (t' := 3) (x := (.tmp 8)) (y := (.tmp 10)) (k := .i64) (a := z0) (b := x0.Hi) rfl rfl) ?_
 refine V 12 3 (run_max3 (x := (.const (vi 0))) (y := (.tmp 7)) (z := (.tmp 11)) (ats := #[3, 3, 3]) (a := 0) (b := (W64 (x0.Lo - z0))) (c := (W64 (z0 - x0.Hi))) rfl rfl rfl) ?_
 refine V 3 3 (ma 12 (vi (max (max 0 (W64 (x0.Lo - z0))) (W64 (z0 - x0.Hi))))) ?_
 refine Nt ?_
 refine CWP.ret (by kernel_rfl) ?_
 have hfin := some_inj h
 subst hfin
 exact ⟨rfl, (vi (max (max 0 (W64 (x0.Lo - z0))) (W64 (z0 - x0.Hi)))), res_of (l := [.tmp 3]) (by kernel_rfl) (vs := [(vi (max (max 0 (W64 (x0.Lo - z0))) (W64 (z0 - x0.Hi))))]) ⟨rfl, trivial⟩, (vi (max (max 0 (W64 (x0.Lo - z0))) (W64 (z0 - x0.Hi)))), F0, rfl, hs3.clear, rfl⟩
end Go.Proofs.YtlddakefmfcblaaGreatDoor
namespace Go.Proofs.YtlddakefmfcblaaGreatDoor
open Go.Proofs
def slices_MinFunc_api_Band_api_Band_L0 (N : Nat) (x0 : (List Band)) (x1 : (Band → Band → Option Int)) (x7 : Band) : (Int × Int × Int × Int) → Option (Flow Band (Int × Int × Int × Int)) := fun s29 =>
 (bif (decide (s29.1 < (x0.length : Int))) then (((idx x0 s29.1).bind fun x69 => ((x1 x69 ({ ID := s29.2.1, Lo := s29.2.2.1, Hi := s29.2.2.2 } : Band)).bind fun r75 => some (decide (r75 < 0)))).bind fun j59 => ((bif j59 then ((idx x0 s29.1).bind fun x97 => some (x97.ID, x97.Lo, x97.Hi)) else some (s29.2.1, s29.2.2.1, s29.2.2.2)).bind fun j86 => some (.next ((W64 (s29.1 + 1)), j86.1, j86.2.1, j86.2.2)))) else some (.done (s29.1, s29.2.1, s29.2.2.1, s29.2.2.2)))
def slices_MinFunc_api_Band_api_Band (N : Nat) (x0 : (List Band)) (x1 : (Band → Band → Option Int)) : Option Band :=
 (bif (decide ((x0.length : Int) < 1)) then none else ((idx x0 0).bind fun x7 => ((iter (slices_MinFunc_api_Band_api_Band_L0 N x0 x1 x7) N (1, x7.ID, x7.Lo, x7.Hi)).bind fun o => o.k (fun r => some r) (fun s39 => some ({ ID := s39.2.1, Lo := s39.2.2.1, Hi := s39.2.2.2 } : Band)))))
theorem co_slices_MinFunc_api_Band_api_Band : CallOk Tryz.prog 70 := fun _ _ => by kernel_rfl
set_option maxHeartbeats 4000000 in
set_option maxRecDepth 100000 in
theorem c_slices_MinFunc_api_Band_api_Band (N : Nat) (w0 : World) (F0 : Mem) (hF : ∀ b o, F0 b = some o → w0.heap[b]? = some o) (x0 : (List Band)) (a0_0 : Option Addr) (n0_0 : Nat) (hb0_0 : LC x0.length n0_0) (hs0_0 : SlA tBand F0 a0_0 x0) (gx1 : FuncId) (fx1 kx1 : List Value) (x1 : Band → Band → Option Int) (hox1 : CallOk Tryz.prog gx1) (hpx1 : Fn93 F0 gx1 fx1 kx1 x1) (r : Band) (h : slices_MinFunc_api_Band_api_Band N x0 x1 = some r) :
  Calls Tryz.prog 70 ([(.slice a0_0 x0.length n0_0), (.func (.func gx1) fx1.toArray kx1.toArray)] : List Value).toArray w0 (FRet w0 F0 fun F' v => v = (.agg (kBand r))) := by
 have hs0 := HS.start hF
 refine calls_of (n := 33) (c := bodyOf Tryz.f70) Tryz.func70 (by kernel_rfl) (by kernel_rfl) (by kernel_rfl) ?_
 refine Sq (Rg [0] ?_)
 refine Al 4 0 40 #[(vi 0), (vi 0), (vi 0)] hs0 (fun b1 w2 (hs3 : HS w0 F0 w2 F0 [(sb b1 #[(vi 0), (vi 0), (vi 0)] 40)]) => ?_)
 refine Nss ?_
 refine Sq (Rg [0, 1, 2] ?_)
 refine V 7 32 (mv 0 (.slice a0_0 x0.length n0_0)) ?_
 refine V 8 3 (ln 7 32 a0_0 x0.length n0_0 40 3 24) ?_
 refine V 9 4 (run_lss (t := 3) (t' := 3) (x := (.tmp 8)) (y := (.const (vi 1))) (k := .i64) (a := (x0.length : Int)) (b := 1) rfl rfl) ?_
 refine Nt ?_
 refine CWP.cond (t := (decide ((x0.length : Int) < 1))) (by kernel_rfl) rfl (fun hb4 => ?_) (fun hb4 => ?_)
 ·have h5 := cond_t h hb4
  refine Rg [0, 1] ?_
  refine V 10 20 (run_mkIface' (t := 9) (x := (.const (.string ⟨([115, 108, 105, 99, 101, 115, 46, 77, 105, 110, 70, 117, 110, 99, 58, 32, 101, 109, 112, 116, 121, 32, 108, 105, 115, 116] : List UInt8).toArray⟩))) (v := (.string ⟨(([115, 108, 105, 99, 101, 115, 46, 77, 105, 110, 70, 117, 110, 99, 58, 32, 101, 109, 112, 116, 121, 32, 108, 105, 115, 116] : List UInt8)).toArray⟩)) rfl (by kernel_rfl)) ?_
  cases h5
 ·have h6 := cond_f h hb4
  refine Sc ?_
  refine thenQ_nrm ?_
  refine Sq (Rg [0, 1, 2, 3, 4] ?_)
  refine V 11 32 (mv 0 (.slice a0_0 x0.length n0_0)) ?_
  obtain ⟨x7, hx8, h10⟩ := bind_some h6
  obtain ⟨hi9, hx8'⟩ := idx_spec hx8
  obtain ⟨b11, o12, C13, E14, fz15, rfl, hF17, hE18⟩ := SlA.open hs0_0 hx8'
  have hc20 := hE18 _ _ hx8'
  refine V 12 0 (run_index (t := 32) (x := (.tmp 11)) (y := (.const (vi 0))) (b := b11) (o := o12) (E := 40) (s := 3) (by_ := 24) rfl rfl (by kernel_rfl) hi9) ?_
  refine V 13 40 (lx 40 12 0 3 true 3 (.agg (kBand x7)) (hs3.pers _ _ hF17) hc20) ?_
  refine Al 5 0 40 #[(vi 0), (vi 0), (vi 0)] hs3 (fun b21 w22 (hs23 : HS w0 F0 w22 F0 [(sb b21 #[(vi 0), (vi 0), (vi 0)] 40), (sb b1 #[(vi 0), (vi 0), (vi 0)] 40)]) => ?_)
  refine RWP.store (ty := 0) (g := none) (by kernel_rfl) rfl (x := (.tmp 5)) (y := (.tmp 13)) (t := 40) (gg := true) (s := 3) (v := (.agg (kBand x7))) (b := b21) (o := 0) (C := #[(vi 0), (vi 0), (vi 0)]) rfl rfl (by kernel_rfl) hs23 (k := 0) rfl rfl rfl rfl (C' := (kBand x7)) rfl (fun w24 (hs25 : HS w0 F0 w24 F0 [(sb b21 (kBand x7) 40), (sb b1 #[(vi 0), (vi 0), (vi 0)] 40)]) => ?_)
  refine Nss ?_
  refine Sq (Rg [0] ?_)
  refine V 6 3 (mc (vi 1) (vi 1)) ?_
  refine Nt ?_
  obtain ⟨o26, ho27, h28⟩ := bind_some h10
  refine CWP.cut (fun f w => ∃ (s39 : (Int × Int × Int × Int)) (F2 : Mem), o26 = .done s39 ∧ HS w0 F0 w F2 [(sb b21 #[(vi s39.2.1), (vi s39.2.2.1), (vi s39.2.2.2)] 40), (sb b1 #[(vi 0), (vi 0), (vi 0)] 40)] ∧ Mem.le F0 F2 ∧ f.d = [] ∧ f 4 = (.pointer (some ⟨b1, 0, none⟩)) ∧ f 5 = (.pointer (some ⟨b21, 0, none⟩))) ?_ ?_
  ·refine Bk ?_
   refine CWP.loop (by kernel_rfl) (fun m f w => ∃ (s29 : (Int × Int × Int × Int)) (F1 : Mem), iter (slices_MinFunc_api_Band_api_Band_L0 N x0 x1 x7) m s29 = some o26 ∧ HS w0 F0 w F1 [(sb b21 #[(vi s29.2.1), (vi s29.2.2.1), (vi s29.2.2.2)] 40), (sb b1 #[(vi 0), (vi 0), (vi 0)] 40)] ∧ Mem.le F0 F1 ∧ f.d = [] ∧ f 0 = (.slice (some ⟨b11, o12, none⟩) x0.length n0_0) ∧ f 1 = (.func (.func gx1) fx1.toArray kx1.toArray) ∧ f 4 = (.pointer (some ⟨b1, 0, none⟩)) ∧ f 5 = (.pointer (some ⟨b21, 0, none⟩)) ∧ f 6 = (vi s29.1)) N ⟨(1, x7.ID, x7.Lo, x7.Hi), F0, ho27, hs25, (Mem.le.refl _), rfl, rfl, rfl, rfl, rfl, rfl⟩ ?_
   rintro m46 f w30 ⟨s29, F1, hit47, hs31, le32, e33, e34, e35, e36, e37, e38⟩
   obtain ⟨m48, fl49, rfl, hb50, hnx51⟩ := iter_step hit47
   refine Sq ?_
   refine Sq (Rg [0, 1, 2, 3] ?_)
   refine V 14 3 (mv 6 (vi s29.1) e38) ?_
   refine V 15 32 (mv 0 (.slice (some ⟨b11, o12, none⟩) x0.length n0_0) e34) ?_
   refine V 16 3 (ln 15 32 (some ⟨b11, o12, none⟩) x0.length n0_0 40 3 24) ?_
   refine V 17 4 (run_lss (t := 3) (t' := 3) (x := (.tmp 14)) (y := (.tmp 16)) (k := .i64) (a := s29.1) (b := (x0.length : Int)) rfl rfl) ?_
   refine Nt ?_
   refine CWP.cond (t := (decide (s29.1 < (x0.length : Int)))) (by kernel_rfl) rfl (fun hb52 => ?_) (fun hb52 => ?_)
   ·have h53 := cond_t hb50 hb52
    refine Sc ?_
    refine thenQ_nrm ?_
    refine Sq ?_
    refine Bk ?_
    refine Sq ?_
    obtain ⟨j59, hj67, h68⟩ := bind_some h53
    refine CWP.regionD (by kernel_rfl) (by kernel_rfl) (by kernel_rfl) (by kernel_rfl) (z := 8) (F := F1) (Lc := [(sb b21 #[(vi s29.2.1), (vi s29.2.2.1), (vi s29.2.2.2)] 40), (sb b1 #[(vi 0), (vi 0), (vi 0)] 40)]) (Lz := []) (l := [false, false, false, false, false, false, false, false]) (fuel := 8) (by kernel_rfl) (by kernel_rfl) hs31 (by simp) (by simp) (fun f w => ∃ (F3 : Mem), HS w0 F0 w F3 [(sb b21 #[(vi s29.2.1), (vi s29.2.2.1), (vi s29.2.2.2)] 40), (sb b1 #[(vi 0), (vi 0), (vi 0)] 40)] ∧ Mem.le F1 F3 ∧ f.d = [] ∧ f 0 = (.slice (some ⟨b11, o12, none⟩) x0.length n0_0) ∧ f 1 = (.func (.func gx1) fx1.toArray kx1.toArray) ∧ f 4 = (.pointer (some ⟨b1, 0, none⟩)) ∧ f 5 = (.pointer (some ⟨b21, 0, none⟩)) ∧ f 6 = (vi s29.1) ∧ f 27 = (.bool j59)) (fun wd54 hw55 => ?_) ?_
    ·refine Dt 0 20 93 _ (fun _ hq => mv 1 (.func (.func gx1) fx1.toArray kx1.toArray) e35) ?_
     refine Dt 1 21 32 _ (fun _ hq => mv 0 (.slice (some ⟨b11, o12, none⟩) x0.length n0_0) e34) ?_
     refine Dt 2 22 3 _ (fun _ hq => mv 6 (vi s29.1) e38) ?_
     obtain ⟨x69, hx70, h72⟩ := bind_some hj67
     obtain ⟨hi71, hx70'⟩ := idx_spec hx70
     have hc74 := hE18 _ _ hx70'
     refine Dt 3 23 0 (.pointer (some ⟨b11, (o12 + (s29.1 : Int).toNat * 3), none⟩)) (fun _ hq => ix 32 21 22 b11 o12 40 3 24 hi71) ?_
     refine Dt 4 24 40 _ (fun _ hq => lx 40 23 0 3 true 3 (.agg (kBand x69)) (hq.1.1 _ _ (le32 _ _ hF17)) hc74) ?_
     refine Dt 5 25 40 _ (fun _ hq => ld 40 5 b21 0 true 3 (.agg #[(vi s29.2.1), (vi s29.2.2.1), (vi s29.2.2.2)]) (hq.1.2 0 _ _ rfl) e37) ?_
     refine DWP.one (i := 6) (by kernel_rfl) ?_
     obtain ⟨r75, hr76, h77⟩ := bind_some h72
     refine DStep.call (l' := [true, true, true, true, true, true, true, false]) (zd := true) (by kernel_rfl) (by kernel_rfl) (by kernel_rfl) (dst := (some 26)) (ty := 3) (g := none) (by kernel_rfl) rfl (f0 := (.tmp 20)) (aos := #[(.tmp 24), (.tmp 25)]) (ats := #[40, 40]) (fid := gx1) (first := fx1.toArray) (cap := kx1.toArray) (args := (fx1 ++ (([(.agg (kBand x69)), (.agg #[(vi s29.2.1), (vi s29.2.2.1), (vi s29.2.2.2)])] : List Value) ++ kx1))) rfl hox1 (app_args2 (l := [(.agg (kBand x69)), (.agg #[(vi s29.2.1), (vi s29.2.2.1), (vi s29.2.2.2)])]) (fi := fx1) (k := kx1) (rfl)) hw55 (hpx1 wd54 F1 (x69) (({ ID := s29.2.1, Lo := s29.2.2.1, Hi := s29.2.2.2 } : Band)) _ le32 hw55.pers hr76) ?_
     intro v78 F4 w79 hs80 le81 hp82
     obtain rfl := hp82
     refine Dt 7 27 4 (.bool (decide (r75 < 0))) (fun _ hq => run_lss (t := 3) (t' := 3) (x := (.tmp 26)) (y := (.const (vi 0))) (k := .i64) (a := r75) (b := 0) rfl rfl) ?_
     obtain rfl := some_inj h77
     exact DWP.done (by kernel_rfl) ⟨F4, hs80, le81, e33, e34, e35, e36, e37, e38, rfl⟩
    ·rintro f w56 ⟨F3, hs57, le58, e60, e61, e62, e63, e64, e65, e66⟩
     refine thenQ_nrm ?_
     obtain ⟨j86, hj93, h94⟩ := bind_some h68
     refine CWP.cut (fun f w => ∃ (F5 : Mem), HS w0 F0 w F5 [(sb b21 #[(vi j86.1), (vi j86.2.1), (vi j86.2.2)] 40), (sb b1 #[(vi 0), (vi 0), (vi 0)] 40)] ∧ Mem.le F3 F5 ∧ f.d = [] ∧ f 0 = (.slice (some ⟨b11, o12, none⟩) x0.length n0_0) ∧ f 1 = (.func (.func gx1) fx1.toArray kx1.toArray) ∧ f 4 = (.pointer (some ⟨b1, 0, none⟩)) ∧ f 5 = (.pointer (some ⟨b21, 0, none⟩)) ∧ f 6 = (vi s29.1)) ?_ ?_
     ·refine CWP.cond (t := j59) (by kernel_rfl) e66 (fun hb95 => ?_) (fun hb95 => ?_)
      ·have h96 := cond_t hj93 hb95
       refine Rg [0, 1, 2, 3, 4] ?_
       refine V 28 32 (mv 0 (.slice (some ⟨b11, o12, none⟩) x0.length n0_0) e61) ?_
       refine V 29 3 (mv 6 (vi s29.1) e65) ?_
       obtain ⟨x97, hx98, h100⟩ := bind_some h96
       obtain ⟨hi99, hx98'⟩ := idx_spec hx98
       have hc102 := hE18 _ _ hx98'
       refine V 30 0 (ix 32 28 29 b11 o12 40 3 24 hi99) ?_
       refine V 31 40 (lx 40 30 0 3 true 3 (.agg (kBand x97)) (hs57.pers _ _ ((le32.trans le58) _ _ hF17)) hc102) ?_
       refine RWP.store (ty := 0) (g := none) (by kernel_rfl) rfl (x := (.tmp 5)) (y := (.tmp 31)) (t := 40) (gg := true) (s := 3) (v := (.agg (kBand x97))) (b := b21) (o := 0) (C := #[(vi s29.2.1), (vi s29.2.2.1), (vi s29.2.2.2)]) e64 rfl (by kernel_rfl) hs57 (k := 0) rfl rfl rfl rfl (C' := (kBand x97)) rfl (fun w103 (hs104 : HS w0 F0 w103 F3 [(sb b21 (kBand x97) 40), (sb b1 #[(vi 0), (vi 0), (vi 0)] 40)]) => ?_)
       refine RWP.nil ?_
       obtain rfl := some_inj h100
       exact .inl ⟨rfl, F3, hs104, (Mem.le.refl _), e60, e61, e62, e63, e64, e65⟩
      ·have h105 := cond_f hj93 hb95
       refine Sc ?_
       obtain rfl := some_inj h105
       exact .inl ⟨rfl, F3, hs57, (Mem.le.refl _), e60, e61, e62, e63, e64, e65⟩
     ·rintro f w83 ⟨F5, hs84, le85, e87, e88, e89, e90, e91, e92⟩
      refine blockQ_nrm ?_
      refine thenQ_nrm ?_
      refine Rg [0, 1, 2] ?_
      refine V 18 3 (mv 6 (vi s29.1) e92) ?_
      refine V 19 3 (run_add (t := 3) (t' := 3) (x := (.tmp 18)) (y := (.const (vi 1))) (k := .i64) (a := s29.1) (b := 1) rfl rfl) ?_
      refine V 6 3 (ma 19 (vi (W64 (s29.1 + 1)))) ?_
      refine RWP.nil ?_
      have hn106 := iter_next h94 hnx51
      exact ⟨m48, Nat.lt_succ_self _, ((W64 (s29.1 + 1)), j86.1, j86.2.1, j86.2.2), F5, hn106, hs84, ((le32.trans le58).trans le85), e87, e88, e89, e90, e91, rfl⟩
   ·have h107 := cond_f hb50 hb52
    refine CWP.exit (by kernel_rfl) ?_
    refine thenQ_ex ?_
    refine thenQ_ex ?_
    refine blockQ_hit rfl ?_
    have ho108 := iter_done h107 hnx51
    exact .inl ⟨rfl, (s29.1, s29.2.1, s29.2.2.1, s29.2.2.2), F1, ho108, hs31, le32, e33, e36, e37⟩
  ·rintro f w40 ⟨s39, F2, rfl, hs41, le42, e43, e44, e45⟩
   have h109 := k_done h28
   refine thenQ_nrm ?_
   refine Sq (Rg [0, 1] ?_)
   refine V 32 40 (ld 40 5 b21 0 true 3 (.agg #[(vi s39.2.1), (vi s39.2.2.1), (vi s39.2.2.2)]) (hs41.ownAt (k := 0) rfl) e45) ?_
   refine RWP.store (ty := 0) (g := none) (by kernel_rfl) rfl (x := (.tmp 4)) (y := (.tmp 32)) (t := 40) (gg := true) (s := 3) (v := (.agg #[(vi s39.2.1), (vi s39.2.2.1), (vi s39.2.2.2)])) (b := b1) (o := 0) (C := #[(vi 0), (vi 0), (vi 0)]) e44 rfl (by kernel_rfl) hs41 (k := 1) rfl rfl rfl rfl (C' := #[(vi s39.2.1), (vi s39.2.2.1), (vi s39.2.2.2)]) rfl (fun w110 (hs111 : HS w0 F0 w110 F2 [(sb b21 #[(vi s39.2.1), (vi s39.2.2.1), (vi s39.2.2.2)] 40), (sb b1 #[(vi s39.2.1), (vi s39.2.2.1), (vi s39.2.2.2)] 40)]) => ?_)
   refine Nt ?_
   refine CWP.ret (by kernel_rfl) ?_
   have hfin := some_inj h109
   subst hfin
   exact ⟨e43, (.agg #[(vi s39.2.1), (vi s39.2.2.1), (vi s39.2.2.2)]), res_of (l := [.cell 4 40]) (by kernel_rfl) (vs := [(.agg #[(vi s39.2.1), (vi s39.2.2.1), (vi s39.2.2.2)])]) ⟨b1, 0, e44, run_loadVar' (t := 40) (g := true) (s := 3) (by kernel_rfl) (hs111.ownAt (k := 1) rfl) rfl (by decide), trivial⟩, (.agg #[(vi s39.2.1), (vi s39.2.2.1), (vi s39.2.2.2)]), F2, rfl, hs111.clear, rfl⟩
end Go.Proofs.YtlddakefmfcblaaGreatDoor
namespace Go.Proofs.YtlddakefmfcblaaGreatDoor
open Go.Proofs
def cmp_isNaN_int (N : Nat) (x0 : Int) : Option Bool :=
 some (x0 != x0)
theorem co_cmp_isNaN_int : CallOk Tryz.prog 108 := fun _ _ => by kernel_rfl
set_option maxHeartbeats 4000000 in
set_option maxRecDepth 100000 in
theorem c_cmp_isNaN_int (N : Nat) (w0 : World) (F0 : Mem) (hF : ∀ b o, F0 b = some o → w0.heap[b]? = some o) (x0 : Int) (r : Bool) (h : cmp_isNaN_int N x0 = some r) :
  Calls Tryz.prog 108 ([(vi x0)] : List Value).toArray w0 (FRet w0 F0 fun F' v => v = (.bool r)) := by
 have hs0 := HS.start hF
 refine calls_of (n := 6) (c := bodyOf Tryz.f108) Tryz.func108 (by kernel_rfl) (by kernel_rfl) (by kernel_rfl) ?_
 refine Sq (Rg [0] ?_)
 refine V 2 4 (mc (.bool false) (.bool false)) ?_
 refine Nss (Rg [0, 1, 2, 3] ?_)
 refine V 3 3 (mv 0 (vi x0)) ?_
 refine V 4 3 (mv 0 (vi x0)) ?_
 refine V 5 4 (run_neq (t := 3) (t' := 3) (x := (.tmp 3)) (y := (.tmp 4)) (k := .i64) (a := x0) (b := x0) rfl rfl) ?_
 refine V 2 4 (ma 5 (.bool (x0 != x0))) ?_
 refine Nt ?_
 refine CWP.ret (by kernel_rfl) ?_
 have hfin := some_inj h
 subst hfin
 exact ⟨rfl, (.bool (x0 != x0)), res_of (l := [.tmp 2]) (by kernel_rfl) (vs := [(.bool (x0 != x0))]) ⟨rfl, trivial⟩, (.bool (x0 != x0)), F0, rfl, hs0.clear, rfl⟩
end Go.Proofs.YtlddakefmfcblaaGreatDoor
namespace Go.Proofs.YtlddakefmfcblaaGreatDoor
open Go.Proofs
def cmp_Compare_int (N : Nat) (x0 : Int) (x1 : Int) : Option Int :=
 ((cmp_isNaN_int N x0).bind fun r1 => ((cmp_isNaN_int N x1).bind fun r9 => (bif r1 then (bif r9 then some 0 else some (-1)) else (bif r9 then some 1 else (bif (decide (x0 < x1)) then some (-1) else (bif (decide (x0 > x1)) then some 1 else some 0))))))
theorem co_cmp_Compare_int : CallOk Tryz.prog 72 := fun _ _ => by kernel_rfl
set_option maxHeartbeats 4000000 in
set_option maxRecDepth 100000 in
theorem c_cmp_Compare_int (N : Nat) (w0 : World) (F0 : Mem) (hF : ∀ b o, F0 b = some o → w0.heap[b]? = some o) (x0 : Int) (x1 : Int) (r : Int) (h : cmp_Compare_int N x0 x1 = some r) :
  Calls Tryz.prog 72 ([(vi x0), (vi x1)] : List Value).toArray w0 (FRet w0 F0 fun F' v => v = (vi r)) := by
 have hs0 := HS.start hF
 refine calls_of (n := 20) (c := bodyOf Tryz.f72) Tryz.func72 (by kernel_rfl) (by kernel_rfl) (by kernel_rfl) ?_
 refine Sq (Rg [0] ?_)
 refine V 4 3 (mc (vi 0) (vi 0)) ?_
 refine Nss (Rg [0, 1, 2] ?_)
 refine V 7 3 (mv 0 (vi x0)) ?_
 obtain ⟨r1, hr2, h3⟩ := bind_some h
 refine Cl 8 4 108 #[(.tmp 7)] #[3] co_cmp_isNaN_int hs0 (c_cmp_isNaN_int N w0 F0 hs0.pers (x0) _ hr2) ?_
 intro v4 F1 w5 hs6 le7 hp8
 obtain rfl := hp8
 refine V 5 4 (ma 8 (.bool r1)) ?_
 refine Nss (Rg [0, 1, 2] ?_)
 refine V 9 3 (mv 1 (vi x1)) ?_
 obtain ⟨r9, hr10, h11⟩ := bind_some h3
 refine Cl 10 4 108 #[(.tmp 9)] #[3] co_cmp_isNaN_int hs6 (c_cmp_isNaN_int N w5 F1 hs6.pers (x1) _ hr10) ?_
 intro v12 F2 w13 hs14 le15 hp16
 obtain rfl := hp16
 refine V 6 4 (ma 10 (.bool r9)) ?_
 refine Nss ?_
 refine Sq (Rg [0] ?_)
 refine V 11 4 (mv 5 (.bool r1)) ?_
 refine Nt ?_
 refine CWP.cond (t := r1) (by kernel_rfl) rfl (fun hb17 => ?_) (fun hb17 => ?_)
 ·have h18 := cond_t h11 hb17
  refine Sq ?_
  refine Sq (Rg [0] ?_)
  refine V 12 4 (mv 6 (.bool r9)) ?_
  refine Nt ?_
  refine CWP.cond (t := r9) (by kernel_rfl) rfl (fun hb19 => ?_) (fun hb19 => ?_)
  ·have h20 := cond_t h18 hb19
   refine Sq (Rg [0] ?_)
   refine V 4 3 (mc (vi 0) (vi 0)) ?_
   refine Nt ?_
   refine CWP.ret (by kernel_rfl) ?_
   refine thenQ_ret ?_
   refine thenQ_ret ?_
   have hfin := some_inj h20
   subst hfin
   exact ⟨rfl, (vi 0), res_of (l := [.tmp 4]) (by kernel_rfl) (vs := [(vi 0)]) ⟨rfl, trivial⟩, (vi 0), F2, rfl, hs14.clear, rfl⟩
  ·have h21 := cond_f h18 hb19
   refine Sc ?_
   refine thenQ_nrm ?_
   refine Sq (Rg [0] ?_)
   refine V 4 3 (mc (vi (-1)) (vi (-1))) ?_
   refine Nt ?_
   refine CWP.ret (by kernel_rfl) ?_
   refine thenQ_ret ?_
   have hfin := some_inj h21
   subst hfin
   exact ⟨rfl, (vi (-1)), res_of (l := [.tmp 4]) (by kernel_rfl) (vs := [(vi (-1))]) ⟨rfl, trivial⟩, (vi (-1)), F2, rfl, hs14.clear, rfl⟩
 ·have h22 := cond_f h11 hb17
  refine Sc ?_
  refine thenQ_nrm ?_
  refine Sq ?_
  refine Sq (Rg [0] ?_)
  refine V 13 4 (mv 6 (.bool r9)) ?_
  refine Nt ?_
  refine CWP.cond (t := r9) (by kernel_rfl) rfl (fun hb23 => ?_) (fun hb23 => ?_)
  ·have h24 := cond_t h22 hb23
   refine Sq (Rg [0] ?_)
   refine V 4 3 (mc (vi 1) (vi 1)) ?_
   refine Nt ?_
   refine CWP.ret (by kernel_rfl) ?_
   refine thenQ_ret ?_
   have hfin := some_inj h24
   subst hfin
   exact ⟨rfl, (vi 1), res_of (l := [.tmp 4]) (by kernel_rfl) (vs := [(vi 1)]) ⟨rfl, trivial⟩, (vi 1), F2, rfl, hs14.clear, rfl⟩
  ·have h25 := cond_f h22 hb23
   refine Sc ?_
   refine thenQ_nrm ?_
   refine Sq ?_
   refine Sq (Rg [0, 1, 2] ?_)
   refine V 14 3 (mv 0 (vi x0)) ?_
   refine V 15 3 (mv 1 (vi x1)) ?_
   refine V 16 4 (run_lss (t := 3) (t' := 3) (x := (.tmp 14)) (y := (.tmp 15)) (k := .i64) (a := x0) (b := x1) rfl rfl) ?_
   refine Nt ?_
   refine CWP.cond (t := (decide (x0 < x1))) (by kernel_rfl) rfl (fun hb26 => ?_) (fun hb26 => ?_)
   ·have h27 := cond_t h25 hb26
    refine Sq (Rg [0] ?_)
    refine V 4 3 (mc (vi (-1)) (vi (-1))) ?_
    refine Nt ?_
    refine CWP.ret (by kernel_rfl) ?_
    refine thenQ_ret ?_
    have hfin := some_inj h27
    subst hfin
    exact ⟨rfl, (vi (-1)), res_of (l := [.tmp 4]) (by kernel_rfl) (vs := [(vi (-1))]) ⟨rfl, trivial⟩, (vi (-1)), F2, rfl, hs14.clear, rfl⟩
   ·have h28 := cond_f h25 hb26
    refine Sc ?_
    refine thenQ_nrm ?_
    refine Sq ?_
    refine Sq (Rg [0, 1, 2] ?_)
    refine V 17 3 (mv 0 (vi x0)) ?_
    refine V 18 3 (mv 1 (vi x1)) ?_
    refine V 19 4 (run_gtr (t := 3) (t' := 3) (x := (.tmp 17)) (y := (.tmp 18)) (k := .i64) (a := x0) (b := x1) rfl rfl) ?_
    refine Nt ?_
    refine CWP.cond (t := (decide (x0 > x1))) (by kernel_rfl) rfl (fun hb29 => ?_) (fun hb29 => ?_)
    ·have h30 := cond_t h28 hb29
     refine Sq (Rg [0] ?_)
     refine V 4 3 (mc (vi 1) (vi 1)) ?_
     refine Nt ?_
     refine CWP.ret (by kernel_rfl) ?_
     refine thenQ_ret ?_
     have hfin := some_inj h30
     subst hfin
     exact ⟨rfl, (vi 1), res_of (l := [.tmp 4]) (by kernel_rfl) (vs := [(vi 1)]) ⟨rfl, trivial⟩, (vi 1), F2, rfl, hs14.clear, rfl⟩
    ·have h31 := cond_f h28 hb29
     refine Sc ?_
     refine thenQ_nrm ?_
     refine Sq (Rg [0] ?_)
     refine V 4 3 (mc (vi 0) (vi 0)) ?_
     refine Nt ?_
     refine CWP.ret (by kernel_rfl) ?_
     have hfin := some_inj h31
     subst hfin
     exact ⟨rfl, (vi 0), res_of (l := [.tmp 4]) (by kernel_rfl) (vs := [(vi 0)]) ⟨rfl, trivial⟩, (vi 0), F2, rfl, hs14.clear, rfl⟩
end Go.Proofs.YtlddakefmfcblaaGreatDoor
namespace Go.Proofs.YtlddakefmfcblaaGreatDoor
open Go.Proofs
def air_Nearest_2 (N : Nat) (x0 : Band) (x1 : Band) (z0 : (Band → Option Int)) : Option Int :=
 (((z0 x0).bind fun r17 => ((z0 x1).bind fun r25 => ((cmp_Compare_int N r17 r25).bind fun r33 => some r33))).bind fun j12 => some j12)
theorem co_air_Nearest_2 : CallOk Tryz.prog 71 := fun _ _ => by kernel_rfl
set_option maxHeartbeats 4000000 in
set_option maxRecDepth 100000 in
theorem c_air_Nearest_2 (N : Nat) (w0 : World) (F0 : Mem) (hF : ∀ b o, F0 b = some o → w0.heap[b]? = some o) (x0 : Band) (x1 : Band) (bz0 : Nat) (z0 : (Band → Option Int)) (gz0_0 : FuncId) (fz0_0 : List Value) (kz0_0 : List Value) (hoz0_0 : CallOk Tryz.prog gz0_0) (hpz0_0 : Fn90 F0 gz0_0 fz0_0 kz0_0 z0) (hz0 : F0 bz0 = some (oc #[(.func (.func gz0_0) fz0_0.toArray kz0_0.toArray)] 90)) (r : Int) (h : air_Nearest_2 N x0 x1 z0 = some r) :
  Calls Tryz.prog 71 ([(.agg (kBand x0)), (.agg (kBand x1)), (.pointer (some ⟨bz0, 0, none⟩))] : List Value).toArray w0 (FRet w0 F0 fun F' v => v = (vi r)) := by
 have hs0 := HS.start hF
 refine calls_of (n := 13) (c := bodyOf Tryz.f71) Tryz.func71 (by kernel_rfl) (by kernel_rfl) (by kernel_rfl) ?_
 refine Sq (Rg [0, 1, 2] ?_)
 refine Bx 3 0 0 40 (kBand x0) hs0 (fun b1 w2 (hs3 : HS w0 F0 w2 F0 [(sb b1 (kBand x0) 40)]) => ?_)
 refine Bx 4 0 1 40 (kBand x1) hs3 (fun b4 w5 (hs6 : HS w0 F0 w5 F0 [(sb b4 (kBand x1) 40), (sb b1 (kBand x0) 40)]) => ?_)
 refine V 5 3 (mc (vi 0) (vi 0)) ?_
 refine Nss ?_
 obtain ⟨j12, hj15, h16⟩ := bind_some h
 refine CWP.regionD (by kernel_rfl) (by kernel_rfl) (by kernel_rfl) (by kernel_rfl) (z := 8) (F := F0) (Lc := [(sb b4 (kBand x1) 40), (sb b1 (kBand x0) 40)]) (Lz := []) (l := [false, false, false, false, false, false, false, false]) (fuel := 8) (by kernel_rfl) (by kernel_rfl) hs6 (by simp) (by simp) (fun f w => ∃ (F1 : Mem), HS w0 F0 w F1 [] ∧ Mem.le F0 F1 ∧ f.d = [] ∧ f 5 = (vi j12)) (fun wd7 hw8 => ?_) ?_
 ·refine Dt 0 6 90 _ (fun _ hq => ld 90 2 bz0 0 false 1 (.func (.func gz0_0) fz0_0.toArray kz0_0.toArray) (hq.1.1 _ _ hz0)) ?_
  refine Dt 1 7 40 _ (fun _ hq => ld 40 3 b1 0 true 3 (.agg (kBand x0)) (hq.1.2 1 _ _ rfl)) ?_
  refine Dt 3 9 90 _ (fun _ hq => ld 90 2 bz0 0 false 1 (.func (.func gz0_0) fz0_0.toArray kz0_0.toArray) (hq.1.1 _ _ hz0)) ?_
  refine Dt 4 10 40 _ (fun _ hq => ld 40 4 b4 0 true 3 (.agg (kBand x1)) (hq.1.2 0 _ _ rfl)) ?_
  refine DWP.one (i := 2) (by kernel_rfl) ?_
  obtain ⟨r17, hr18, h19⟩ := bind_some hj15
  refine DStep.call (l' := [true, true, true, true, true, false, false, false]) (zd := true) (by kernel_rfl) (by kernel_rfl) (by kernel_rfl) (dst := (some 8)) (ty := 3) (g := none) (by kernel_rfl) rfl (f0 := (.tmp 6)) (aos := #[(.tmp 7)]) (ats := #[40]) (fid := gz0_0) (first := fz0_0.toArray) (cap := kz0_0.toArray) (args := (fz0_0 ++ (([(.agg (kBand x0))] : List Value) ++ kz0_0))) rfl hoz0_0 (app_args2 (l := [(.agg (kBand x0))]) (fi := fz0_0) (k := kz0_0) (rfl)) hw8 (hpz0_0 wd7 F0 (x0) _ (Mem.le.refl _) hw8.pers hr18) ?_
  intro v20 F2 w21 hs22 le23 hp24
  obtain rfl := hp24
  refine DWP.one (i := 5) (by kernel_rfl) ?_
  obtain ⟨r25, hr26, h27⟩ := bind_some h19
  refine DStep.call (l' := [true, true, true, true, true, true, false, false]) (zd := true) (by kernel_rfl) (by kernel_rfl) (by kernel_rfl) (dst := (some 11)) (ty := 3) (g := none) (by kernel_rfl) rfl (f0 := (.tmp 9)) (aos := #[(.tmp 10)]) (ats := #[40]) (fid := gz0_0) (first := fz0_0.toArray) (cap := kz0_0.toArray) (args := (fz0_0 ++ (([(.agg (kBand x1))] : List Value) ++ kz0_0))) rfl hoz0_0 (app_args2 (l := [(.agg (kBand x1))]) (fi := fz0_0) (k := kz0_0) (rfl)) hs22 (hpz0_0 w21 F2 (x1) _ le23 hs22.pers hr26) ?_
  intro v28 F3 w29 hs30 le31 hp32
  obtain rfl := hp32
  refine DWP.one (i := 6) (by kernel_rfl) ?_
  obtain ⟨r33, hr34, h35⟩ := bind_some h27
  refine DStep.call (l' := [true, true, true, true, true, true, true, false]) (zd := true) (by kernel_rfl) (by kernel_rfl) (by kernel_rfl) (dst := (some 12)) (ty := 3) (g := none) (by kernel_rfl) rfl (f0 := (.func 72)) (aos := #[(.tmp 8), (.tmp 11)]) (ats := #[3, 3]) (fid := 72) (first := #[]) (cap := #[]) (args := [(vi r17), (vi r25)]) rfl co_cmp_Compare_int (rfl) hs30 (c_cmp_Compare_int N w29 F3 hs30.pers (r17) (r25) _ hr34) ?_
  intro v36 F4 w37 hs38 le39 hp40
  obtain rfl := hp40
  refine Dt 7 5 3 _ (fun _ hq => ma 12 (vi r33)) ?_
  obtain rfl := some_inj h35
  have hs41 : HS w0 F0 w37 F4 [(sb b1 (kBand x0) 40)] := hs38.drop 0
  have hs42 : HS w0 F0 w37 F4 [] := hs41.drop 0
  exact DWP.done (by kernel_rfl) ⟨F4, hs42, ((le23.trans le31).trans le39), rfl, rfl⟩
 ·rintro f w9 ⟨F1, hs10, le11, e13, e14⟩
  refine thenQ_nrm ?_
  refine CWP.ret (by kernel_rfl) ?_
  have hfin := some_inj h16
  subst hfin
  exact ⟨e13, (vi j12), res_of (l := [.tmp 5]) (by kernel_rfl) (vs := [(vi j12)]) ⟨e14, trivial⟩, (vi j12), F1, rfl, hs10.clear, rfl⟩
end Go.Proofs.YtlddakefmfcblaaGreatDoor
namespace Go.Proofs.YtlddakefmfcblaaGreatDoor
open Go.Proofs
def air_Nearest (N : Nat) (x0 : (List Band)) (x1 : Int) : Option (Int × Int × Int) :=
 ((air_wrongBands N x0 x1).bind fun r4 => (bif (r4 != 0) then some (0, 0, r4) else (bif ((x0.length : Int) == 0) then some (0, 0, 3) else ((slices_MinFunc_api_Band_api_Band N x0 (fun y0 y1 => air_Nearest_2 N y0 y1 (fun y0 => air_Nearest_1 N y0 x1))).bind fun r29 => (((air_Nearest_1 N r29 x1).bind fun r54 => some r54).bind fun j47 => some (r29.ID, j47, 0))))))
theorem co_air_Nearest : CallOk Tryz.prog 24 := fun _ _ => by kernel_rfl
set_option maxHeartbeats 4000000 in
set_option maxRecDepth 100000 in
theorem c_air_Nearest (N : Nat) (w0 : World) (F0 : Mem) (hF : ∀ b o, F0 b = some o → w0.heap[b]? = some o) (x0 : (List Band)) (a0_0 : Option Addr) (n0_0 : Nat) (hb0_0 : LC x0.length n0_0) (hs0_0 : SlA tBand F0 a0_0 x0) (x1 : Int) (r : (Int × Int × Int)) (h : air_Nearest N x0 x1 = some r) :
  Calls Tryz.prog 24 ([(.slice a0_0 x0.length n0_0), (vi x1)] : List Value).toArray w0 (FRet w0 F0 fun F' v => v = (.tuple #[(vi r.1), (vi r.2.1), (vi r.2.2)])) := by
 have hs0 := HS.start hF
 refine calls_of (n := 28) (c := bodyOf Tryz.f24) Tryz.func24 (by kernel_rfl) (by kernel_rfl) (by kernel_rfl) ?_
 refine Sq (Rg [0, 1, 2, 3] ?_)
 refine Bx 3 0 1 3 #[(vi x1)] hs0 (fun b1 w2 (hs3 : HS w0 F0 w2 F0 [(sb b1 #[(vi x1)] 3)]) => ?_)
 refine V 4 3 (mc (vi 0) (vi 0)) ?_
 refine V 5 3 (mc (vi 0) (vi 0)) ?_
 refine V 6 23 (mc (vi 0) (vi 0)) ?_
 refine Nss ?_
 refine Sq (Rg [0, 1, 2, 3] ?_)
 refine V 10 32 (mv 0 (.slice a0_0 x0.length n0_0)) ?_
 refine V 11 3 (ld 3 3 b1 0 false 1 (vi x1) (hs3.ownAt (k := 0) rfl)) ?_
 obtain ⟨r4, hr5, h6⟩ := bind_some h
 refine Cl 12 23 68 #[(.tmp 10), (.tmp 11)] #[32, 3] co_air_wrongBands hs3 (c_air_wrongBands N w2 F0 hs3.pers (x0) a0_0 n0_0 hb0_0 hs0_0 (x1) _ hr5) ?_
 intro v7 F1 w8 hs9 le10 hp11
 obtain rfl := hp11
 refine V 7 23 (ma 12 (vi r4)) ?_
 refine Nss (Rg [0, 1] ?_)
 refine V 13 23 (mv 7 (vi r4)) ?_
 refine V 14 4 (run_neq (t := 23) (t' := 23) (x := (.tmp 13)) (y := (.const (vi 0))) (k := .i64) (a := r4) (b := 0) rfl rfl) ?_
 refine Nt ?_
 refine CWP.cond (t := (r4 != 0)) (by kernel_rfl) rfl (fun hb12 => ?_) (fun hb12 => ?_)
 ·have h13 := cond_t h6 hb12
  refine Sq (Rg [0, 1, 2, 3] ?_)
  refine V 15 23 (mv 7 (vi r4)) ?_
  refine V 4 3 (mc (vi 0) (vi 0)) ?_
  refine V 5 3 (mc (vi 0) (vi 0)) ?_
  refine V 6 23 (ma 15 (vi r4)) ?_
  refine Nt ?_
  refine CWP.ret (by kernel_rfl) ?_
  refine thenQ_ret ?_
  have hfin := some_inj h13
  subst hfin
  exact ⟨rfl, (.tuple #[(vi 0), (vi 0), (vi r4)]), res_of (l := [.tmp 4, .tmp 5, .tmp 6]) (by kernel_rfl) (vs := [(vi 0), (vi 0), (vi r4)]) ⟨rfl, ⟨rfl, ⟨rfl, trivial⟩⟩⟩, (.tuple #[(vi 0), (vi 0), (vi r4)]), F1, rfl, hs9.clear, rfl⟩
 ·have h14 := cond_f h6 hb12
  refine Sc ?_
  refine thenQ_nrm ?_
  refine Sq ?_
  refine Sq (Rg [0, 1, 2] ?_)
  refine V 16 32 (mv 0 (.slice a0_0 x0.length n0_0)) ?_
  refine V 17 3 (ln 16 32 a0_0 x0.length n0_0 40 3 24) ?_
  refine V 18 4 (run_eql (t := 3) (t' := 3) (x := (.tmp 17)) (y := (.const (vi 0))) (k := .i64) (a := (x0.length : Int)) (b := 0) rfl rfl) ?_
  refine Nt ?_
  refine CWP.cond (t := ((x0.length : Int) == 0)) (by kernel_rfl) rfl (fun hb15 => ?_) (fun hb15 => ?_)
  ·have h16 := cond_t h14 hb15
   refine Sq (Rg [0, 1, 2] ?_)
   refine V 4 3 (mc (vi 0) (vi 0)) ?_
   refine V 5 3 (mc (vi 0) (vi 0)) ?_
   refine V 6 23 (mc (vi 3) (vi 3)) ?_
   refine Nt ?_
   refine CWP.ret (by kernel_rfl) ?_
   refine thenQ_ret ?_
   have hfin := some_inj h16
   subst hfin
   exact ⟨rfl, (.tuple #[(vi 0), (vi 0), (vi 3)]), res_of (l := [.tmp 4, .tmp 5, .tmp 6]) (by kernel_rfl) (vs := [(vi 0), (vi 0), (vi 3)]) ⟨rfl, ⟨rfl, ⟨rfl, trivial⟩⟩⟩, (.tuple #[(vi 0), (vi 0), (vi 3)]), F1, rfl, hs9.clear, rfl⟩
  ·have h17 := cond_f h14 hb15
   refine Sc ?_
   refine thenQ_nrm ?_
   refine Sq (Rg [0, 1, 2] ?_)
   refine V 19 90 (run_makeFunc (fn := .func 69) (first := #[]) (cap := #[(.tmp 3)]) (fl := []) (cl := [(.pointer (some ⟨b1, 0, none⟩))]) rfl (rfl)) ?_
   refine RWP.alloc (dst := (some 8)) (ty := 0) (g := none) (by kernel_rfl) rfl (t := 90) (z := .nilFunc) (by kernel_rfl) (C := #[.nilFunc]) rfl hs9 (fun b18 w19 (hs20 : HS w0 F0 w19 F1 [(sb b18 #[.nilFunc] 90), (sb b1 #[(vi x1)] 3)]) => ?_)
   refine RWP.store (ty := 0) (g := none) (by kernel_rfl) rfl (x := (.tmp 8)) (y := (.tmp 19)) (t := 90) (gg := false) (s := 1) (v := (.func (.func 69) #[] #[(.pointer (some ⟨b1, 0, none⟩))])) (b := b18) (o := 0) (C := #[.nilFunc]) rfl rfl (by kernel_rfl) hs20 (k := 0) rfl rfl rfl rfl (C' := #[(.func (.func 69) #[] #[(.pointer (some ⟨b1, 0, none⟩))])]) rfl (fun w21 (hs22 : HS w0 F0 w21 F1 [(sb b18 #[(.func (.func 69) #[] #[(.pointer (some ⟨b1, 0, none⟩))])] 90), (sb b1 #[(vi x1)] 3)]) => ?_)
   refine Nss (Rg [0, 1, 2, 3, 4] ?_)
   refine V 20 32 (mv 0 (.slice a0_0 x0.length n0_0)) ?_
   refine V 21 93 (run_makeFunc (fn := .func 71) (first := #[]) (cap := #[(.tmp 8)]) (fl := []) (cl := [(.pointer (some ⟨b18, 0, none⟩))]) rfl (rfl)) ?_
   obtain ⟨F2, hs23, le24, hF25⟩ : ∃ Fq, HS w0 F0 w21 Fq [(sb b18 #[(.func (.func 69) #[] #[(.pointer (some ⟨b1, 0, none⟩))])] 90)] ∧ Mem.le F1 Fq ∧ Fq b1 = some (oc #[(vi x1)] 3) := HS.freezeC hs22 (k := 1) rfl
   obtain ⟨F3, hs26, le27, hF28⟩ : ∃ Fq, HS w0 F0 w21 Fq [] ∧ Mem.le F2 Fq ∧ Fq b18 = some (oc #[(.func (.func 69) #[] #[(.pointer (some ⟨b1, 0, none⟩))])] 90) := HS.freezeC hs23 (k := 0) rfl
   obtain ⟨r29, hr30, h31⟩ := bind_some h17
   refine Cl 22 40 70 #[(.tmp 20), (.tmp 21)] #[32, 93] co_slices_MinFunc_api_Band_api_Band hs26 (c_slices_MinFunc_api_Band_api_Band N w21 F3 hs26.pers (x0) a0_0 n0_0 hb0_0 (SlA.mono hs0_0 ((le10.trans le24).trans le27)) 71 [] [(.pointer (some ⟨b18, 0, none⟩))] (fun y0 y1 => air_Nearest_2 N y0 y1 (fun y0 => air_Nearest_1 N y0 x1)) co_air_Nearest_2 (fun w1 F1 y0 y1 r le1 pe1 hr1 => c_air_Nearest_2 N w1 F1 pe1  y0 y1 b18 (fun y0 => air_Nearest_1 N y0 x1) 69 [] [(.pointer (some ⟨b1, 0, none⟩))] co_air_Nearest_1 (Fn90.mono (fun w1 F1 y0 r le1 pe1 hr1 => c_air_Nearest_1 N w1 F1 pe1  y0 b1 x1 (le1 _ _ (le27 _ _ hF25)) r hr1) le1) (le1 _ _ hF28) r hr1) _ hr30) ?_
   intro v32 F4 w33 hs34 le35 hp36
   obtain rfl := hp36
   refine Al 9 0 40 #[(vi 0), (vi 0), (vi 0)] hs34 (fun b37 w38 (hs39 : HS w0 F0 w38 F4 [(sb b37 #[(vi 0), (vi 0), (vi 0)] 40)]) => ?_)
   refine RWP.store (ty := 0) (g := none) (by kernel_rfl) rfl (x := (.tmp 9)) (y := (.tmp 22)) (t := 40) (gg := true) (s := 3) (v := (.agg (kBand r29))) (b := b37) (o := 0) (C := #[(vi 0), (vi 0), (vi 0)]) rfl rfl (by kernel_rfl) hs39 (k := 0) rfl rfl rfl rfl (C' := (kBand r29)) rfl (fun w40 (hs41 : HS w0 F0 w40 F4 [(sb b37 (kBand r29) 40)]) => ?_)
   refine Nss ?_
   obtain ⟨j47, hj52, h53⟩ := bind_some h31
   refine CWP.regionD (by kernel_rfl) (by kernel_rfl) (by kernel_rfl) (by kernel_rfl) (z := 8) (F := F4) (Lc := [(sb b37 (kBand r29) 40)]) (Lz := []) (l := [false, false, false, false, false, false, false, false]) (fuel := 8) (by kernel_rfl) (by kernel_rfl) hs41 (by simp) (by simp) (fun f w => ∃ (F5 : Mem), HS w0 F0 w F5 [] ∧ Mem.le F4 F5 ∧ f.d = [] ∧ f 4 = (vi r29.ID) ∧ f 5 = (vi j47) ∧ f 6 = (vi 0)) (fun wd42 hw43 => ?_) ?_
   ·refine Dt 0 23 0 (.pointer (some ⟨b37, 0, none⟩)) (fun _ hq => fa 40 9 0 0 1 b37 0 0) ?_
    refine Dt 1 24 3 _ (fun _ hq => ld 3 23 b37 0 false 1 (vi r29.ID) (hq.1.2 0 _ _ rfl)) ?_
    refine Dt 2 25 90 _ (fun _ hq => ld 90 8 b18 0 false 1 (.func (.func 69) #[] #[(.pointer (some ⟨b1, 0, none⟩))]) (hq.1.1 _ _ (le35 _ _ hF28))) ?_
    refine Dt 3 26 40 _ (fun _ hq => ld 40 9 b37 0 true 3 (.agg (kBand r29)) (hq.1.2 0 _ _ rfl)) ?_
    refine DWP.one (i := 4) (by kernel_rfl) ?_
    obtain ⟨r54, hr55, h56⟩ := bind_some hj52
    refine DStep.call (l' := [true, true, true, true, true, false, false, false]) (zd := true) (by kernel_rfl) (by kernel_rfl) (by kernel_rfl) (dst := (some 27)) (ty := 3) (g := none) (by kernel_rfl) rfl (f0 := (.tmp 25)) (aos := #[(.tmp 26)]) (ats := #[40]) (fid := 69) (first := #[]) (cap := #[(.pointer (some ⟨b1, 0, none⟩))]) (args := [(.agg (kBand r29)), (.pointer (some ⟨b1, 0, none⟩))]) rfl co_air_Nearest_1 (rfl) hw43 (c_air_Nearest_1 N wd42 F4 hw43.pers (r29) b1 x1 ((le27.trans le35) _ _ hF25) _ hr55) ?_
    intro v57 F6 w58 hs59 le60 hp61
    obtain rfl := hp61
    refine Dt 5 4 3 _ (fun _ hq => ma 24 (vi r29.ID)) ?_
    refine Dt 6 5 3 _ (fun _ hq => ma 27 (vi r54)) ?_
    refine Dt 7 6 23 _ (fun _ hq => mc (vi 0) (vi 0)) ?_
    obtain rfl := some_inj h56
    have hs62 : HS w0 F0 w58 F6 [] := hs59.drop 0
    exact DWP.done (by kernel_rfl) ⟨F6, hs62, le60, rfl, rfl, rfl, rfl⟩
   ·rintro f w44 ⟨F5, hs45, le46, e48, e49, e50, e51⟩
    refine thenQ_nrm ?_
    refine CWP.ret (by kernel_rfl) ?_
    have hfin := some_inj h53
    subst hfin
    exact ⟨e48, (.tuple #[(vi r29.ID), (vi j47), (vi 0)]), res_of (l := [.tmp 4, .tmp 5, .tmp 6]) (by kernel_rfl) (vs := [(vi r29.ID), (vi j47), (vi 0)]) ⟨e49, ⟨e50, ⟨e51, trivial⟩⟩⟩, (.tuple #[(vi r29.ID), (vi j47), (vi 0)]), F5, rfl, hs45.clear, rfl⟩
end Go.Proofs.YtlddakefmfcblaaGreatDoor
namespace Go.Proofs.YtlddakefmfcblaaGreatDoor
open Go.Proofs
end Go.Proofs.YtlddakefmfcblaaGreatDoor
namespace Go.Proofs.YtlddakefmfcblaaGreatDoor
open Go.Proofs
end Go.Proofs.YtlddakefmfcblaaGreatDoor
namespace Go.Proofs.YtlddakefmfcblaaGreatDoor
open Go.Proofs
end Go.Proofs.YtlddakefmfcblaaGreatDoor
namespace Go.Proofs.YtlddakefmfcblaaGreatDoor
open Go.Proofs
end Go.Proofs.YtlddakefmfcblaaGreatDoor
namespace Go.Proofs.YtlddakefmfcblaaGreatDoor
def bAt (l : List Band) (i : Nat) : Band := l.getD i { ID := 0, Lo := 0, Hi := 0 }
theorem idx_at {l : List Band} {i : Nat} (h : i < l.length) : idx l (i : Int) = some (bAt l i) := by
 rw [idx_nat h]; unfold bAt; rw [List.getD_eq_getElem?_getD, List.getElem?_eq_getElem h]; rfl
theorem bAt_mem {l : List Band} {i : Nat} (h : i < l.length) : bAt l i ∈ l := by
 unfold bAt; rw [List.getD_eq_getElem?_getD, List.getElem?_eq_getElem h]; exact List.getElem_mem h
theorem mem_bAt {l : List Band} {b : Band} (h : b ∈ l) : ∃ i, i < l.length ∧ b = bAt l i := by
 obtain ⟨i, hi, rfl⟩ := List.getElem_of_mem h
 exact ⟨i, hi, by unfold bAt; rw [List.getD_eq_getElem?_getD, List.getElem?_eq_getElem hi]; rfl⟩
def okBand (b : Band) : Bool := (decide (1 ≤ b.ID) && decide (b.ID ≤ 65535)) && ((decide (1 ≤ b.Lo) && decide (b.Lo ≤ b.Hi)) && decide (b.Hi ≤ 10000000))
def okNext (a b : Band) : Bool := decide (a.ID < b.ID) && decide (a.Hi < b.Lo)
def okAt (l : List Band) (i : Nat) : Bool := okBand (bAt l i) && (decide (i = 0) || okNext (bAt l (i - 1)) (bAt l i))
def vB (l : List Band) : Bool := allB l.length (okAt l) && decide (l.length ≤ 16)
theorem gt_dec (a b : Int) : decide (a > b) = !decide (a ≤ b) := by rw [← decide_not, decide_eq_decide]; omega
theorem lt_dec2 (a b : Int) : decide (a < b) = !decide (b ≤ a) := by rw [← decide_not, decide_eq_decide]; omega
theorem w64p (i : Nat) (h : i < 4611686018427387904) (h0 : 0 < i) : W64 ((i : Int) - 1) = ((i - 1 : Nat) : Int) := by
 rw [W64_id (by omega) (by omega)]; omega
section
variable {N : Nat} {l : List Band}
theorem s_ValidBands (hl : l.length < 4000000000) (hN : 4294967300 < N) : air_ValidBands N l = some (vB l) := by
 unfold air_ValidBands
 rw [iter_check' (n := l.length) (okAt l) false ?_ ?_ (by omega)]
 ·unfold vB
  have : decide ((l.length : Int) ≤ 16) = decide (l.length ≤ 16) := by rw [decide_eq_decide]; omega
  rw [this]
  cases allB l.length (okAt l) <;> rfl
 ·intro i hi
  unfold air_ValidBands_L0
  rw [lt_dec hi, cond_true, idx_at hi, Option.bind_some]
  simp only [m_within, Option.bind_some]
  unfold okAt okBand okNext
  rw [w64s i (by omega), gt_dec]
  by_cases h0 : i = 0
  ·subst h0
   rw [decide_eq_false (show ¬ (((0 : Nat) : Int) > 0) by decide), decide_eq_true (show 0 = 0 from rfl)]
   cases (decide (1 ≤ (bAt l 0).ID) && decide ((bAt l 0).ID ≤ 65535)) <;> cases (decide (1 ≤ (bAt l 0).Lo) && decide ((bAt l 0).Lo ≤ (bAt l 0).Hi)) <;> cases decide ((bAt l 0).Hi ≤ 10000000) <;> rfl
  ·rw [decide_eq_true (show (i : Int) > 0 by omega), decide_eq_false h0, w64p i (by omega) (by omega), idx_at (by omega)]
   simp only [Option.bind_some]
   rw [lt_dec2 (bAt l (i - 1)).ID, lt_dec2 (bAt l (i - 1)).Hi]
   cases (decide (1 ≤ (bAt l i).ID) && decide ((bAt l i).ID ≤ 65535)) <;> cases (decide (1 ≤ (bAt l i).Lo) && decide ((bAt l i).Lo ≤ (bAt l i).Hi)) <;> cases decide ((bAt l i).Hi ≤ 10000000) <;> cases decide ((bAt l i).ID ≤ (bAt l (i - 1)).ID) <;> cases decide ((bAt l i).Lo ≤ (bAt l (i - 1)).Hi) <;> rfl
 ·unfold air_ValidBands_L0
  rw [lt_dec', cond_false]
structure BandR (b : Band) : Prop where
 id1 : 1 ≤ b.ID
 id2 : b.ID ≤ 65535
 lo : 1 ≤ b.Lo
 le : b.Lo ≤ b.Hi
 hi : b.Hi ≤ 10000000
theorem okAt_ok {i : Nat} (h : okAt l i = true) : BandR (bAt l i) ∧ (0 < i → (bAt l (i - 1)).ID < (bAt l i).ID ∧ (bAt l (i - 1)).Hi < (bAt l i).Lo) := by
 unfold okAt okBand okNext at h
 simp only [Bool.and_eq_true, Bool.or_eq_true, decide_eq_true_eq] at h
 refine ⟨⟨h.1.1.1, h.1.1.2, h.1.2.1.1, h.1.2.1.2, h.1.2.2⟩, fun h0 => ?_⟩
 rcases h.2 with h2 | h2
 ·omega
 ·exact h2
theorem vB_ok (h : vB l = true) : l.length ≤ 16 ∧ (∀ b, b ∈ l → BandR b) ∧ ∀ j i, i < j → j < l.length → (bAt l i).ID < (bAt l j).ID ∧ (bAt l i).Hi < (bAt l j).Lo := by
 unfold vB at h
 simp only [Bool.and_eq_true, decide_eq_true_eq] at h
 have hall : ∀ i, i < l.length → BandR (bAt l i) := fun i hi => (okAt_ok (allB_t h.1 hi)).1
 refine ⟨h.2, ?_, ?_⟩
 ·intro b hb
  obtain ⟨i, hi, rfl⟩ := mem_bAt hb
  exact hall i hi
 ·intro j
  induction j with
  | zero => intro i hi; omega
  | succ j ih =>
   intro i hi hj
   have h1 := (okAt_ok (allB_t h.1 hj)).2 (by omega)
   rw [Nat.add_sub_cancel] at h1
   by_cases hij : i = j
   ·subst hij; exact h1
   ·have h2 := ih i (by omega) (by omega)
    have h3 := hall j (by omega)
    exact ⟨by omega, by have := h3.le; omega⟩
def dist (b : Band) (f : Int) : Int := max (max 0 (b.Lo - f)) (f - b.Hi)
def near (f : Int) (m b : Band) : Band := if dist b f < dist m f then b else m
def nearS (l : List Band) (f : Int) : Band := (List.range l.length).foldl (fun m i => near f m (bAt l i)) (bAt l 0)
theorem near_fold (f : Int) (l : List Band) (h0 : 0 < l.length) : ∀ n, n ≤ l.length → ((List.range n).foldl (fun m i => near f m (bAt l i)) (bAt l 0)) ∈ l ∧ ∀ i, i < n → dist ((List.range n).foldl (fun m i => near f m (bAt l i)) (bAt l 0)) f ≤ dist (bAt l i) f := by
 intro n
 induction n with
 | zero => intro _; exact ⟨bAt_mem h0, fun i hi => by omega⟩
 | succ n ih =>
  intro hn
  obtain ⟨h1, h2⟩ := ih (by omega)
  rw [List.range_succ, List.foldl_append]
  simp only [List.foldl_cons, List.foldl_nil]
  generalize (List.range n).foldl (fun m i => near f m (bAt l i)) (bAt l 0) = m at h1 h2 ⊢
  unfold near
  split
  ·rename_i hc
   refine ⟨bAt_mem (by omega), fun i hi => ?_⟩
   by_cases hin : i = n
   ·subst hin; exact Int.le_refl _
   ·have := h2 i (by omega); omega
  ·rename_i hc
   refine ⟨h1, fun i hi => ?_⟩
   by_cases hin : i = n
   ·subst hin; omega
   ·exact h2 i (by omega)
theorem nearS_mem (f : Int) (h0 : 0 < l.length) : nearS l f ∈ l := (near_fold f l h0 l.length (Nat.le_refl _)).1
theorem near_pos {f : Int} {m b : Band} (h : dist b f < dist m f) : near f m b = b := if_pos h
theorem near_neg {f : Int} {m b : Band} (h : ¬ dist b f < dist m f) : near f m b = m := if_neg h
theorem near_first (f : Int) (l : List Band) : near f (bAt l 0) (bAt l 0) = bAt l 0 := by unfold near; split <;> rfl
def wrongS (l : List Band) (f : Int) : Int := if vB l = true then (if 1 ≤ f ∧ f ≤ 10000000 then 0 else 1) else 11
theorem s_wrong (hl : l.length < 4000000000) (hN : 4294967300 < N) (f : Int) : air_wrongBands N l f = some (wrongS l f) := by
 unfold air_wrongBands wrongS
 rw [s_ValidBands hl hN, Option.bind_some, m_within]
 cases vB l with
 | false => rfl
 | true =>
  by_cases hf : 1 ≤ f ∧ f ≤ 10000000
  ·rw [if_pos rfl, if_pos hf, decide_eq_true hf.1, decide_eq_true hf.2]; rfl
  ·rw [if_pos rfl, if_neg hf]
   have : (decide (1 ≤ f) && decide (f ≤ 10000000)) = false := by rw [Bool.and_eq_false_iff, decide_eq_false_iff_not, decide_eq_false_iff_not]; omega
   rw [this]; rfl
def nearestS (l : List Band) (f : Int) : Int × Int × Int := if wrongS l f = 0 then (if l.length = 0 then (0, 0, 3) else ((nearS l f).ID, dist (nearS l f) f, 0)) else (0, 0, wrongS l f)
theorem wrong_ok {f : Int} (h : wrongS l f = 0) : vB l = true ∧ 1 ≤ f ∧ f ≤ 10000000 := by
 unfold wrongS at h
 split at h
 ·split at h
  ·exact ⟨by assumption, by omega, by omega⟩
  ·omega
 ·omega
theorem n1 {b : Band} {f : Int} (hb : BandR b) (h1 : 1 ≤ f) (h2 : f ≤ 10000000) : air_Nearest_1 N b f = some (dist b f) := by
 unfold air_Nearest_1 dist
 have := hb.lo; have := hb.le; have := hb.hi
 rw [W64_id (by omega) (by omega), W64_id (by omega) (by omega)]
theorem cmp_lt (a b : Int) : (cmp_Compare_int N a b).bind (fun r => some (decide (r < 0))) = some (decide (a < b)) := by
 unfold cmp_Compare_int cmp_isNaN_int
 rw [show (a != a) = false by simp, show (b != b) = false by simp]
 simp only [Option.bind_some, cond_false]
 by_cases h : a < b
 ·rw [decide_eq_true h]; rfl
 ·rw [decide_eq_false h, cond_false]
  cases decide (a > b) <;> rfl
theorem n2 {a b : Band} {f : Int} (ha : BandR a) (hb : BandR b) (h1 : 1 ≤ f) (h2 : f ≤ 10000000) : (air_Nearest_2 N a b (fun y0 => air_Nearest_1 N y0 f)).bind (fun r => some (decide (r < 0))) = some (decide (dist a f < dist b f)) := by
 unfold air_Nearest_2
 simp only [n1 ha h1 h2, n1 hb h1 h2, Option.bind_some]
 rw [← cmp_lt (N := N) (dist a f) (dist b f)]
 cases cmp_Compare_int N (dist a f) (dist b f) <;> rfl
theorem s_Min {f : Int} (hv : vB l = true) (h0 : 0 < l.length) (h1 : 1 ≤ f) (h2 : f ≤ 10000000) (hN : 4294967300 < N) : slices_MinFunc_api_Band_api_Band N l (fun y0 y1 => air_Nearest_2 N y0 y1 (fun y0 => air_Nearest_1 N y0 f)) = some (nearS l f) := by
 obtain ⟨h16, hR, _⟩ := vB_ok hv
 unfold slices_MinFunc_api_Band_api_Band
 rw [decide_eq_false (by omega), cond_false, show (0 : Int) = ((0 : Nat) : Int) from rfl, idx_at h0, Option.bind_some]
 let enc : Nat → Band → Int × Int × Int × Int := fun i m => ((i : Int), m.ID, m.Lo, m.Hi)
 let fo : Nat → Band := fun n => (List.range n).foldl (fun m i => near f m (bAt l i)) (bAt l 0)
 obtain ⟨o, ho, rfl⟩ := iter_ex (body := slices_MinFunc_api_Band_api_Band_L0 N l (fun y0 y1 => air_Nearest_2 N y0 y1 (fun y0 => air_Nearest_1 N y0 f)) (bAt l 0)) l.length (fun i s => 1 ≤ i ∧ s = enc i (fo i)) (fun o => o = .done (enc l.length (fo l.length))) (by
  rintro i s hi ⟨hi1, rfl⟩
  by_cases h : i < l.length
  ·refine .inl ⟨enc (i + 1) (fo (i + 1)), ?_, ⟨by omega, rfl⟩, h⟩
   have hm := (near_fold f l h0 i hi).1
   have e1 : fo (i + 1) = near f (fo i) (bAt l i) := by show (List.range (i + 1)).foldl _ _ = _; rw [List.range_succ, List.foldl_append]; rfl
   rw [e1]
   unfold slices_MinFunc_api_Band_api_Band_L0
   show (bif decide ((i : Int) < (l.length : Int)) then _ else _) = _
   rw [lt_dec h, cond_true]
   show ((idx l (i : Int)).bind _).bind _ = _
   rw [idx_at h, Option.bind_some]
   show (((air_Nearest_2 N (bAt l i) (fo i) (fun y0 => air_Nearest_1 N y0 f)).bind fun r75 => some (decide (r75 < 0))).bind _) = _
   rw [n2 (hR _ (bAt_mem h)) (hR _ hm) h1 h2, Option.bind_some]
   by_cases hd : dist (bAt l i) f < dist (fo i) f
   ·rw [decide_eq_true hd, cond_true, near_pos hd]
    show some (Flow.next (W64 ((i : Int) + 1), _, _, _)) = _
    rw [w64s i (by omega)]
   ·rw [decide_eq_false hd, cond_false, near_neg hd]
    show some (Flow.next (W64 ((i : Int) + 1), _, _, _)) = _
    rw [w64s i (by omega)]
  ·have : i = l.length := by omega
   subst this
   refine .inr ⟨_, ?_, (fun _ h => by cases h), rfl⟩
   unfold slices_MinFunc_api_Band_api_Band_L0
   show (bif decide ((l.length : Int) < (l.length : Int)) then _ else _) = _
   rw [lt_dec', cond_false]) (l.length - 1) N 1 (enc 1 (fo 1)) (by omega) ⟨Nat.le_refl _, rfl⟩ (by omega)
 have e1 : fo 1 = bAt l 0 := near_first f l
 have ho' := ho
 rw [e1] at ho'
 have : iter (slices_MinFunc_api_Band_api_Band_L0 N l (fun y0 y1 => air_Nearest_2 N y0 y1 (fun y0 => air_Nearest_1 N y0 f)) (bAt l 0)) N (1, (bAt l 0).ID, (bAt l 0).Lo, (bAt l 0).Hi) = some (.done (enc l.length (fo l.length))) := ho'
 rw [this]
 rfl
theorem s_Nearest (hl : l.length < 4000000000) (hN : 4294967300 < N) (f : Int) : air_Nearest N l f = some (nearestS l f) := by
 unfold air_Nearest nearestS
 rw [s_wrong hl hN, Option.bind_some]
 by_cases hw : wrongS l f = 0
 ·rw [if_pos hw, hw, show ((0 : Int) != 0) = false from rfl, cond_false]
  obtain ⟨hv, h1, h2⟩ := wrong_ok hw
  by_cases h0 : l.length = 0
  ·rw [if_pos h0, show ((l.length : Int) == 0) = true by simp [h0]]; rfl
  ·rw [if_neg h0, show ((l.length : Int) == 0) = false by simp; intro h; rw [h] at h0; exact h0 rfl, cond_false, s_Min hv (by omega) h1 h2 hN, Option.bind_some]
   rw [n1 ((vB_ok hv).2.1 _ (nearS_mem f (by omega))) h1 h2]
   rfl
 ·rw [if_neg hw, show (wrongS l f != 0) = true by simpa using hw, cond_true]
end
end Go.Proofs.YtlddakefmfcblaaGreatDoor
namespace Go.Proofs.YtlddakefmfcblaaGreatDoor
open Go.Proofs
def law01_awake (N : Nat)  : Option Bool :=
 ((air_Split N ([71, 51, 47, 77, 48, 65, 66, 47, 80] : List UInt8)).bind fun r1 => ((air_PrefixOf N ([87, 49, 65, 87, 47, 52] : List UInt8)).bind fun r14 => ((air_PrintTime N 1505).bind fun r22 => ((air_ParseTime N ([50, 32, 48, 49, 48, 53] : List UInt8)).bind fun r30 => ((air_Nearest N ([({ ID := 1, Lo := 1800, Hi := 2000 } : Band), ({ ID := 2, Lo := 3500, Hi := 3800 } : Band)]) 2750).bind fun r47 => ((bif (r1.2 == 0) then (bif ((r1.1.Area == ([71, 51] : List UInt8)) && ((r1.1.Prefix == ([77, 48] : List UInt8)) && ((r1.1.Suffix == ([65, 66] : List UInt8)) && ((r1.1.Stroke == ([80] : List UInt8)) && true)))) then (bif (r14.2 == 0) then (bif (r14.1 == ([87, 52] : List UInt8)) then (bif (r22.2 == 0) then (bif (r22.1 == ([50, 32, 48, 49, 48, 53] : List UInt8)) then (bif (r30.2 == 0) then (bif (r30.1 == 1505) then (bif (r47.2.2 == 0) then (bif (r47.1 == 1) then (bif (r47.2.1 == 750) then ((air_ValidCall N ([68, 76, 49, 65, 47, 87, 49, 65] : List UInt8)).bind fun r85 => some (!r85)) else some false) else some false) else some false) else some false) else some false) else some false) else some false) else some false) else some false) else some false) else some false).bind fun j58 => some j58))))))
theorem co_law01_awake : CallOk Tryz.prog 17 := fun _ _ => by kernel_rfl
set_option maxHeartbeats 4000000 in
set_option maxRecDepth 100000 in
theorem c_law01_awake (N : Nat) (w0 : World) (F0 : Mem) (hF : ∀ b o, F0 b = some o → w0.heap[b]? = some o) (hG : Glob F0)  (r : Bool) (h : law01_awake N  = some r) :
  Calls Tryz.prog 17 ([] : List Value).toArray w0 (FRet w0 F0 fun F' v => v = (.bool r)) := by
 have hs0 := HS.start hF
 refine calls_of (n := 85) (c := bodyOf Tryz.f17) Tryz.func17 (by kernel_rfl) (by kernel_rfl) (by kernel_rfl) ?_
 refine Sq (Rg [0] ?_)
 refine V 0 4 (mc (.bool false) (.bool false)) ?_
 refine Nss (Rg [0, 1, 2, 3, 4, 5, 6] ?_)
 obtain ⟨r1, hr2, h3⟩ := bind_some h
 refine Cl 14 28 19 #[(.const (.string ⟨([71, 51, 47, 77, 48, 65, 66, 47, 80] : List UInt8).toArray⟩))] #[9] co_air_Split hs0 (c_air_Split N w0 F0 hs0.pers hG (([71, 51, 47, 77, 48, 65, 66, 47, 80] : List UInt8)) _ hr2) ?_
 intro v4 F1 w5 hs6 le7 hp8
 obtain rfl := hp8
 refine V 13 28 (mv 14 (.tuple #[(.agg #[(.string ⟨(r1.1.Area).toArray⟩), (.string ⟨(r1.1.Prefix).toArray⟩), (.string ⟨(r1.1.Suffix).toArray⟩), (.string ⟨(r1.1.Stroke).toArray⟩)]), (vi r1.2)])) ?_
 refine V 15 27 (ex 13 0 (.agg #[(.string ⟨(r1.1.Area).toArray⟩), (.string ⟨(r1.1.Prefix).toArray⟩), (.string ⟨(r1.1.Suffix).toArray⟩), (.string ⟨(r1.1.Stroke).toArray⟩)]) (vs := #[(.agg #[(.string ⟨(r1.1.Area).toArray⟩), (.string ⟨(r1.1.Prefix).toArray⟩), (.string ⟨(r1.1.Suffix).toArray⟩), (.string ⟨(r1.1.Stroke).toArray⟩)]), (vi r1.2)])) ?_
 refine V 16 23 (ex 13 1 (vi r1.2) (vs := #[(.agg #[(.string ⟨(r1.1.Area).toArray⟩), (.string ⟨(r1.1.Prefix).toArray⟩), (.string ⟨(r1.1.Suffix).toArray⟩), (.string ⟨(r1.1.Stroke).toArray⟩)]), (vi r1.2)])) ?_
 refine Al 1 0 27 #[(.string ⟨(([] : List UInt8)).toArray⟩), (.string ⟨(([] : List UInt8)).toArray⟩), (.string ⟨(([] : List UInt8)).toArray⟩), (.string ⟨(([] : List UInt8)).toArray⟩)] hs6 (fun b9 w10 (hs11 : HS w0 F0 w10 F1 [(sb b9 #[(.string ⟨(([] : List UInt8)).toArray⟩), (.string ⟨(([] : List UInt8)).toArray⟩), (.string ⟨(([] : List UInt8)).toArray⟩), (.string ⟨(([] : List UInt8)).toArray⟩)] 27)]) => ?_)
 refine RWP.store (ty := 0) (g := none) (by kernel_rfl) rfl (x := (.tmp 1)) (y := (.tmp 15)) (t := 27) (gg := true) (s := 4) (v := (.agg #[(.string ⟨(r1.1.Area).toArray⟩), (.string ⟨(r1.1.Prefix).toArray⟩), (.string ⟨(r1.1.Suffix).toArray⟩), (.string ⟨(r1.1.Stroke).toArray⟩)])) (b := b9) (o := 0) (C := #[(.string ⟨(([] : List UInt8)).toArray⟩), (.string ⟨(([] : List UInt8)).toArray⟩), (.string ⟨(([] : List UInt8)).toArray⟩), (.string ⟨(([] : List UInt8)).toArray⟩)]) rfl rfl (by kernel_rfl) hs11 (k := 0) rfl rfl rfl rfl (C' := #[(.string ⟨(r1.1.Area).toArray⟩), (.string ⟨(r1.1.Prefix).toArray⟩), (.string ⟨(r1.1.Suffix).toArray⟩), (.string ⟨(r1.1.Stroke).toArray⟩)]) rfl (fun w12 (hs13 : HS w0 F0 w12 F1 [(sb b9 #[(.string ⟨(r1.1.Area).toArray⟩), (.string ⟨(r1.1.Prefix).toArray⟩), (.string ⟨(r1.1.Suffix).toArray⟩), (.string ⟨(r1.1.Stroke).toArray⟩)] 27)]) => ?_)
 refine V 2 23 (ma 16 (vi r1.2)) ?_
 refine Nss (Rg [0, 1, 2, 3, 4, 5] ?_)
 obtain ⟨r14, hr15, h16⟩ := bind_some h3
 refine Cl 18 24 18 #[(.const (.string ⟨([87, 49, 65, 87, 47, 52] : List UInt8).toArray⟩))] #[9] co_air_PrefixOf hs13 (c_air_PrefixOf N w12 F1 hs13.pers (hG.mono le7) (([87, 49, 65, 87, 47, 52] : List UInt8)) _ hr15) ?_
 intro v17 F2 w18 hs19 le20 hp21
 obtain rfl := hp21
 refine V 17 24 (mv 18 (.tuple #[(.string ⟨(r14.1).toArray⟩), (vi r14.2)])) ?_
 refine V 19 9 (ex 17 0 (.string ⟨(r14.1).toArray⟩) (vs := #[(.string ⟨(r14.1).toArray⟩), (vi r14.2)])) ?_
 refine V 20 23 (ex 17 1 (vi r14.2) (vs := #[(.string ⟨(r14.1).toArray⟩), (vi r14.2)])) ?_
 refine V 3 9 (ma 19 (.string ⟨(r14.1).toArray⟩)) ?_
 refine V 4 23 (ma 20 (vi r14.2)) ?_
 refine Nss (Rg [0, 1, 2, 3, 4, 5] ?_)
 obtain ⟨r22, hr23, h24⟩ := bind_some h16
 refine Cl 22 24 28 #[(.const (vi 1505))] #[3] co_air_PrintTime hs19 (c_air_PrintTime N w18 F2 hs19.pers (hG.mono (le7.trans le20)) (1505) _ hr23) ?_
 intro v25 F3 w26 hs27 le28 hp29
 obtain rfl := hp29
 refine V 21 24 (mv 22 (.tuple #[(.string ⟨(r22.1).toArray⟩), (vi r22.2)])) ?_
 refine V 23 9 (ex 21 0 (.string ⟨(r22.1).toArray⟩) (vs := #[(.string ⟨(r22.1).toArray⟩), (vi r22.2)])) ?_
 refine V 24 23 (ex 21 1 (vi r22.2) (vs := #[(.string ⟨(r22.1).toArray⟩), (vi r22.2)])) ?_
 refine V 5 9 (ma 23 (.string ⟨(r22.1).toArray⟩)) ?_
 refine V 6 23 (ma 24 (vi r22.2)) ?_
 refine Nss (Rg [0, 1, 2, 3, 4, 5] ?_)
 obtain ⟨r30, hr31, h32⟩ := bind_some h24
 refine Cl 26 33 30 #[(.const (.string ⟨([50, 32, 48, 49, 48, 53] : List UInt8).toArray⟩))] #[9] co_air_ParseTime hs27 (c_air_ParseTime N w26 F3 hs27.pers (hG.mono ((le7.trans le20).trans le28)) (([50, 32, 48, 49, 48, 53] : List UInt8)) _ hr31) ?_
 intro v33 F4 w34 hs35 le36 hp37
 obtain rfl := hp37
 refine V 25 33 (mv 26 (.tuple #[(vi r30.1), (vi r30.2)])) ?_
 refine V 27 3 (ex 25 0 (vi r30.1) (vs := #[(vi r30.1), (vi r30.2)])) ?_
 refine V 28 23 (ex 25 1 (vi r30.2) (vs := #[(vi r30.1), (vi r30.2)])) ?_
 refine V 7 3 (ma 27 (vi r30.1)) ?_
 refine V 8 23 (ma 28 (vi r30.2)) ?_
 refine Nss (Rg [0, 1, 2, 3] ?_)
 refine V 29 40 (run_build2 (t := 40) (parts := #[(0, (.const (vi 1))), (1, (.const (vi 1800))), (2, (.const (vi 2000)))]) (vs := [(0, (vi 1)), (1, (vi 1800)), (2, (vi 2000))]) (rfl) (cs := [(vi 1), (vi 1800), (vi 2000)]) (by kernel_rfl)) ?_
 refine V 30 40 (run_build2 (t := 40) (parts := #[(0, (.const (vi 2))), (1, (.const (vi 3500))), (2, (.const (vi 3800)))]) (vs := [(0, (vi 2)), (1, (vi 3500)), (2, (vi 3800))]) (rfl) (cs := [(vi 2), (vi 3500), (vi 3800)]) (by kernel_rfl)) ?_
 refine RWP.buildSlice (dst := (some 31)) (ty := 32) (g := none) (by kernel_rfl) rfl (t := 32) (len := 2) (parts := #[(0, (.tmp 29)), (1, (.tmp 30))]) (vs := [(0, (.agg #[(vi 1), (vi 1800), (vi 2000)])), (1, (.agg #[(vi 2), (vi 3500), (vi 3800)]))]) (rfl) (E := 40) (cs := [(vi 1), (vi 1800), (vi 2000), (vi 2), (vi 3500), (vi 3800)]) (by kernel_rfl) hs35 (fun b38 w39 (hs40 : HS w0 F0 w39 F4 [(some b38, .cells ([(vi 1), (vi 1800), (vi 2000), (vi 2), (vi 3500), (vi 3800)] : List Value).toArray 40 (0, 0)), (sb b9 #[(.string ⟨(r1.1.Area).toArray⟩), (.string ⟨(r1.1.Prefix).toArray⟩), (.string ⟨(r1.1.Suffix).toArray⟩), (.string ⟨(r1.1.Stroke).toArray⟩)] 27)]) => ?_)
 have hr42 : RowR tBand 40 F4 (some ⟨b38, 0, none⟩) 2 [({ ID := 1, Lo := 1800, Hi := 2000 } : Band), ({ ID := 2, Lo := 3500, Hi := 3800 } : Band)] (some b38, .cells ([(vi 1), (vi 1800), (vi 2000), (vi 2), (vi 3500), (vi 3800)] : List Value).toArray 40 (0, 0)) := RowR.lit ⟨rfl, ⟨rfl, rfl⟩⟩ (by simp)
 refine V 9 32 (ma 31 (.slice (some ⟨b38, 0, none⟩) [({ ID := 1, Lo := 1800, Hi := 2000 } : Band), ({ ID := 2, Lo := 3500, Hi := 3800 } : Band)].length 2)) ?_
 refine Nss (Rg [0, 1, 2, 3, 4, 5, 6, 7, 8] ?_)
 refine V 33 32 (mv 9 (.slice (some ⟨b38, 0, none⟩) [({ ID := 1, Lo := 1800, Hi := 2000 } : Band), ({ ID := 2, Lo := 3500, Hi := 3800 } : Band)].length 2)) ?_
 have hb46 := RowR.bound hr42
 obtain ⟨F5, hs43, le44, hs45⟩ : ∃ Fq, HS w0 F0 w39 Fq [(sb b9 #[(.string ⟨(r1.1.Area).toArray⟩), (.string ⟨(r1.1.Prefix).toArray⟩), (.string ⟨(r1.1.Suffix).toArray⟩), (.string ⟨(r1.1.Stroke).toArray⟩)] 27)] ∧ Mem.le F4 Fq ∧ SlA tBand Fq (some ⟨b38, 0, none⟩) [({ ID := 1, Lo := 1800, Hi := 2000 } : Band), ({ ID := 2, Lo := 3500, Hi := 3800 } : Band)] := HS.freezeRow hs40 (k := 0) rfl hr42
 obtain ⟨r47, hr48, h49⟩ := bind_some h32
 refine Cl 34 35 24 #[(.tmp 33), (.const (vi 2750))] #[32, 3] co_air_Nearest hs43 (c_air_Nearest N w39 F5 hs43.pers ([({ ID := 1, Lo := 1800, Hi := 2000 } : Band), ({ ID := 2, Lo := 3500, Hi := 3800 } : Band)]) (some ⟨b38, 0, none⟩) 2 hb46 hs45 (2750) _ hr48) ?_
 intro v50 F6 w51 hs52 le53 hp54
 obtain rfl := hp54
 refine V 32 35 (mv 34 (.tuple #[(vi r47.1), (vi r47.2.1), (vi r47.2.2)])) ?_
 refine V 35 3 (ex 32 0 (vi r47.1) (vs := #[(vi r47.1), (vi r47.2.1), (vi r47.2.2)])) ?_
 refine V 36 3 (ex 32 1 (vi r47.2.1) (vs := #[(vi r47.1), (vi r47.2.1), (vi r47.2.2)])) ?_
 refine V 37 23 (ex 32 2 (vi r47.2.2) (vs := #[(vi r47.1), (vi r47.2.1), (vi r47.2.2)])) ?_
 refine V 10 3 (ma 35 (vi r47.1)) ?_
 refine V 11 3 (ma 36 (vi r47.2.1)) ?_
 refine V 12 23 (ma 37 (vi r47.2.2)) ?_
 refine Nss (Rg [0, 1, 2, 3, 4, 5, 6, 7, 8, 9, 10, 11, 12, 13, 14, 15, 16, 17, 18, 19, 20, 21, 22, 23, 24, 25, 26, 27, 28, 29, 30, 31, 32, 33, 34, 35, 36, 37, 38, 39, 40, 41, 42, 43, 44, 45, 46, 47] ?_)
 obtain ⟨j58, hj61, h62⟩ := bind_some h49
 refine RWP.cut (fun f w => ∃ (F7 : Mem), HS w0 F0 w F7 [] ∧ Mem.le F6 F7 ∧ f.d = [] ∧ f 0 = (.bool j58)) ?_ ?_
 ·refine V 38 23 (mv 2 (vi r1.2)) ?_
  refine V 39 4 (run_eql (t := 23) (t' := 23) (x := (.tmp 38)) (y := (.const (vi 0))) (k := .i64) (a := r1.2) (b := 0) rfl rfl) ?_
  refine V 40 4 (mv 39 (.bool (r1.2 == 0))) ?_
  refine RWP.split (r1.2 == 0) (fun hb63 => ?_) (fun hb63 => ?_)
  ·have h64 := cond_t hj61 hb63
   refine Vg 41 27 2 true 40 hb63 (ld 27 1 b9 0 true 4 (.agg #[(.string ⟨(r1.1.Area).toArray⟩), (.string ⟨(r1.1.Prefix).toArray⟩), (.string ⟨(r1.1.Suffix).toArray⟩), (.string ⟨(r1.1.Stroke).toArray⟩)]) (hs52.ownAt (k := 0) rfl)) ?_
   refine Vg 42 27 2 true 40 hb63 (run_build2 (t := 27) (parts := #[(0, (.const (.string ⟨([71, 51] : List UInt8).toArray⟩))), (1, (.const (.string ⟨([77, 48] : List UInt8).toArray⟩))), (2, (.const (.string ⟨([65, 66] : List UInt8).toArray⟩))), (3, (.const (.string ⟨([80] : List UInt8).toArray⟩)))]) (vs := [(0, (.string ⟨(([71, 51] : List UInt8)).toArray⟩)), (1, (.string ⟨(([77, 48] : List UInt8)).toArray⟩)), (2, (.string ⟨(([65, 66] : List UInt8)).toArray⟩)), (3, (.string ⟨(([80] : List UInt8)).toArray⟩))]) (rfl) (cs := [(.string ⟨(([71, 51] : List UInt8)).toArray⟩), (.string ⟨(([77, 48] : List UInt8)).toArray⟩), (.string ⟨(([65, 66] : List UInt8)).toArray⟩), (.string ⟨(([80] : List UInt8)).toArray⟩)]) (by kernel_rfl)) ?_
   refine Vg 43 4 2 true 40 hb63 (run_eqs (t := 27) (t' := 27) (x := (.tmp 41)) (y := (.tmp 42)) (xs := #[(.string ⟨(r1.1.Area).toArray⟩), (.string ⟨(r1.1.Prefix).toArray⟩), (.string ⟨(r1.1.Suffix).toArray⟩), (.string ⟨(r1.1.Stroke).toArray⟩)]) (ys := #[(.string ⟨(([71, 51] : List UInt8)).toArray⟩), (.string ⟨(([77, 48] : List UInt8)).toArray⟩), (.string ⟨(([65, 66] : List UInt8)).toArray⟩), (.string ⟨(([80] : List UInt8)).toArray⟩)]) (b := ((r1.1.Area == ([71, 51] : List UInt8)) && ((r1.1.Prefix == ([77, 48] : List UInt8)) && ((r1.1.Suffix == ([65, 66] : List UInt8)) && ((r1.1.Stroke == ([80] : List UInt8)) && true))))) rfl rfl (by kernel_rfl) (by kernel_rfl)) ?_
   refine V 44 4 (p1 40 (.tmp 43) (.const (.bool false)) (.bool ((r1.1.Area == ([71, 51] : List UInt8)) && ((r1.1.Prefix == ([77, 48] : List UInt8)) && ((r1.1.Suffix == ([65, 66] : List UInt8)) && ((r1.1.Stroke == ([80] : List UInt8)) && true))))) hb63) ?_
   refine V 45 4 (mv 44 (.bool ((r1.1.Area == ([71, 51] : List UInt8)) && ((r1.1.Prefix == ([77, 48] : List UInt8)) && ((r1.1.Suffix == ([65, 66] : List UInt8)) && ((r1.1.Stroke == ([80] : List UInt8)) && true)))))) ?_
   refine RWP.split ((r1.1.Area == ([71, 51] : List UInt8)) && ((r1.1.Prefix == ([77, 48] : List UInt8)) && ((r1.1.Suffix == ([65, 66] : List UInt8)) && ((r1.1.Stroke == ([80] : List UInt8)) && true)))) (fun hb65 => ?_) (fun hb65 => ?_)
   ·have h66 := cond_t h64 hb65
    refine Vg 46 23 7 true 45 hb65 (mv 4 (vi r14.2)) ?_
    refine Vg 47 4 7 true 45 hb65 (run_eql (t := 23) (t' := 23) (x := (.tmp 46)) (y := (.const (vi 0))) (k := .i64) (a := r14.2) (b := 0) rfl rfl) ?_
    refine V 48 4 (p1 45 (.tmp 47) (.const (.bool false)) (.bool (r14.2 == 0)) hb65) ?_
    refine V 49 4 (mv 48 (.bool (r14.2 == 0))) ?_
    refine RWP.split (r14.2 == 0) (fun hb67 => ?_) (fun hb67 => ?_)
    ·have h68 := cond_t h66 hb67
     refine Vg 50 9 11 true 49 hb67 (mv 3 (.string ⟨(r14.1).toArray⟩)) ?_
     refine Vg 51 4 11 true 49 hb67 (run_scmp (t := 9) (t' := 9) (x := (.tmp 50)) (y := (.const (.string ⟨([87, 52] : List UInt8).toArray⟩))) (op := .eql) (a := r14.1) (b := ([87, 52] : List UInt8)) (v := (r14.1 == ([87, 52] : List UInt8))) rfl rfl rfl) ?_
     refine V 52 4 (p1 49 (.tmp 51) (.const (.bool false)) (.bool (r14.1 == ([87, 52] : List UInt8))) hb67) ?_
     refine V 53 4 (mv 52 (.bool (r14.1 == ([87, 52] : List UInt8)))) ?_
     refine RWP.split (r14.1 == ([87, 52] : List UInt8)) (fun hb69 => ?_) (fun hb69 => ?_)
     ·have h70 := cond_t h68 hb69
      refine Vg 54 23 15 true 53 hb69 (mv 6 (vi r22.2)) ?_
      refine Vg 55 4 15 true 53 hb69 (run_eql (t := 23) (t' := 23) (x := (.tmp 54)) (y := (.const (vi 0))) (k := .i64) (a := r22.2) (b := 0) rfl rfl) ?_
      refine V 56 4 (p1 53 (.tmp 55) (.const (.bool false)) (.bool (r22.2 == 0)) hb69) ?_
      refine V 57 4 (mv 56 (.bool (r22.2 == 0))) ?_
      refine RWP.split (r22.2 == 0) (fun hb71 => ?_) (fun hb71 => ?_)
      ·have h72 := cond_t h70 hb71
       refine Vg 58 9 19 true 57 hb71 (mv 5 (.string ⟨(r22.1).toArray⟩)) ?_
       refine Vg 59 4 19 true 57 hb71 (run_scmp (t := 9) (t' := 9) (x := (.tmp 58)) (y := (.const (.string ⟨([50, 32, 48, 49, 48, 53] : List UInt8).toArray⟩))) (op := .eql) (a := r22.1) (b := ([50, 32, 48, 49, 48, 53] : List UInt8)) (v := (r22.1 == ([50, 32, 48, 49, 48, 53] : List UInt8))) rfl rfl rfl) ?_
       refine V 60 4 (p1 57 (.tmp 59) (.const (.bool false)) (.bool (r22.1 == ([50, 32, 48, 49, 48, 53] : List UInt8))) hb71) ?_
       refine V 61 4 (mv 60 (.bool (r22.1 == ([50, 32, 48, 49, 48, 53] : List UInt8)))) ?_
       refine RWP.split (r22.1 == ([50, 32, 48, 49, 48, 53] : List UInt8)) (fun hb73 => ?_) (fun hb73 => ?_)
       ·have h74 := cond_t h72 hb73
        refine Vg 62 23 23 true 61 hb73 (mv 8 (vi r30.2)) ?_
        refine Vg 63 4 23 true 61 hb73 (run_eql (t := 23) (t' := 23) (x := (.tmp 62)) (y := (.const (vi 0))) (k := .i64) (a := r30.2) (b := 0) rfl rfl) ?_
        refine V 64 4 (p1 61 (.tmp 63) (.const (.bool false)) (.bool (r30.2 == 0)) hb73) ?_
        refine V 65 4 (mv 64 (.bool (r30.2 == 0))) ?_
        refine RWP.split (r30.2 == 0) (fun hb75 => ?_) (fun hb75 => ?_)
        ·have h76 := cond_t h74 hb75
         refine Vg 66 3 27 true 65 hb75 (mv 7 (vi r30.1)) ?_
         refine Vg 67 4 27 true 65 hb75 (run_eql (t := 3) (t' := 3) (x := (.tmp 66)) (y := (.const (vi 1505))) (k := .i64) (a := r30.1) (b := 1505) rfl rfl) ?_
         refine V 68 4 (p1 65 (.tmp 67) (.const (.bool false)) (.bool (r30.1 == 1505)) hb75) ?_
         refine V 69 4 (mv 68 (.bool (r30.1 == 1505))) ?_
         refine RWP.split (r30.1 == 1505) (fun hb77 => ?_) (fun hb77 => ?_)
         ·have h78 := cond_t h76 hb77
          refine Vg 70 23 31 true 69 hb77 (mv 12 (vi r47.2.2)) ?_
          refine Vg 71 4 31 true 69 hb77 (run_eql (t := 23) (t' := 23) (x := (.tmp 70)) (y := (.const (vi 0))) (k := .i64) (a := r47.2.2) (b := 0) rfl rfl) ?_
          refine V 72 4 (p1 69 (.tmp 71) (.const (.bool false)) (.bool (r47.2.2 == 0)) hb77) ?_
          refine V 73 4 (mv 72 (.bool (r47.2.2 == 0))) ?_
          refine RWP.split (r47.2.2 == 0) (fun hb79 => ?_) (fun hb79 => ?_)
          ·have h80 := cond_t h78 hb79
           refine Vg 74 3 35 true 73 hb79 (mv 10 (vi r47.1)) ?_
           refine Vg 75 4 35 true 73 hb79 (run_eql (t := 3) (t' := 3) (x := (.tmp 74)) (y := (.const (vi 1))) (k := .i64) (a := r47.1) (b := 1) rfl rfl) ?_
           refine V 76 4 (p1 73 (.tmp 75) (.const (.bool false)) (.bool (r47.1 == 1)) hb79) ?_
           refine V 77 4 (mv 76 (.bool (r47.1 == 1))) ?_
           refine RWP.split (r47.1 == 1) (fun hb81 => ?_) (fun hb81 => ?_)
           ·have h82 := cond_t h80 hb81
            refine Vg 78 3 39 true 77 hb81 (mv 11 (vi r47.2.1)) ?_
            refine Vg 79 4 39 true 77 hb81 (run_eql (t := 3) (t' := 3) (x := (.tmp 78)) (y := (.const (vi 750))) (k := .i64) (a := r47.2.1) (b := 750) rfl rfl) ?_
            refine V 80 4 (p1 77 (.tmp 79) (.const (.bool false)) (.bool (r47.2.1 == 750)) hb81) ?_
            refine V 81 4 (mv 80 (.bool (r47.2.1 == 750))) ?_
            refine RWP.split (r47.2.1 == 750) (fun hb83 => ?_) (fun hb83 => ?_)
            ·have h84 := cond_t h82 hb83
             obtain ⟨r85, hr86, h87⟩ := bind_some h84
             refine RWP.call (dst := (some 82)) (ty := 4) (g := (some (43, true))) (by kernel_rfl) (gd_y (d := 81) (by kernel_rfl) rfl hb83) (f0 := (.func 37)) (aos := #[(.const (.string ⟨([68, 76, 49, 65, 47, 87, 49, 65] : List UInt8).toArray⟩))]) (ats := #[9]) (fid := 37) (first := #[]) (cap := #[]) (args := [(.string ⟨(([68, 76, 49, 65, 47, 87, 49, 65] : List UInt8)).toArray⟩)]) rfl co_air_ValidCall (rfl) hs52 (c_air_ValidCall N w51 F6 hs52.pers (hG.mono (((((le7.trans le20).trans le28).trans le36).trans le44).trans le53)) (([68, 76, 49, 65, 47, 87, 49, 65] : List UInt8)) _ hr86) ?_
             intro v88 F8 w89 hs90 le91 hp92
             obtain rfl := hp92
             refine Vg 83 4 43 true 81 hb83 (run_not (t := 4) (x := (.tmp 82)) (a := r85) rfl) ?_
             refine V 84 4 (p1 81 (.tmp 83) (.const (.bool false)) (.bool (!r85)) hb83) ?_
             refine V 0 4 (ma 84 (.bool (!r85))) ?_
             obtain rfl := some_inj h87
             have hs93 : HS w0 F0 w89 F8 [] := hs90.drop 0
             exact RWP.nil ⟨rfl, F8, hs93, le91, rfl, rfl⟩
            ·have h94 := cond_f h82 hb83
             refine Sk [82, 83] 43 true 81 hb83 ?_
             refine V 84 4 (p0 81 (.tmp 83) (.const (.bool false)) (.bool false) hb83) ?_
             refine V 0 4 (ma 84 (.bool false)) ?_
             obtain rfl := some_inj h94
             have hs95 : HS w0 F0 w51 F6 [] := hs52.drop 0
             exact RWP.nil ⟨rfl, F6, hs95, (Mem.le.refl _), rfl, rfl⟩
           ·have h96 := cond_f h80 hb81
            refine Sk [78, 79] 39 true 77 hb81 ?_
            refine V 80 4 (p0 77 (.tmp 79) (.const (.bool false)) (.bool false) hb81) ?_
            refine V 81 4 (mv 80 (.bool false)) ?_
            refine Sk [82, 83] 43 true 81 rfl ?_
            refine V 84 4 (p0 81 (.tmp 83) (.const (.bool false)) (.bool false) rfl) ?_
            refine V 0 4 (ma 84 (.bool false)) ?_
            obtain rfl := some_inj h96
            have hs97 : HS w0 F0 w51 F6 [] := hs52.drop 0
            exact RWP.nil ⟨rfl, F6, hs97, (Mem.le.refl _), rfl, rfl⟩
          ·have h98 := cond_f h78 hb79
           refine Sk [74, 75] 35 true 73 hb79 ?_
           refine V 76 4 (p0 73 (.tmp 75) (.const (.bool false)) (.bool false) hb79) ?_
           refine V 77 4 (mv 76 (.bool false)) ?_
           refine Sk [78, 79] 39 true 77 rfl ?_
           refine V 80 4 (p0 77 (.tmp 79) (.const (.bool false)) (.bool false) rfl) ?_
           refine V 81 4 (mv 80 (.bool false)) ?_
           refine Sk [82, 83] 43 true 81 rfl ?_
           refine V 84 4 (p0 81 (.tmp 83) (.const (.bool false)) (.bool false) rfl) ?_
           refine V 0 4 (ma 84 (.bool false)) ?_
           obtain rfl := some_inj h98
           have hs99 : HS w0 F0 w51 F6 [] := hs52.drop 0
           exact RWP.nil ⟨rfl, F6, hs99, (Mem.le.refl _), rfl, rfl⟩
         ·have h100 := cond_f h76 hb77
          refine Sk [70, 71] 31 true 69 hb77 ?_
          refine V 72 4 (p0 69 (.tmp 71) (.const (.bool false)) (.bool false) hb77) ?_
          refine V 73 4 (mv 72 (.bool false)) ?_
          refine Sk [74, 75] 35 true 73 rfl ?_
          refine V 76 4 (p0 73 (.tmp 75) (.const (.bool false)) (.bool false) rfl) ?_
          refine V 77 4 (mv 76 (.bool false)) ?_
          refine Sk [78, 79] 39 true 77 rfl ?_
          refine V 80 4 (p0 77 (.tmp 79) (.const (.bool false)) (.bool false) rfl) ?_
          refine V 81 4 (mv 80 (.bool false)) ?_
          refine Sk [82, 83] 43 true 81 rfl ?_
          refine V 84 4 (p0 81 (.tmp 83) (.const (.bool false)) (.bool false) rfl) ?_
          refine V 0 4 (ma 84 (.bool false)) ?_
          obtain rfl := some_inj h100
          have hs101 : HS w0 F0 w51 F6 [] := hs52.drop 0
          exact RWP.nil ⟨rfl, F6, hs101, (Mem.le.refl _), rfl, rfl⟩
        ·have h102 := cond_f h74 hb75
         refine Sk [66, 67] 27 true 65 hb75 ?_
         refine V 68 4 (p0 65 (.tmp 67) (.const (.bool false)) (.bool false) hb75) ?_
         refine V 69 4 (mv 68 (.bool false)) ?_
         refine Sk [70, 71] 31 true 69 rfl ?_
         refine V 72 4 (p0 69 (.tmp 71) (.const (.bool false)) (.bool false) rfl) ?_
         refine V 73 4 (mv 72 (.bool false)) ?_
         refine Sk [74, 75] 35 true 73 rfl ?_
         refine V 76 4 (p0 73 (.tmp 75) (.const (.bool false)) (.bool false) rfl) ?_
         refine V 77 4 (mv 76 (.bool false)) ?_
         refine Sk [78, 79] 39 true 77 rfl ?_
         refine V 80 4 (p0 77 (.tmp 79) (.const (.bool false)) (.bool false) rfl) ?_
         refine V 81 4 (mv 80 (.bool false)) ?_
         refine Sk [82, 83] 43 true 81 rfl ?_
         refine V 84 4 (p0 81 (.tmp 83) (.const (.bool false)) (.bool false) rfl) ?_
         refine V 0 4 (ma 84 (.bool false)) ?_
         obtain rfl := some_inj h102
         have hs103 : HS w0 F0 w51 F6 [] := hs52.drop 0
         exact RWP.nil ⟨rfl, F6, hs103, (Mem.le.refl _), rfl, rfl⟩
       ·have h104 := cond_f h72 hb73
        refine Sk [62, 63] 23 true 61 hb73 ?_
        refine V 64 4 (p0 61 (.tmp 63) (.const (.bool false)) (.bool false) hb73) ?_
        refine V 65 4 (mv 64 (.bool false)) ?_
        refine Sk [66, 67] 27 true 65 rfl ?_
        refine V 68 4 (p0 65 (.tmp 67) (.const (.bool false)) (.bool false) rfl) ?_
        refine V 69 4 (mv 68 (.bool false)) ?_
        refine Sk [70, 71] 31 true 69 rfl ?_
        refine V 72 4 (p0 69 (.tmp 71) (.const (.bool false)) (.bool false) rfl) ?_
        refine V 73 4 (mv 72 (.bool false)) ?_
        refine Sk [74, 75] 35 true 73 rfl ?_
        refine V 76 4 (p0 73 (.tmp 75) (.const (.bool false)) (.bool false) rfl) ?_
        refine V 77 4 (mv 76 (.bool false)) ?_
        refine Sk [78, 79] 39 true 77 rfl ?_
        refine V 80 4 (p0 77 (.tmp 79) (.const (.bool false)) (.bool false) rfl) ?_
        refine V 81 4 (mv 80 (.bool false)) ?_
        refine Sk [82, 83] 43 true 81 rfl ?_
        refine V 84 4 (p0 81 (.tmp 83) (.const (.bool false)) (.bool false) rfl) ?_
        refine V 0 4 (ma 84 (.bool false)) ?_
        obtain rfl := some_inj h104
        have hs105 : HS w0 F0 w51 F6 [] := hs52.drop 0
        exact RWP.nil ⟨rfl, F6, hs105, (Mem.le.refl _), rfl, rfl⟩
      ·have h106 := cond_f h70 hb71
       refine Sk [58, 59] 19 true 57 hb71 ?_
       refine V 60 4 (p0 57 (.tmp 59) (.const (.bool false)) (.bool false) hb71) ?_
       refine V 61 4 (mv 60 (.bool false)) ?_
       refine Sk [62, 63] 23 true 61 rfl ?_
       refine V 64 4 (p0 61 (.tmp 63) (.const (.bool false)) (.bool false) rfl) ?_
       refine V 65 4 (mv 64 (.bool false)) ?_
       refine Sk [66, 67] 27 true 65 rfl ?_
       refine V 68 4 (p0 65 (.tmp 67) (.const (.bool false)) (.bool false) rfl) ?_
       refine V 69 4 (mv 68 (.bool false)) ?_
       refine Sk [70, 71] 31 true 69 rfl ?_
       refine V 72 4 (p0 69 (.tmp 71) (.const (.bool false)) (.bool false) rfl) ?_
       refine V 73 4 (mv 72 (.bool false)) ?_
       refine Sk [74, 75] 35 true 73 rfl ?_
       refine V 76 4 (p0 73 (.tmp 75) (.const (.bool false)) (.bool false) rfl) ?_
       refine V 77 4 (mv 76 (.bool false)) ?_
       refine Sk [78, 79] 39 true 77 rfl ?_
       refine V 80 4 (p0 77 (.tmp 79) (.const (.bool false)) (.bool false) rfl) ?_
       refine V 81 4 (mv 80 (.bool false)) ?_
       refine Sk [82, 83] 43 true 81 rfl ?_
       refine V 84 4 (p0 81 (.tmp 83) (.const (.bool false)) (.bool false) rfl) ?_
       refine V 0 4 (ma 84 (.bool false)) ?_
       obtain rfl := some_inj h106
       have hs107 : HS w0 F0 w51 F6 [] := hs52.drop 0
       exact RWP.nil ⟨rfl, F6, hs107, (Mem.le.refl _), rfl, rfl⟩
     ·have h108 := cond_f h68 hb69
      refine Sk [54, 55] 15 true 53 hb69 ?_
      refine V 56 4 (p0 53 (.tmp 55) (.const (.bool false)) (.bool false) hb69) ?_
      refine V 57 4 (mv 56 (.bool false)) ?_
      refine Sk [58, 59] 19 true 57 rfl ?_
      refine V 60 4 (p0 57 (.tmp 59) (.const (.bool false)) (.bool false) rfl) ?_
      refine V 61 4 (mv 60 (.bool false)) ?_
      refine Sk [62, 63] 23 true 61 rfl ?_
      refine V 64 4 (p0 61 (.tmp 63) (.const (.bool false)) (.bool false) rfl) ?_
      refine V 65 4 (mv 64 (.bool false)) ?_
      refine Sk [66, 67] 27 true 65 rfl ?_
      refine V 68 4 (p0 65 (.tmp 67) (.const (.bool false)) (.bool false) rfl) ?_
      refine V 69 4 (mv 68 (.bool false)) ?_
      refine Sk [70, 71] 31 true 69 rfl ?_
      refine V 72 4 (p0 69 (.tmp 71) (.const (.bool false)) (.bool false) rfl) ?_
      refine V 73 4 (mv 72 (.bool false)) ?_
      refine Sk [74, 75] 35 true 73 rfl ?_
      refine V 76 4 (p0 73 (.tmp 75) (.const (.bool false)) (.bool false) rfl) ?_
      refine V 77 4 (mv 76 (.bool false)) ?_
      refine Sk [78, 79] 39 true 77 rfl ?_
      refine V 80 4 (p0 77 (.tmp 79) (.const (.bool false)) (.bool false) rfl) ?_
      refine V 81 4 (mv 80 (.bool false)) ?_
      refine Sk [82, 83] 43 true 81 rfl ?_
      refine V 84 4 (p0 81 (.tmp 83) (.const (.bool false)) (.bool false) rfl) ?_
      refine V 0 4 (ma 84 (.bool false)) ?_
      obtain rfl := some_inj h108
      have hs109 : HS w0 F0 w51 F6 [] := hs52.drop 0
      exact RWP.nil ⟨rfl, F6, hs109, (Mem.le.refl _), rfl, rfl⟩
    ·have h110 := cond_f h66 hb67
     refine Sk [50, 51] 11 true 49 hb67 ?_
     refine V 52 4 (p0 49 (.tmp 51) (.const (.bool false)) (.bool false) hb67) ?_
     refine V 53 4 (mv 52 (.bool false)) ?_
     refine Sk [54, 55] 15 true 53 rfl ?_
     refine V 56 4 (p0 53 (.tmp 55) (.const (.bool false)) (.bool false) rfl) ?_
     refine V 57 4 (mv 56 (.bool false)) ?_
     refine Sk [58, 59] 19 true 57 rfl ?_
     refine V 60 4 (p0 57 (.tmp 59) (.const (.bool false)) (.bool false) rfl) ?_
     refine V 61 4 (mv 60 (.bool false)) ?_
     refine Sk [62, 63] 23 true 61 rfl ?_
     refine V 64 4 (p0 61 (.tmp 63) (.const (.bool false)) (.bool false) rfl) ?_
     refine V 65 4 (mv 64 (.bool false)) ?_
     refine Sk [66, 67] 27 true 65 rfl ?_
     refine V 68 4 (p0 65 (.tmp 67) (.const (.bool false)) (.bool false) rfl) ?_
     refine V 69 4 (mv 68 (.bool false)) ?_
     refine Sk [70, 71] 31 true 69 rfl ?_
     refine V 72 4 (p0 69 (.tmp 71) (.const (.bool false)) (.bool false) rfl) ?_
     refine V 73 4 (mv 72 (.bool false)) ?_
     refine Sk [74, 75] 35 true 73 rfl ?_
     refine V 76 4 (p0 73 (.tmp 75) (.const (.bool false)) (.bool false) rfl) ?_
     refine V 77 4 (mv 76 (.bool false)) ?_
     refine Sk [78, 79] 39 true 77 rfl ?_
     refine V 80 4 (p0 77 (.tmp 79) (.const (.bool false)) (.bool false) rfl) ?_
     refine V 81 4 (mv 80 (.bool false)) ?_
     refine Sk [82, 83] 43 true 81 rfl ?_
     refine V 84 4 (p0 81 (.tmp 83) (.const (.bool false)) (.bool false) rfl) ?_
     refine V 0 4 (ma 84 (.bool false)) ?_
     obtain rfl := some_inj h110
     have hs111 : HS w0 F0 w51 F6 [] := hs52.drop 0
     exact RWP.nil ⟨rfl, F6, hs111, (Mem.le.refl _), rfl, rfl⟩
   ·have h112 := cond_f h64 hb65
    refine Sk [46, 47] 7 true 45 hb65 ?_
    refine V 48 4 (p0 45 (.tmp 47) (.const (.bool false)) (.bool false) hb65) ?_
    refine V 49 4 (mv 48 (.bool false)) ?_
    refine Sk [50, 51] 11 true 49 rfl ?_
    refine V 52 4 (p0 49 (.tmp 51) (.const (.bool false)) (.bool false) rfl) ?_
    refine V 53 4 (mv 52 (.bool false)) ?_
    refine Sk [54, 55] 15 true 53 rfl ?_
    refine V 56 4 (p0 53 (.tmp 55) (.const (.bool false)) (.bool false) rfl) ?_
    refine V 57 4 (mv 56 (.bool false)) ?_
    refine Sk [58, 59] 19 true 57 rfl ?_
    refine V 60 4 (p0 57 (.tmp 59) (.const (.bool false)) (.bool false) rfl) ?_
    refine V 61 4 (mv 60 (.bool false)) ?_
    refine Sk [62, 63] 23 true 61 rfl ?_
    refine V 64 4 (p0 61 (.tmp 63) (.const (.bool false)) (.bool false) rfl) ?_
    refine V 65 4 (mv 64 (.bool false)) ?_
    refine Sk [66, 67] 27 true 65 rfl ?_
    refine V 68 4 (p0 65 (.tmp 67) (.const (.bool false)) (.bool false) rfl) ?_
    refine V 69 4 (mv 68 (.bool false)) ?_
    refine Sk [70, 71] 31 true 69 rfl ?_
    refine V 72 4 (p0 69 (.tmp 71) (.const (.bool false)) (.bool false) rfl) ?_
    refine V 73 4 (mv 72 (.bool false)) ?_
    refine Sk [74, 75] 35 true 73 rfl ?_
    refine V 76 4 (p0 73 (.tmp 75) (.const (.bool false)) (.bool false) rfl) ?_
    refine V 77 4 (mv 76 (.bool false)) ?_
    refine Sk [78, 79] 39 true 77 rfl ?_
    refine V 80 4 (p0 77 (.tmp 79) (.const (.bool false)) (.bool false) rfl) ?_
    refine V 81 4 (mv 80 (.bool false)) ?_
    refine Sk [82, 83] 43 true 81 rfl ?_
    refine V 84 4 (p0 81 (.tmp 83) (.const (.bool false)) (.bool false) rfl) ?_
    refine V 0 4 (ma 84 (.bool false)) ?_
    obtain rfl := some_inj h112
    have hs113 : HS w0 F0 w51 F6 [] := hs52.drop 0
    exact RWP.nil ⟨rfl, F6, hs113, (Mem.le.refl _), rfl, rfl⟩
  ·have h114 := cond_f hj61 hb63
   refine Sk [41, 42, 43] 2 true 40 hb63 ?_
   refine V 44 4 (p0 40 (.tmp 43) (.const (.bool false)) (.bool false) hb63) ?_
   refine V 45 4 (mv 44 (.bool false)) ?_
   refine Sk [46, 47] 7 true 45 rfl ?_
   refine V 48 4 (p0 45 (.tmp 47) (.const (.bool false)) (.bool false) rfl) ?_
   refine V 49 4 (mv 48 (.bool false)) ?_
   refine Sk [50, 51] 11 true 49 rfl ?_
   refine V 52 4 (p0 49 (.tmp 51) (.const (.bool false)) (.bool false) rfl) ?_
   refine V 53 4 (mv 52 (.bool false)) ?_
   refine Sk [54, 55] 15 true 53 rfl ?_
   refine V 56 4 (p0 53 (.tmp 55) (.const (.bool false)) (.bool false) rfl) ?_
   refine V 57 4 (mv 56 (.bool false)) ?_
   refine Sk [58, 59] 19 true 57 rfl ?_
   refine V 60 4 (p0 57 (.tmp 59) (.const (.bool false)) (.bool false) rfl) ?_
   refine V 61 4 (mv 60 (.bool false)) ?_
   refine Sk [62, 63] 23 true 61 rfl ?_
   refine V 64 4 (p0 61 (.tmp 63) (.const (.bool false)) (.bool false) rfl) ?_
   refine V 65 4 (mv 64 (.bool false)) ?_
   refine Sk [66, 67] 27 true 65 rfl ?_
   refine V 68 4 (p0 65 (.tmp 67) (.const (.bool false)) (.bool false) rfl) ?_
   refine V 69 4 (mv 68 (.bool false)) ?_
   refine Sk [70, 71] 31 true 69 rfl ?_
   refine V 72 4 (p0 69 (.tmp 71) (.const (.bool false)) (.bool false) rfl) ?_
   refine V 73 4 (mv 72 (.bool false)) ?_
   refine Sk [74, 75] 35 true 73 rfl ?_
   refine V 76 4 (p0 73 (.tmp 75) (.const (.bool false)) (.bool false) rfl) ?_
   refine V 77 4 (mv 76 (.bool false)) ?_
   refine Sk [78, 79] 39 true 77 rfl ?_
   refine V 80 4 (p0 77 (.tmp 79) (.const (.bool false)) (.bool false) rfl) ?_
   refine V 81 4 (mv 80 (.bool false)) ?_
   refine Sk [82, 83] 43 true 81 rfl ?_
   refine V 84 4 (p0 81 (.tmp 83) (.const (.bool false)) (.bool false) rfl) ?_
   refine V 0 4 (ma 84 (.bool false)) ?_
   obtain rfl := some_inj h114
   have hs115 : HS w0 F0 w51 F6 [] := hs52.drop 0
   exact RWP.nil ⟨rfl, F6, hs115, (Mem.le.refl _), rfl, rfl⟩
 ·rintro f w55 ⟨F7, hs56, le57, e59, e60⟩
  refine thenQ_nrm ?_
  refine CWP.ret (by kernel_rfl) ?_
  have hfin := some_inj h62
  subst hfin
  exact ⟨e59, (.bool j58), res_of (l := [.tmp 0]) (by kernel_rfl) (vs := [(.bool j58)]) ⟨e60, trivial⟩, (.bool j58), F7, rfl, hs56.clear, rfl⟩
end Go.Proofs.YtlddakefmfcblaaGreatDoor
namespace Go.Proofs.YtlddakefmfcblaaGreatDoor
open Go.Lib (decDigits)
theorem aw1 : splitS [71, 51, 47, 77, 48, 65, 66, 47, 80] = ({ Area := [71, 51], Prefix := [77, 48], Suffix := [65, 66], Stroke := [80] }, 0) := by rfl
theorem aw2 : prefixS [87, 49, 65, 87, 47, 52] = ([87, 52], 0) := by rfl
theorem aw3 : tText 1505 = [50, 32, 48, 49, 48, 53] := by
 unfold tText dP
 rw [show 1505 / 1440 + 1 = 2 from rfl, show 1505 / 60 % 24 = 1 from rfl, show 1505 % 60 = 5 from rfl, dd_small (by decide), dd_small (by decide), dd_small (by decide)]
 rfl
theorem aw4 : printT 1505 = ([50, 32, 48, 49, 48, 53], 0) := by
 unfold printT
 rw [if_pos (by decide)]
 show (tText 1505, (0 : Int)) = _
 rw [aw3]
theorem aw5 : parseT [50, 32, 48, 49, 48, 53] = (1505, 0) := by
 rw [← aw3, parse_text (by decide)]; rfl
theorem aw6 : validS [68, 76, 49, 65, 47, 87, 49, 65] = false := by rfl
theorem aw7 : nearestS [{ ID := 1, Lo := 1800, Hi := 2000 }, { ID := 2, Lo := 3500, Hi := 3800 }] 2750 = (1, 750, 0) := by decide
theorem awake_true {N : Nat} (hN : 4294967300 < N) : law01_awake N = some true := by
 unfold law01_awake
 rw [s_Split _ hN, aw1, Option.bind_some, s_PrefixOf _ hN, aw2, Option.bind_some, s_PrintTime, aw4, Option.bind_some, s_ParseTime _ (by simp) hN, aw5, Option.bind_some, s_Nearest (by simp) hN, aw7, Option.bind_some]
 simp only [s_Valid _ hN, aw6]
 rfl
end Go.Proofs.YtlddakefmfcblaaGreatDoor
namespace Go.Proofs.YtlddakefmfcblaaGreatDoor
open Go.Proofs
end Go.Proofs.YtlddakefmfcblaaGreatDoor
namespace Go.Proofs.YtlddakefmfcblaaGreatDoor
open Go.Proofs
end Go.Proofs.YtlddakefmfcblaaGreatDoor
namespace Go.Proofs.YtlddakefmfcblaaGreatDoor
open Go.Proofs
end Go.Proofs.YtlddakefmfcblaaGreatDoor
namespace Go.Proofs.YtlddakefmfcblaaGreatDoor
open Go.Proofs
end Go.Proofs.YtlddakefmfcblaaGreatDoor
namespace Go.Proofs.YtlddakefmfcblaaGreatDoor
open Go.Proofs
def law01_AirParts (N : Nat) (x0 : (List UInt8)) (x1 : (List UInt8)) (x2 : (List UInt8)) : Option Bool :=
 ((law01_awake N ).bind fun r1 => (bif ((decide ((x0.length : Int) > 1000)) || ((decide ((x1.length : Int) > 1000)) || (decide ((x2.length : Int) > 1000)))) then some r1 else ((air_Split N x0).bind fun r23 => ((air_ValidCall N x0).bind fun r36 => (bif (!((r23.2 == 0) == r36)) then some false else ((air_Same N x0 x1).bind fun r47 => ((air_Same N x1 x0).bind fun r55 => ((air_Same N x1 x2).bind fun r63 => ((air_Same N x0 x2).bind fun r71 => (bif ((!(r47.1 == r55.1)) || ((r47.2 != r55.2) || ((r63.2 == 0) && ((r47.2 == 0) && ((r71.2 != 0) || (r47.1 && (r63.1 && (!r71.1)))))))) then some false else (bif (r23.2 != 0) then some (r1 && ((r23.2 == 10) && ((r23.1.Area == ([] : List UInt8)) && ((r23.1.Prefix == ([] : List UInt8)) && ((r23.1.Suffix == ([] : List UInt8)) && ((r23.1.Stroke == ([] : List UInt8)) && true)))))) else ((air_Join N r23.1).bind fun r111 => ((air_Base N x0).bind fun r119 => ((air_Base N r119.1).bind fun r127 => ((air_Same N x0 r119.1).bind fun r135 => ((bif r1 then (bif (r111.2 == 0) then (bif (r111.1 == x0) then (bif (r119.2 == 0) then (bif (r127.2 == 0) then (bif (r127.1 == r119.1) then (bif (r135.2 == 0) then (bif r135.1 then ((sadd r23.1.Prefix r23.1.Suffix).bind fun r167 => some (r119.1 == r167)) else some false) else some false) else some false) else some false) else some false) else some false) else some false) else some false).bind fun j146 => some j146))))))))))))))))
set_option maxHeartbeats 4000000 in
set_option maxRecDepth 100000 in
theorem c_law01_AirParts (N : Nat) (w0 : World) (F0 : Mem) (hF : ∀ b o, F0 b = some o → w0.heap[b]? = some o) (hG : Glob F0) (x0 : (List UInt8)) (x1 : (List UInt8)) (x2 : (List UInt8)) (r : Bool) (h : law01_AirParts N x0 x1 x2 = some r) :
  Calls Tryz.prog 8 ([(.string ⟨(x0).toArray⟩), (.string ⟨(x1).toArray⟩), (.string ⟨(x2).toArray⟩)] : List Value).toArray w0 (FRet w0 F0 fun F' v => v = (.bool r)) := by
 have hs0 := HS.start hF
 refine calls_of (n := 177) (c := bodyOf Tryz.f8) Tryz.func8 (by kernel_rfl) (by kernel_rfl) (by kernel_rfl) ?_
 refine Sq (Rg [0] ?_)
 refine V 6 4 (mc (.bool false) (.bool false)) ?_
 refine Nss (Rg [0, 1] ?_)
 obtain ⟨r1, hr2, h3⟩ := bind_some h
 refine Cl 26 4 17 #[] #[] co_law01_awake hs0 (c_law01_awake N w0 F0 hs0.pers hG  _ hr2) ?_
 intro v4 F1 w5 hs6 le7 hp8
 obtain rfl := hp8
 refine V 7 4 (ma 26 (.bool r1)) ?_
 refine Nss ?_
 refine Sq (Rg [0, 1, 2, 3, 4, 5, 6, 7, 8, 9, 10, 11, 12] ?_)
 refine RWP.cut (fun f w => ∃ (F2 : Mem), HS w0 F0 w F2 [] ∧ Mem.le F1 F2 ∧ f.d = [] ∧ f 0 = (.string ⟨(x0).toArray⟩) ∧ f 1 = (.string ⟨(x1).toArray⟩) ∧ f 2 = (.string ⟨(x2).toArray⟩) ∧ f 7 = (.bool r1) ∧ f 39 = (.bool ((decide ((x0.length : Int) > 1000)) || ((decide ((x1.length : Int) > 1000)) || (decide ((x2.length : Int) > 1000)))))) ?_ ?_
 ·refine V 27 9 (mv 0 (.string ⟨(x0).toArray⟩)) ?_
  refine V 28 3 (run_slen (x := (.tmp 27)) (ats := #[9]) (t := 9) (a := x0) rfl rfl (by kernel_rfl)) ?_
  refine V 29 4 (run_gtr (t := 3) (t' := 3) (x := (.tmp 28)) (y := (.const (vi 1000))) (k := .i64) (a := (x0.length : Int)) (b := 1000) rfl rfl) ?_
  refine V 30 4 (mv 29 (.bool (decide ((x0.length : Int) > 1000)))) ?_
  refine RWP.split (decide ((x0.length : Int) > 1000)) (fun hb18 => ?_) (fun hb18 => ?_)
  ·refine Sk [31, 32, 33] 3 false 30 hb18 ?_
   refine V 34 4 (p1 30 (.const (.bool true)) (.tmp 33) (.bool true) hb18) ?_
   refine V 35 4 (mv 34 (.bool true)) ?_
   refine Sk [36, 37, 38] 8 false 35 rfl ?_
   refine V 39 4 (p1 35 (.const (.bool true)) (.tmp 38) (.bool true) rfl) ?_
   exact RWP.nil ⟨rfl, F1, hs6, (Mem.le.refl _), rfl, rfl, rfl, rfl, rfl, (congrArg Value.bool (or_t hb18 (rfl)))⟩
  ·refine Vg 31 9 3 false 30 hb18 (mv 1 (.string ⟨(x1).toArray⟩)) ?_
   refine Vg 32 3 3 false 30 hb18 (run_slen (x := (.tmp 31)) (ats := #[9]) (t := 9) (a := x1) rfl rfl (by kernel_rfl)) ?_
   refine Vg 33 4 3 false 30 hb18 (run_gtr (t := 3) (t' := 3) (x := (.tmp 32)) (y := (.const (vi 1000))) (k := .i64) (a := (x1.length : Int)) (b := 1000) rfl rfl) ?_
   refine V 34 4 (p0 30 (.const (.bool true)) (.tmp 33) (.bool (decide ((x1.length : Int) > 1000))) hb18) ?_
   refine V 35 4 (mv 34 (.bool (decide ((x1.length : Int) > 1000)))) ?_
   refine RWP.split (decide ((x1.length : Int) > 1000)) (fun hb19 => ?_) (fun hb19 => ?_)
   ·refine Sk [36, 37, 38] 8 false 35 hb19 ?_
    refine V 39 4 (p1 35 (.const (.bool true)) (.tmp 38) (.bool true) hb19) ?_
    exact RWP.nil ⟨rfl, F1, hs6, (Mem.le.refl _), rfl, rfl, rfl, rfl, rfl, (congrArg Value.bool (or_f hb18 (or_t hb19 (rfl))))⟩
   ·refine Vg 36 9 8 false 35 hb19 (mv 2 (.string ⟨(x2).toArray⟩)) ?_
    refine Vg 37 3 8 false 35 hb19 (run_slen (x := (.tmp 36)) (ats := #[9]) (t := 9) (a := x2) rfl rfl (by kernel_rfl)) ?_
    refine Vg 38 4 8 false 35 hb19 (run_gtr (t := 3) (t' := 3) (x := (.tmp 37)) (y := (.const (vi 1000))) (k := .i64) (a := (x2.length : Int)) (b := 1000) rfl rfl) ?_
    refine V 39 4 (p0 35 (.const (.bool true)) (.tmp 38) (.bool (decide ((x2.length : Int) > 1000))) hb19) ?_
    exact RWP.nil ⟨rfl, F1, hs6, (Mem.le.refl _), rfl, rfl, rfl, rfl, rfl, (congrArg Value.bool (or_f hb18 (or_f hb19 (rfl))))⟩
 ·rintro f w9 ⟨F2, hs10, le11, e12, e13, e14, e15, e16, e17⟩
  refine thenQ_nrm ?_
  refine CWP.cond (t := ((decide ((x0.length : Int) > 1000)) || ((decide ((x1.length : Int) > 1000)) || (decide ((x2.length : Int) > 1000))))) (by kernel_rfl) e17 (fun hb20 => ?_) (fun hb20 => ?_)
  ·have h21 := cond_t h3 hb20
   refine Sq (Rg [0, 1] ?_)
   refine V 40 4 (mv 7 (.bool r1) e16) ?_
   refine V 6 4 (ma 40 (.bool r1)) ?_
   refine Nt ?_
   refine CWP.ret (by kernel_rfl) ?_
   refine thenQ_ret ?_
   have hfin := some_inj h21
   subst hfin
   exact ⟨e12, (.bool r1), res_of (l := [.tmp 6]) (by kernel_rfl) (vs := [(.bool r1)]) ⟨rfl, trivial⟩, (.bool r1), F2, rfl, hs10.clear, rfl⟩
  ·have h22 := cond_f h3 hb20
   refine Sc ?_
   refine thenQ_nrm ?_
   refine Sq (Rg [0, 1, 2, 3, 4, 5, 6, 7] ?_)
   refine V 42 9 (mv 0 (.string ⟨(x0).toArray⟩) e13) ?_
   obtain ⟨r23, hr24, h25⟩ := bind_some h22
   refine Cl 43 28 19 #[(.tmp 42)] #[9] co_air_Split hs10 (c_air_Split N w9 F2 hs10.pers (hG.mono (le7.trans le11)) (x0) _ hr24) ?_
   intro v26 F3 w27 hs28 le29 hp30
   obtain rfl := hp30
   refine V 41 28 (mv 43 (.tuple #[(.agg #[(.string ⟨(r23.1.Area).toArray⟩), (.string ⟨(r23.1.Prefix).toArray⟩), (.string ⟨(r23.1.Suffix).toArray⟩), (.string ⟨(r23.1.Stroke).toArray⟩)]), (vi r23.2)])) ?_
   refine V 44 27 (ex 41 0 (.agg #[(.string ⟨(r23.1.Area).toArray⟩), (.string ⟨(r23.1.Prefix).toArray⟩), (.string ⟨(r23.1.Suffix).toArray⟩), (.string ⟨(r23.1.Stroke).toArray⟩)]) (vs := #[(.agg #[(.string ⟨(r23.1.Area).toArray⟩), (.string ⟨(r23.1.Prefix).toArray⟩), (.string ⟨(r23.1.Suffix).toArray⟩), (.string ⟨(r23.1.Stroke).toArray⟩)]), (vi r23.2)])) ?_
   refine V 45 23 (ex 41 1 (vi r23.2) (vs := #[(.agg #[(.string ⟨(r23.1.Area).toArray⟩), (.string ⟨(r23.1.Prefix).toArray⟩), (.string ⟨(r23.1.Suffix).toArray⟩), (.string ⟨(r23.1.Stroke).toArray⟩)]), (vi r23.2)])) ?_
   refine Al 8 0 27 #[(.string ⟨(([] : List UInt8)).toArray⟩), (.string ⟨(([] : List UInt8)).toArray⟩), (.string ⟨(([] : List UInt8)).toArray⟩), (.string ⟨(([] : List UInt8)).toArray⟩)] hs28 (fun b31 w32 (hs33 : HS w0 F0 w32 F3 [(sb b31 #[(.string ⟨(([] : List UInt8)).toArray⟩), (.string ⟨(([] : List UInt8)).toArray⟩), (.string ⟨(([] : List UInt8)).toArray⟩), (.string ⟨(([] : List UInt8)).toArray⟩)] 27)]) => ?_)
   refine RWP.store (ty := 0) (g := none) (by kernel_rfl) rfl (x := (.tmp 8)) (y := (.tmp 44)) (t := 27) (gg := true) (s := 4) (v := (.agg #[(.string ⟨(r23.1.Area).toArray⟩), (.string ⟨(r23.1.Prefix).toArray⟩), (.string ⟨(r23.1.Suffix).toArray⟩), (.string ⟨(r23.1.Stroke).toArray⟩)])) (b := b31) (o := 0) (C := #[(.string ⟨(([] : List UInt8)).toArray⟩), (.string ⟨(([] : List UInt8)).toArray⟩), (.string ⟨(([] : List UInt8)).toArray⟩), (.string ⟨(([] : List UInt8)).toArray⟩)]) rfl rfl (by kernel_rfl) hs33 (k := 0) rfl rfl rfl rfl (C' := #[(.string ⟨(r23.1.Area).toArray⟩), (.string ⟨(r23.1.Prefix).toArray⟩), (.string ⟨(r23.1.Suffix).toArray⟩), (.string ⟨(r23.1.Stroke).toArray⟩)]) rfl (fun w34 (hs35 : HS w0 F0 w34 F3 [(sb b31 #[(.string ⟨(r23.1.Area).toArray⟩), (.string ⟨(r23.1.Prefix).toArray⟩), (.string ⟨(r23.1.Suffix).toArray⟩), (.string ⟨(r23.1.Stroke).toArray⟩)] 27)]) => ?_)
   refine V 9 23 (ma 45 (vi r23.2)) ?_
   refine Nss ?_
   refine Sq (Rg [0, 1, 2, 3, 4] ?_)
   refine V 46 23 (mv 9 (vi r23.2)) ?_
   refine V 47 4 (run_eql (t := 23) (t' := 23) (x := (.tmp 46)) (y := (.const (vi 0))) (k := .i64) (a := r23.2) (b := 0) rfl rfl) ?_
   refine V 48 9 (mv 0 (.string ⟨(x0).toArray⟩) e13) ?_
   obtain ⟨r36, hr37, h38⟩ := bind_some h25
   refine Cl 49 4 37 #[(.tmp 48)] #[9] co_air_ValidCall hs35 (c_air_ValidCall N w34 F3 hs35.pers (hG.mono ((le7.trans le11).trans le29)) (x0) _ hr37) ?_
   intro v39 F4 w40 hs41 le42 hp43
   obtain rfl := hp43
   refine V 50 4 (run_neb (t := 4) (t' := 4) (x := (.tmp 47)) (y := (.tmp 49)) (a := (r23.2 == 0)) (b := r36) rfl rfl (by kernel_rfl)) ?_
   refine Nt ?_
   refine CWP.cond (t := (!((r23.2 == 0) == r36))) (by kernel_rfl) rfl (fun hb44 => ?_) (fun hb44 => ?_)
   ·have h45 := cond_t h38 hb44
    refine Sq (Rg [0] ?_)
    refine V 6 4 (mc (.bool false) (.bool false)) ?_
    refine Nt ?_
    refine CWP.ret (by kernel_rfl) ?_
    refine thenQ_ret ?_
    have hfin := some_inj h45
    subst hfin
    exact ⟨e12, (.bool false), res_of (l := [.tmp 6]) (by kernel_rfl) (vs := [(.bool false)]) ⟨rfl, trivial⟩, (.bool false), F4, rfl, hs41.clear, rfl⟩
   ·have h46 := cond_f h38 hb44
    refine Sc ?_
    refine thenQ_nrm ?_
    refine Sq (Rg [0, 1, 2, 3, 4, 5, 6, 7] ?_)
    refine V 52 9 (mv 0 (.string ⟨(x0).toArray⟩) e13) ?_
    refine V 53 9 (mv 1 (.string ⟨(x1).toArray⟩) e14) ?_
    obtain ⟨r47, hr48, h49⟩ := bind_some h46
    refine Cl 54 46 41 #[(.tmp 52), (.tmp 53)] #[9, 9] co_air_Same hs41 (c_air_Same N w40 F4 hs41.pers (hG.mono (((le7.trans le11).trans le29).trans le42)) (x0) (x1) _ hr48) ?_
    intro v50 F5 w51 hs52 le53 hp54
    obtain rfl := hp54
    refine V 51 46 (mv 54 (.tuple #[(.bool r47.1), (vi r47.2)])) ?_
    refine V 55 4 (ex 51 0 (.bool r47.1) (vs := #[(.bool r47.1), (vi r47.2)])) ?_
    refine V 56 23 (ex 51 1 (vi r47.2) (vs := #[(.bool r47.1), (vi r47.2)])) ?_
    refine V 10 4 (ma 55 (.bool r47.1)) ?_
    refine V 11 23 (ma 56 (vi r47.2)) ?_
    refine Nss (Rg [0, 1, 2, 3, 4, 5, 6, 7] ?_)
    refine V 58 9 (mv 1 (.string ⟨(x1).toArray⟩) e14) ?_
    refine V 59 9 (mv 0 (.string ⟨(x0).toArray⟩) e13) ?_
    obtain ⟨r55, hr56, h57⟩ := bind_some h49
    refine Cl 60 46 41 #[(.tmp 58), (.tmp 59)] #[9, 9] co_air_Same hs52 (c_air_Same N w51 F5 hs52.pers (hG.mono ((((le7.trans le11).trans le29).trans le42).trans le53)) (x1) (x0) _ hr56) ?_
    intro v58 F6 w59 hs60 le61 hp62
    obtain rfl := hp62
    refine V 57 46 (mv 60 (.tuple #[(.bool r55.1), (vi r55.2)])) ?_
    refine V 61 4 (ex 57 0 (.bool r55.1) (vs := #[(.bool r55.1), (vi r55.2)])) ?_
    refine V 62 23 (ex 57 1 (vi r55.2) (vs := #[(.bool r55.1), (vi r55.2)])) ?_
    refine V 12 4 (ma 61 (.bool r55.1)) ?_
    refine V 13 23 (ma 62 (vi r55.2)) ?_
    refine Nss (Rg [0, 1, 2, 3, 4, 5, 6, 7] ?_)
    refine V 64 9 (mv 1 (.string ⟨(x1).toArray⟩) e14) ?_
    refine V 65 9 (mv 2 (.string ⟨(x2).toArray⟩) e15) ?_
    obtain ⟨r63, hr64, h65⟩ := bind_some h57
    refine Cl 66 46 41 #[(.tmp 64), (.tmp 65)] #[9, 9] co_air_Same hs60 (c_air_Same N w59 F6 hs60.pers (hG.mono (((((le7.trans le11).trans le29).trans le42).trans le53).trans le61)) (x1) (x2) _ hr64) ?_
    intro v66 F7 w67 hs68 le69 hp70
    obtain rfl := hp70
    refine V 63 46 (mv 66 (.tuple #[(.bool r63.1), (vi r63.2)])) ?_
    refine V 67 4 (ex 63 0 (.bool r63.1) (vs := #[(.bool r63.1), (vi r63.2)])) ?_
    refine V 68 23 (ex 63 1 (vi r63.2) (vs := #[(.bool r63.1), (vi r63.2)])) ?_
    refine V 14 4 (ma 67 (.bool r63.1)) ?_
    refine V 15 23 (ma 68 (vi r63.2)) ?_
    refine Nss (Rg [0, 1, 2, 3, 4, 5, 6, 7] ?_)
    refine V 70 9 (mv 0 (.string ⟨(x0).toArray⟩) e13) ?_
    refine V 71 9 (mv 2 (.string ⟨(x2).toArray⟩) e15) ?_
    obtain ⟨r71, hr72, h73⟩ := bind_some h65
    refine Cl 72 46 41 #[(.tmp 70), (.tmp 71)] #[9, 9] co_air_Same hs68 (c_air_Same N w67 F7 hs68.pers (hG.mono ((((((le7.trans le11).trans le29).trans le42).trans le53).trans le61).trans le69)) (x0) (x2) _ hr72) ?_
    intro v74 F8 w75 hs76 le77 hp78
    obtain rfl := hp78
    refine V 69 46 (mv 72 (.tuple #[(.bool r71.1), (vi r71.2)])) ?_
    refine V 73 4 (ex 69 0 (.bool r71.1) (vs := #[(.bool r71.1), (vi r71.2)])) ?_
    refine V 74 23 (ex 69 1 (vi r71.2) (vs := #[(.bool r71.1), (vi r71.2)])) ?_
    refine V 16 4 (ma 73 (.bool r71.1)) ?_
    refine V 17 23 (ma 74 (vi r71.2)) ?_
    refine Nss ?_
    refine Sq (Rg [0, 1, 2, 3, 4, 5, 6, 7, 8, 9, 10, 11, 12, 13, 14, 15, 16, 17, 18, 19, 20, 21, 22, 23, 24, 25, 26, 27, 28, 29] ?_)
    refine RWP.cut (fun f w => ∃ (F9 : Mem), HS w0 F0 w F9 [(sb b31 #[(.string ⟨(r23.1.Area).toArray⟩), (.string ⟨(r23.1.Prefix).toArray⟩), (.string ⟨(r23.1.Suffix).toArray⟩), (.string ⟨(r23.1.Stroke).toArray⟩)] 27)] ∧ Mem.le F8 F9 ∧ f.d = [] ∧ f 0 = (.string ⟨(x0).toArray⟩) ∧ f 7 = (.bool r1) ∧ f 8 = (.pointer (some ⟨b31, 0, none⟩)) ∧ f 9 = (vi r23.2) ∧ f 104 = (.bool ((!(r47.1 == r55.1)) || ((r47.2 != r55.2) || ((r63.2 == 0) && ((r47.2 == 0) && ((r71.2 != 0) || (r47.1 && (r63.1 && (!r71.1)))))))))) ?_ ?_
    ·refine V 75 4 (mv 10 (.bool r47.1)) ?_
     refine V 76 4 (mv 12 (.bool r55.1)) ?_
     refine V 77 4 (run_neb (t := 4) (t' := 4) (x := (.tmp 75)) (y := (.tmp 76)) (a := r47.1) (b := r55.1) rfl rfl (by kernel_rfl)) ?_
     refine V 78 4 (mv 77 (.bool (!(r47.1 == r55.1)))) ?_
     refine RWP.split (!(r47.1 == r55.1)) (fun hb88 => ?_) (fun hb88 => ?_)
     ·refine Sk [79, 80, 81] 3 false 78 hb88 ?_
      refine V 82 4 (p1 78 (.const (.bool true)) (.tmp 81) (.bool true) hb88) ?_
      refine V 83 4 (mv 82 (.bool true)) ?_
      refine Sk [84, 85, 86] 8 false 83 rfl ?_
      refine Su [87, 88] 11 true 86 ?_
      refine Sk [89, 90] 8 false 83 rfl ?_
      refine Su [91, 92, 93] 15 true 90 ?_
      refine Su [94, 95] 18 false 93 ?_
      refine Su [96] 20 true 95 ?_
      refine Su [97, 98] 18 false 93 ?_
      refine Su [99, 100] 23 true 98 ?_
      refine Su [101] 18 false 93 ?_
      refine Su [102] 15 true 90 ?_
      refine Sk [103] 8 false 83 rfl ?_
      refine V 104 4 (p1 83 (.const (.bool true)) (.tmp 103) (.bool true) rfl) ?_
      exact RWP.nil ⟨rfl, F8, hs76, (Mem.le.refl _), e12, e13, e16, rfl, rfl, (congrArg Value.bool (or_t hb88 (rfl)))⟩
     ·refine Vg 79 23 3 false 78 hb88 (mv 11 (vi r47.2)) ?_
      refine Vg 80 23 3 false 78 hb88 (mv 13 (vi r55.2)) ?_
      refine Vg 81 4 3 false 78 hb88 (run_neq (t := 23) (t' := 23) (x := (.tmp 79)) (y := (.tmp 80)) (k := .i64) (a := r47.2) (b := r55.2) rfl rfl) ?_
      refine V 82 4 (p0 78 (.const (.bool true)) (.tmp 81) (.bool (r47.2 != r55.2)) hb88) ?_
      refine V 83 4 (mv 82 (.bool (r47.2 != r55.2))) ?_
      refine RWP.split (r47.2 != r55.2) (fun hb89 => ?_) (fun hb89 => ?_)
      ·refine Sk [84, 85, 86] 8 false 83 hb89 ?_
       refine Su [87, 88] 11 true 86 ?_
       refine Sk [89, 90] 8 false 83 hb89 ?_
       refine Su [91, 92, 93] 15 true 90 ?_
       refine Su [94, 95] 18 false 93 ?_
       refine Su [96] 20 true 95 ?_
       refine Su [97, 98] 18 false 93 ?_
       refine Su [99, 100] 23 true 98 ?_
       refine Su [101] 18 false 93 ?_
       refine Su [102] 15 true 90 ?_
       refine Sk [103] 8 false 83 hb89 ?_
       refine V 104 4 (p1 83 (.const (.bool true)) (.tmp 103) (.bool true) hb89) ?_
       exact RWP.nil ⟨rfl, F8, hs76, (Mem.le.refl _), e12, e13, e16, rfl, rfl, (congrArg Value.bool (or_f hb88 (or_t hb89 (rfl))))⟩
      ·refine Vg 84 23 8 false 83 hb89 (mv 15 (vi r63.2)) ?_
       refine Vg 85 4 8 false 83 hb89 (run_eql (t := 23) (t' := 23) (x := (.tmp 84)) (y := (.const (vi 0))) (k := .i64) (a := r63.2) (b := 0) rfl rfl) ?_
       refine Vg 86 4 8 false 83 hb89 (mv 85 (.bool (r63.2 == 0))) ?_
       refine RWP.split (r63.2 == 0) (fun hb90 => ?_) (fun hb90 => ?_)
       ·refine Vg 87 23 11 true 86 hb90 (mv 11 (vi r47.2)) ?_
        refine Vg 88 4 11 true 86 hb90 (run_eql (t := 23) (t' := 23) (x := (.tmp 87)) (y := (.const (vi 0))) (k := .i64) (a := r47.2) (b := 0) rfl rfl) ?_
        refine Vg 89 4 8 false 83 hb89 (p1 86 (.tmp 88) (.const (.bool false)) (.bool (r47.2 == 0)) hb90) ?_
        refine Vg 90 4 8 false 83 hb89 (mv 89 (.bool (r47.2 == 0))) ?_
        refine RWP.split (r47.2 == 0) (fun hb91 => ?_) (fun hb91 => ?_)
        ·refine Vg 91 23 15 true 90 hb91 (mv 17 (vi r71.2)) ?_
         refine Vg 92 4 15 true 90 hb91 (run_neq (t := 23) (t' := 23) (x := (.tmp 91)) (y := (.const (vi 0))) (k := .i64) (a := r71.2) (b := 0) rfl rfl) ?_
         refine Vg 93 4 15 true 90 hb91 (mv 92 (.bool (r71.2 != 0))) ?_
         refine RWP.split (r71.2 != 0) (fun hb92 => ?_) (fun hb92 => ?_)
         ·refine Sk [94, 95] 18 false 93 hb92 ?_
          refine Su [96] 20 true 95 ?_
          refine Sk [97, 98] 18 false 93 hb92 ?_
          refine Su [99, 100] 23 true 98 ?_
          refine Sk [101] 18 false 93 hb92 ?_
          refine Vg 102 4 15 true 90 hb91 (p1 93 (.const (.bool true)) (.tmp 101) (.bool true) hb92) ?_
          refine Vg 103 4 8 false 83 hb89 (p1 90 (.tmp 102) (.const (.bool false)) (.bool true) hb91) ?_
          refine V 104 4 (p0 83 (.const (.bool true)) (.tmp 103) (.bool true) hb89) ?_
          exact RWP.nil ⟨rfl, F8, hs76, (Mem.le.refl _), e12, e13, e16, rfl, rfl, (congrArg Value.bool (or_f hb88 (or_f hb89 (and_t hb90 (and_t hb91 (or_t hb92 (rfl)))))))⟩
         ·refine Vg 94 4 18 false 93 hb92 (mv 10 (.bool r47.1)) ?_
          refine Vg 95 4 18 false 93 hb92 (mv 94 (.bool r47.1)) ?_
          refine RWP.split r47.1 (fun hb93 => ?_) (fun hb93 => ?_)
          ·refine Vg 96 4 20 true 95 hb93 (mv 14 (.bool r63.1)) ?_
           refine Vg 97 4 18 false 93 hb92 (p1 95 (.tmp 96) (.const (.bool false)) (.bool r63.1) hb93) ?_
           refine Vg 98 4 18 false 93 hb92 (mv 97 (.bool r63.1)) ?_
           refine RWP.split r63.1 (fun hb94 => ?_) (fun hb94 => ?_)
           ·refine Vg 99 4 23 true 98 hb94 (mv 16 (.bool r71.1)) ?_
            refine Vg 100 4 23 true 98 hb94 (run_not (t := 4) (x := (.tmp 99)) (a := r71.1) rfl) ?_
            refine Vg 101 4 18 false 93 hb92 (p1 98 (.tmp 100) (.const (.bool false)) (.bool (!r71.1)) hb94) ?_
            refine Vg 102 4 15 true 90 hb91 (p0 93 (.const (.bool true)) (.tmp 101) (.bool (!r71.1)) hb92) ?_
            refine Vg 103 4 8 false 83 hb89 (p1 90 (.tmp 102) (.const (.bool false)) (.bool (!r71.1)) hb91) ?_
            refine V 104 4 (p0 83 (.const (.bool true)) (.tmp 103) (.bool (!r71.1)) hb89) ?_
            exact RWP.nil ⟨rfl, F8, hs76, (Mem.le.refl _), e12, e13, e16, rfl, rfl, (congrArg Value.bool (or_f hb88 (or_f hb89 (and_t hb90 (and_t hb91 (or_f hb92 (and_t hb93 (and_t hb94 (rfl)))))))))⟩
           ·refine Sk [99, 100] 23 true 98 hb94 ?_
            refine Vg 101 4 18 false 93 hb92 (p0 98 (.tmp 100) (.const (.bool false)) (.bool false) hb94) ?_
            refine Vg 102 4 15 true 90 hb91 (p0 93 (.const (.bool true)) (.tmp 101) (.bool false) hb92) ?_
            refine Vg 103 4 8 false 83 hb89 (p1 90 (.tmp 102) (.const (.bool false)) (.bool false) hb91) ?_
            refine V 104 4 (p0 83 (.const (.bool true)) (.tmp 103) (.bool false) hb89) ?_
            exact RWP.nil ⟨rfl, F8, hs76, (Mem.le.refl _), e12, e13, e16, rfl, rfl, (congrArg Value.bool (or_f hb88 (or_f hb89 (and_t hb90 (and_t hb91 (or_f hb92 (and_t hb93 (and_f hb94 (rfl)))))))))⟩
          ·refine Sk [96] 20 true 95 hb93 ?_
           refine Vg 97 4 18 false 93 hb92 (p0 95 (.tmp 96) (.const (.bool false)) (.bool false) hb93) ?_
           refine Vg 98 4 18 false 93 hb92 (mv 97 (.bool false)) ?_
           refine Sk [99, 100] 23 true 98 rfl ?_
           refine Vg 101 4 18 false 93 hb92 (p0 98 (.tmp 100) (.const (.bool false)) (.bool false) rfl) ?_
           refine Vg 102 4 15 true 90 hb91 (p0 93 (.const (.bool true)) (.tmp 101) (.bool false) hb92) ?_
           refine Vg 103 4 8 false 83 hb89 (p1 90 (.tmp 102) (.const (.bool false)) (.bool false) hb91) ?_
           refine V 104 4 (p0 83 (.const (.bool true)) (.tmp 103) (.bool false) hb89) ?_
           exact RWP.nil ⟨rfl, F8, hs76, (Mem.le.refl _), e12, e13, e16, rfl, rfl, (congrArg Value.bool (or_f hb88 (or_f hb89 (and_t hb90 (and_t hb91 (or_f hb92 (and_f hb93 (rfl))))))))⟩
        ·refine Sk [91, 92, 93] 15 true 90 hb91 ?_
         refine Su [94, 95] 18 false 93 ?_
         refine Su [96] 20 true 95 ?_
         refine Su [97, 98] 18 false 93 ?_
         refine Su [99, 100] 23 true 98 ?_
         refine Su [101] 18 false 93 ?_
         refine Sk [102] 15 true 90 hb91 ?_
         refine Vg 103 4 8 false 83 hb89 (p0 90 (.tmp 102) (.const (.bool false)) (.bool false) hb91) ?_
         refine V 104 4 (p0 83 (.const (.bool true)) (.tmp 103) (.bool false) hb89) ?_
         exact RWP.nil ⟨rfl, F8, hs76, (Mem.le.refl _), e12, e13, e16, rfl, rfl, (congrArg Value.bool (or_f hb88 (or_f hb89 (and_t hb90 (and_f hb91 (rfl))))))⟩
       ·refine Sk [87, 88] 11 true 86 hb90 ?_
        refine Vg 89 4 8 false 83 hb89 (p0 86 (.tmp 88) (.const (.bool false)) (.bool false) hb90) ?_
        refine Vg 90 4 8 false 83 hb89 (mv 89 (.bool false)) ?_
        refine Sk [91, 92, 93] 15 true 90 rfl ?_
        refine Su [94, 95] 18 false 93 ?_
        refine Su [96] 20 true 95 ?_
        refine Su [97, 98] 18 false 93 ?_
        refine Su [99, 100] 23 true 98 ?_
        refine Su [101] 18 false 93 ?_
        refine Sk [102] 15 true 90 rfl ?_
        refine Vg 103 4 8 false 83 hb89 (p0 90 (.tmp 102) (.const (.bool false)) (.bool false) rfl) ?_
        refine V 104 4 (p0 83 (.const (.bool true)) (.tmp 103) (.bool false) hb89) ?_
        exact RWP.nil ⟨rfl, F8, hs76, (Mem.le.refl _), e12, e13, e16, rfl, rfl, (congrArg Value.bool (or_f hb88 (or_f hb89 (and_f hb90 (rfl)))))⟩
    ·rintro f w79 ⟨F9, hs80, le81, e82, e83, e84, e85, e86, e87⟩
     refine thenQ_nrm ?_
     refine CWP.cond (t := ((!(r47.1 == r55.1)) || ((r47.2 != r55.2) || ((r63.2 == 0) && ((r47.2 == 0) && ((r71.2 != 0) || (r47.1 && (r63.1 && (!r71.1))))))))) (by kernel_rfl) e87 (fun hb95 => ?_) (fun hb95 => ?_)
     ·have h96 := cond_t h73 hb95
      refine Sq (Rg [0] ?_)
      refine V 6 4 (mc (.bool false) (.bool false)) ?_
      refine Nt ?_
      refine CWP.ret (by kernel_rfl) ?_
      refine thenQ_ret ?_
      have hfin := some_inj h96
      subst hfin
      exact ⟨e82, (.bool false), res_of (l := [.tmp 6]) (by kernel_rfl) (vs := [(.bool false)]) ⟨rfl, trivial⟩, (.bool false), F9, rfl, hs80.clear, rfl⟩
     ·have h97 := cond_f h73 hb95
      refine Sc ?_
      refine thenQ_nrm ?_
      refine Sq ?_
      refine Sq (Rg [0, 1] ?_)
      refine V 105 23 (mv 9 (vi r23.2) e86) ?_
      refine V 106 4 (run_neq (t := 23) (t' := 23) (x := (.tmp 105)) (y := (.const (vi 0))) (k := .i64) (a := r23.2) (b := 0) rfl rfl) ?_
      refine Nt ?_
      refine CWP.cond (t := (r23.2 != 0)) (by kernel_rfl) rfl (fun hb98 => ?_) (fun hb98 => ?_)
      ·have h99 := cond_t h97 hb98
       refine Sq (Rg [0, 1, 2, 3, 4, 5, 6, 7, 8, 9, 10] ?_)
       refine RWP.cut (fun f w => ∃ (F10 : Mem), HS w0 F0 w F10 [] ∧ Mem.le F9 F10 ∧ f.d = [] ∧ f 6 = (.bool (r1 && ((r23.2 == 10) && ((r23.1.Area == ([] : List UInt8)) && ((r23.1.Prefix == ([] : List UInt8)) && ((r23.1.Suffix == ([] : List UInt8)) && ((r23.1.Stroke == ([] : List UInt8)) && true)))))))) ?_ ?_
       ·refine V 107 4 (mv 7 (.bool r1) e84) ?_
        refine V 108 4 (mv 107 (.bool r1)) ?_
        refine RWP.split r1 (fun hb105 => ?_) (fun hb105 => ?_)
        ·refine Vg 109 23 1 true 108 hb105 (mv 9 (vi r23.2) e86) ?_
         refine Vg 110 4 1 true 108 hb105 (run_eql (t := 23) (t' := 23) (x := (.tmp 109)) (y := (.const (vi 10))) (k := .i64) (a := r23.2) (b := 10) rfl rfl) ?_
         refine V 111 4 (p1 108 (.tmp 110) (.const (.bool false)) (.bool (r23.2 == 10)) hb105) ?_
         refine V 112 4 (mv 111 (.bool (r23.2 == 10))) ?_
         refine RWP.split (r23.2 == 10) (fun hb106 => ?_) (fun hb106 => ?_)
         ·refine Vg 113 27 5 true 112 hb106 (ld 27 8 b31 0 true 4 (.agg #[(.string ⟨(r23.1.Area).toArray⟩), (.string ⟨(r23.1.Prefix).toArray⟩), (.string ⟨(r23.1.Suffix).toArray⟩), (.string ⟨(r23.1.Stroke).toArray⟩)]) (hs80.ownAt (k := 0) rfl) e85) ?_
          refine Vg 114 27 5 true 112 hb106 (run_build2 (t := 27) (parts := #[]) (vs := []) (rfl) (cs := [(.string ⟨(([] : List UInt8)).toArray⟩), (.string ⟨(([] : List UInt8)).toArray⟩), (.string ⟨(([] : List UInt8)).toArray⟩), (.string ⟨(([] : List UInt8)).toArray⟩)]) (by kernel_rfl)) ?_
          refine Vg 115 4 5 true 112 hb106 (run_eqs (t := 27) (t' := 27) (x := (.tmp 113)) (y := (.tmp 114)) (xs := #[(.string ⟨(r23.1.Area).toArray⟩), (.string ⟨(r23.1.Prefix).toArray⟩), (.string ⟨(r23.1.Suffix).toArray⟩), (.string ⟨(r23.1.Stroke).toArray⟩)]) (ys := #[(.string ⟨(([] : List UInt8)).toArray⟩), (.string ⟨(([] : List UInt8)).toArray⟩), (.string ⟨(([] : List UInt8)).toArray⟩), (.string ⟨(([] : List UInt8)).toArray⟩)]) (b := ((r23.1.Area == ([] : List UInt8)) && ((r23.1.Prefix == ([] : List UInt8)) && ((r23.1.Suffix == ([] : List UInt8)) && ((r23.1.Stroke == ([] : List UInt8)) && true))))) rfl rfl (by kernel_rfl) (by kernel_rfl)) ?_
          refine V 116 4 (p1 112 (.tmp 115) (.const (.bool false)) (.bool ((r23.1.Area == ([] : List UInt8)) && ((r23.1.Prefix == ([] : List UInt8)) && ((r23.1.Suffix == ([] : List UInt8)) && ((r23.1.Stroke == ([] : List UInt8)) && true))))) hb106) ?_
          refine V 6 4 (ma 116 (.bool ((r23.1.Area == ([] : List UInt8)) && ((r23.1.Prefix == ([] : List UInt8)) && ((r23.1.Suffix == ([] : List UInt8)) && ((r23.1.Stroke == ([] : List UInt8)) && true)))))) ?_
          have hs107 : HS w0 F0 w79 F9 [] := hs80.drop 0
          exact RWP.nil ⟨rfl, F9, hs107, (Mem.le.refl _), e82, (congrArg Value.bool (and_t hb105 (and_t hb106 (rfl))))⟩
         ·refine Sk [113, 114, 115] 5 true 112 hb106 ?_
          refine V 116 4 (p0 112 (.tmp 115) (.const (.bool false)) (.bool false) hb106) ?_
          refine V 6 4 (ma 116 (.bool false)) ?_
          have hs108 : HS w0 F0 w79 F9 [] := hs80.drop 0
          exact RWP.nil ⟨rfl, F9, hs108, (Mem.le.refl _), e82, (congrArg Value.bool (and_t hb105 (and_f hb106 (rfl))))⟩
        ·refine Sk [109, 110] 1 true 108 hb105 ?_
         refine V 111 4 (p0 108 (.tmp 110) (.const (.bool false)) (.bool false) hb105) ?_
         refine V 112 4 (mv 111 (.bool false)) ?_
         refine Sk [113, 114, 115] 5 true 112 rfl ?_
         refine V 116 4 (p0 112 (.tmp 115) (.const (.bool false)) (.bool false) rfl) ?_
         refine V 6 4 (ma 116 (.bool false)) ?_
         have hs109 : HS w0 F0 w79 F9 [] := hs80.drop 0
         exact RWP.nil ⟨rfl, F9, hs109, (Mem.le.refl _), e82, (congrArg Value.bool (and_f hb105 (rfl)))⟩
       ·rintro f w100 ⟨F10, hs101, le102, e103, e104⟩
        refine thenQ_nrm ?_
        refine CWP.ret (by kernel_rfl) ?_
        refine thenQ_ret ?_
        have hfin := some_inj h99
        subst hfin
        exact ⟨e103, (.bool (r1 && ((r23.2 == 10) && ((r23.1.Area == ([] : List UInt8)) && ((r23.1.Prefix == ([] : List UInt8)) && ((r23.1.Suffix == ([] : List UInt8)) && ((r23.1.Stroke == ([] : List UInt8)) && true))))))), res_of (l := [.tmp 6]) (by kernel_rfl) (vs := [(.bool (r1 && ((r23.2 == 10) && ((r23.1.Area == ([] : List UInt8)) && ((r23.1.Prefix == ([] : List UInt8)) && ((r23.1.Suffix == ([] : List UInt8)) && ((r23.1.Stroke == ([] : List UInt8)) && true)))))))]) ⟨e104, trivial⟩, (.bool (r1 && ((r23.2 == 10) && ((r23.1.Area == ([] : List UInt8)) && ((r23.1.Prefix == ([] : List UInt8)) && ((r23.1.Suffix == ([] : List UInt8)) && ((r23.1.Stroke == ([] : List UInt8)) && true))))))), F10, rfl, hs101.clear, rfl⟩
      ·have h110 := cond_f h97 hb98
       refine Sc ?_
       refine thenQ_nrm ?_
       refine Sq (Rg [0, 1, 2, 3, 4, 5, 6] ?_)
       refine V 118 27 (ld 27 8 b31 0 true 4 (.agg #[(.string ⟨(r23.1.Area).toArray⟩), (.string ⟨(r23.1.Prefix).toArray⟩), (.string ⟨(r23.1.Suffix).toArray⟩), (.string ⟨(r23.1.Stroke).toArray⟩)]) (hs80.ownAt (k := 0) rfl) e85) ?_
       obtain ⟨r111, hr112, h113⟩ := bind_some h110
       refine Cl 119 24 35 #[(.tmp 118)] #[27] co_air_Join hs80 (c_air_Join N w79 F9 hs80.pers (hG.mono ((((((((le7.trans le11).trans le29).trans le42).trans le53).trans le61).trans le69).trans le77).trans le81)) (r23.1) _ hr112) ?_
       intro v114 F11 w115 hs116 le117 hp118
       obtain rfl := hp118
       refine V 117 24 (mv 119 (.tuple #[(.string ⟨(r111.1).toArray⟩), (vi r111.2)])) ?_
       refine V 120 9 (ex 117 0 (.string ⟨(r111.1).toArray⟩) (vs := #[(.string ⟨(r111.1).toArray⟩), (vi r111.2)])) ?_
       refine V 121 23 (ex 117 1 (vi r111.2) (vs := #[(.string ⟨(r111.1).toArray⟩), (vi r111.2)])) ?_
       refine V 18 9 (ma 120 (.string ⟨(r111.1).toArray⟩)) ?_
       refine V 19 23 (ma 121 (vi r111.2)) ?_
       refine Nss (Rg [0, 1, 2, 3, 4, 5, 6] ?_)
       refine V 123 9 (mv 0 (.string ⟨(x0).toArray⟩) e83) ?_
       obtain ⟨r119, hr120, h121⟩ := bind_some h113
       refine Cl 124 24 39 #[(.tmp 123)] #[9] co_air_Base hs116 (c_air_Base N w115 F11 hs116.pers (hG.mono (((((((((le7.trans le11).trans le29).trans le42).trans le53).trans le61).trans le69).trans le77).trans le81).trans le117)) (x0) _ hr120) ?_
       intro v122 F12 w123 hs124 le125 hp126
       obtain rfl := hp126
       refine V 122 24 (mv 124 (.tuple #[(.string ⟨(r119.1).toArray⟩), (vi r119.2)])) ?_
       refine V 125 9 (ex 122 0 (.string ⟨(r119.1).toArray⟩) (vs := #[(.string ⟨(r119.1).toArray⟩), (vi r119.2)])) ?_
       refine V 126 23 (ex 122 1 (vi r119.2) (vs := #[(.string ⟨(r119.1).toArray⟩), (vi r119.2)])) ?_
       refine V 20 9 (ma 125 (.string ⟨(r119.1).toArray⟩)) ?_
       refine V 21 23 (ma 126 (vi r119.2)) ?_
       refine Nss (Rg [0, 1, 2, 3, 4, 5, 6] ?_)
       refine V 128 9 (mv 20 (.string ⟨(r119.1).toArray⟩)) ?_
       obtain ⟨r127, hr128, h129⟩ := bind_some h121
       refine Cl 129 24 39 #[(.tmp 128)] #[9] co_air_Base hs124 (c_air_Base N w123 F12 hs124.pers (hG.mono ((((((((((le7.trans le11).trans le29).trans le42).trans le53).trans le61).trans le69).trans le77).trans le81).trans le117).trans le125)) (r119.1) _ hr128) ?_
       intro v130 F13 w131 hs132 le133 hp134
       obtain rfl := hp134
       refine V 127 24 (mv 129 (.tuple #[(.string ⟨(r127.1).toArray⟩), (vi r127.2)])) ?_
       refine V 130 9 (ex 127 0 (.string ⟨(r127.1).toArray⟩) (vs := #[(.string ⟨(r127.1).toArray⟩), (vi r127.2)])) ?_
       refine V 131 23 (ex 127 1 (vi r127.2) (vs := #[(.string ⟨(r127.1).toArray⟩), (vi r127.2)])) ?_
       refine V 22 9 (ma 130 (.string ⟨(r127.1).toArray⟩)) ?_
       refine V 23 23 (ma 131 (vi r127.2)) ?_
       refine Nss (Rg [0, 1, 2, 3, 4, 5, 6, 7] ?_)
       refine V 133 9 (mv 0 (.string ⟨(x0).toArray⟩) e83) ?_
       refine V 134 9 (mv 20 (.string ⟨(r119.1).toArray⟩)) ?_
       obtain ⟨r135, hr136, h137⟩ := bind_some h129
       refine Cl 135 46 41 #[(.tmp 133), (.tmp 134)] #[9, 9] co_air_Same hs132 (c_air_Same N w131 F13 hs132.pers (hG.mono (((((((((((le7.trans le11).trans le29).trans le42).trans le53).trans le61).trans le69).trans le77).trans le81).trans le117).trans le125).trans le133)) (x0) (r119.1) _ hr136) ?_
       intro v138 F14 w139 hs140 le141 hp142
       obtain rfl := hp142
       refine V 132 46 (mv 135 (.tuple #[(.bool r135.1), (vi r135.2)])) ?_
       refine V 136 4 (ex 132 0 (.bool r135.1) (vs := #[(.bool r135.1), (vi r135.2)])) ?_
       refine V 137 23 (ex 132 1 (vi r135.2) (vs := #[(.bool r135.1), (vi r135.2)])) ?_
       refine V 24 4 (ma 136 (.bool r135.1)) ?_
       refine V 25 23 (ma 137 (vi r135.2)) ?_
       refine Nss (Rg [0, 1, 2, 3, 4, 5, 6, 7, 8, 9, 10, 11, 12, 13, 14, 15, 16, 17, 18, 19, 20, 21, 22, 23, 24, 25, 26, 27, 28, 29, 30, 31, 32, 33, 34, 35, 36, 37, 38, 39] ?_)
       obtain ⟨j146, hj149, h150⟩ := bind_some h137
       refine RWP.cut (fun f w => ∃ (F15 : Mem), HS w0 F0 w F15 [] ∧ Mem.le F14 F15 ∧ f.d = [] ∧ f 6 = (.bool j146)) ?_ ?_
       ·refine V 138 4 (mv 7 (.bool r1) e84) ?_
        refine V 139 4 (mv 138 (.bool r1)) ?_
        refine RWP.split r1 (fun hb151 => ?_) (fun hb151 => ?_)
        ·have h152 := cond_t hj149 hb151
         refine Vg 140 23 1 true 139 hb151 (mv 19 (vi r111.2)) ?_
         refine Vg 141 4 1 true 139 hb151 (run_eql (t := 23) (t' := 23) (x := (.tmp 140)) (y := (.const (vi 0))) (k := .i64) (a := r111.2) (b := 0) rfl rfl) ?_
         refine V 142 4 (p1 139 (.tmp 141) (.const (.bool false)) (.bool (r111.2 == 0)) hb151) ?_
         refine V 143 4 (mv 142 (.bool (r111.2 == 0))) ?_
         refine RWP.split (r111.2 == 0) (fun hb153 => ?_) (fun hb153 => ?_)
         ·have h154 := cond_t h152 hb153
          refine Vg 144 9 5 true 143 hb153 (mv 18 (.string ⟨(r111.1).toArray⟩)) ?_
          refine Vg 145 9 5 true 143 hb153 (mv 0 (.string ⟨(x0).toArray⟩) e83) ?_
          refine Vg 146 4 5 true 143 hb153 (run_scmp (t := 9) (t' := 9) (x := (.tmp 144)) (y := (.tmp 145)) (op := .eql) (a := r111.1) (b := x0) (v := (r111.1 == x0)) rfl rfl rfl) ?_
          refine V 147 4 (p1 143 (.tmp 146) (.const (.bool false)) (.bool (r111.1 == x0)) hb153) ?_
          refine V 148 4 (mv 147 (.bool (r111.1 == x0))) ?_
          refine RWP.split (r111.1 == x0) (fun hb155 => ?_) (fun hb155 => ?_)
          ·have h156 := cond_t h154 hb155
           refine Vg 149 23 10 true 148 hb155 (mv 21 (vi r119.2)) ?_
           refine Vg 150 4 10 true 148 hb155 (run_eql (t := 23) (t' := 23) (x := (.tmp 149)) (y := (.const (vi 0))) (k := .i64) (a := r119.2) (b := 0) rfl rfl) ?_
           refine V 151 4 (p1 148 (.tmp 150) (.const (.bool false)) (.bool (r119.2 == 0)) hb155) ?_
           refine V 152 4 (mv 151 (.bool (r119.2 == 0))) ?_
           refine RWP.split (r119.2 == 0) (fun hb157 => ?_) (fun hb157 => ?_)
           ·have h158 := cond_t h156 hb157
            refine Vg 153 23 14 true 152 hb157 (mv 23 (vi r127.2)) ?_
            refine Vg 154 4 14 true 152 hb157 (run_eql (t := 23) (t' := 23) (x := (.tmp 153)) (y := (.const (vi 0))) (k := .i64) (a := r127.2) (b := 0) rfl rfl) ?_
            refine V 155 4 (p1 152 (.tmp 154) (.const (.bool false)) (.bool (r127.2 == 0)) hb157) ?_
            refine V 156 4 (mv 155 (.bool (r127.2 == 0))) ?_
            refine RWP.split (r127.2 == 0) (fun hb159 => ?_) (fun hb159 => ?_)
            ·have h160 := cond_t h158 hb159
             refine Vg 157 9 18 true 156 hb159 (mv 22 (.string ⟨(r127.1).toArray⟩)) ?_
             refine Vg 158 9 18 true 156 hb159 (mv 20 (.string ⟨(r119.1).toArray⟩)) ?_
             refine Vg 159 4 18 true 156 hb159 (run_scmp (t := 9) (t' := 9) (x := (.tmp 157)) (y := (.tmp 158)) (op := .eql) (a := r127.1) (b := r119.1) (v := (r127.1 == r119.1)) rfl rfl rfl) ?_
             refine V 160 4 (p1 156 (.tmp 159) (.const (.bool false)) (.bool (r127.1 == r119.1)) hb159) ?_
             refine V 161 4 (mv 160 (.bool (r127.1 == r119.1))) ?_
             refine RWP.split (r127.1 == r119.1) (fun hb161 => ?_) (fun hb161 => ?_)
             ·have h162 := cond_t h160 hb161
              refine Vg 162 23 23 true 161 hb161 (mv 25 (vi r135.2)) ?_
              refine Vg 163 4 23 true 161 hb161 (run_eql (t := 23) (t' := 23) (x := (.tmp 162)) (y := (.const (vi 0))) (k := .i64) (a := r135.2) (b := 0) rfl rfl) ?_
              refine V 164 4 (p1 161 (.tmp 163) (.const (.bool false)) (.bool (r135.2 == 0)) hb161) ?_
              refine V 165 4 (mv 164 (.bool (r135.2 == 0))) ?_
              refine RWP.split (r135.2 == 0) (fun hb163 => ?_) (fun hb163 => ?_)
              ·have h164 := cond_t h162 hb163
               refine Vg 166 4 27 true 165 hb163 (mv 24 (.bool r135.1)) ?_
               refine V 167 4 (p1 165 (.tmp 166) (.const (.bool false)) (.bool r135.1) hb163) ?_
               refine V 168 4 (mv 167 (.bool r135.1)) ?_
               refine RWP.split r135.1 (fun hb165 => ?_) (fun hb165 => ?_)
               ·have h166 := cond_t h164 hb165
                refine Vg 169 9 30 true 168 hb165 (mv 20 (.string ⟨(r119.1).toArray⟩)) ?_
                refine Vg 170 0 30 true 168 hb165 (fa 27 8 1 1 1 b31 0 1 e85) ?_
                refine Vg 171 9 30 true 168 hb165 (ld 9 170 b31 1 false 1 (.string ⟨(r23.1.Prefix).toArray⟩) (hs140.ownAt (k := 0) rfl)) ?_
                refine Vg 172 0 30 true 168 hb165 (fa 27 8 2 2 1 b31 0 2 e85) ?_
                refine Vg 173 9 30 true 168 hb165 (ld 9 172 b31 2 false 1 (.string ⟨(r23.1.Suffix).toArray⟩) (hs140.ownAt (k := 0) rfl)) ?_
                obtain ⟨r167, hr168, h169⟩ := bind_some h166
                refine Vg 174 9 30 true 168 hb165 (run_sadd (t := 9) (t' := 9) (x := (.tmp 171)) (y := (.tmp 173)) (a := r23.1.Prefix) (b := r23.1.Suffix) (v := r167) rfl rfl hr168) ?_
                refine Vg 175 4 30 true 168 hb165 (run_scmp (t := 9) (t' := 9) (x := (.tmp 169)) (y := (.tmp 174)) (op := .eql) (a := r119.1) (b := r167) (v := (r119.1 == r167)) rfl rfl rfl) ?_
                refine V 176 4 (p1 168 (.tmp 175) (.const (.bool false)) (.bool (r119.1 == r167)) hb165) ?_
                refine V 6 4 (ma 176 (.bool (r119.1 == r167))) ?_
                obtain rfl := some_inj h169
                have hs170 : HS w0 F0 w139 F14 [] := hs140.drop 0
                exact RWP.nil ⟨rfl, F14, hs170, (Mem.le.refl _), e82, rfl⟩
               ·have h171 := cond_f h164 hb165
                refine Sk [169, 170, 171, 172, 173, 174, 175] 30 true 168 hb165 ?_
                refine V 176 4 (p0 168 (.tmp 175) (.const (.bool false)) (.bool false) hb165) ?_
                refine V 6 4 (ma 176 (.bool false)) ?_
                obtain rfl := some_inj h171
                have hs172 : HS w0 F0 w139 F14 [] := hs140.drop 0
                exact RWP.nil ⟨rfl, F14, hs172, (Mem.le.refl _), e82, rfl⟩
              ·have h173 := cond_f h162 hb163
               refine Sk [166] 27 true 165 hb163 ?_
               refine V 167 4 (p0 165 (.tmp 166) (.const (.bool false)) (.bool false) hb163) ?_
               refine V 168 4 (mv 167 (.bool false)) ?_
               refine Sk [169, 170, 171, 172, 173, 174, 175] 30 true 168 rfl ?_
               refine V 176 4 (p0 168 (.tmp 175) (.const (.bool false)) (.bool false) rfl) ?_
               refine V 6 4 (ma 176 (.bool false)) ?_
               obtain rfl := some_inj h173
               have hs174 : HS w0 F0 w139 F14 [] := hs140.drop 0
               exact RWP.nil ⟨rfl, F14, hs174, (Mem.le.refl _), e82, rfl⟩
             ·have h175 := cond_f h160 hb161
              refine Sk [162, 163] 23 true 161 hb161 ?_
              refine V 164 4 (p0 161 (.tmp 163) (.const (.bool false)) (.bool false) hb161) ?_
              refine V 165 4 (mv 164 (.bool false)) ?_
              refine Sk [166] 27 true 165 rfl ?_
              refine V 167 4 (p0 165 (.tmp 166) (.const (.bool false)) (.bool false) rfl) ?_
              refine V 168 4 (mv 167 (.bool false)) ?_
              refine Sk [169, 170, 171, 172, 173, 174, 175] 30 true 168 rfl ?_
              refine V 176 4 (p0 168 (.tmp 175) (.const (.bool false)) (.bool false) rfl) ?_
              refine V 6 4 (ma 176 (.bool false)) ?_
              obtain rfl := some_inj h175
              have hs176 : HS w0 F0 w139 F14 [] := hs140.drop 0
              exact RWP.nil ⟨rfl, F14, hs176, (Mem.le.refl _), e82, rfl⟩
            ·have h177 := cond_f h158 hb159
             refine Sk [157, 158, 159] 18 true 156 hb159 ?_
             refine V 160 4 (p0 156 (.tmp 159) (.const (.bool false)) (.bool false) hb159) ?_
             refine V 161 4 (mv 160 (.bool false)) ?_
             refine Sk [162, 163] 23 true 161 rfl ?_
             refine V 164 4 (p0 161 (.tmp 163) (.const (.bool false)) (.bool false) rfl) ?_
             refine V 165 4 (mv 164 (.bool false)) ?_
             refine Sk [166] 27 true 165 rfl ?_
             refine V 167 4 (p0 165 (.tmp 166) (.const (.bool false)) (.bool false) rfl) ?_
             refine V 168 4 (mv 167 (.bool false)) ?_
             refine Sk [169, 170, 171, 172, 173, 174, 175] 30 true 168 rfl ?_
             refine V 176 4 (p0 168 (.tmp 175) (.const (.bool false)) (.bool false) rfl) ?_
             refine V 6 4 (ma 176 (.bool false)) ?_
             obtain rfl := some_inj h177
             have hs178 : HS w0 F0 w139 F14 [] := hs140.drop 0
             exact RWP.nil ⟨rfl, F14, hs178, (Mem.le.refl _), e82, rfl⟩
           ·have h179 := cond_f h156 hb157
            refine Sk [153, 154] 14 true 152 hb157 ?_
            refine V 155 4 (p0 152 (.tmp 154) (.const (.bool false)) (.bool false) hb157) ?_
            refine V 156 4 (mv 155 (.bool false)) ?_
            refine Sk [157, 158, 159] 18 true 156 rfl ?_
            refine V 160 4 (p0 156 (.tmp 159) (.const (.bool false)) (.bool false) rfl) ?_
            refine V 161 4 (mv 160 (.bool false)) ?_
            refine Sk [162, 163] 23 true 161 rfl ?_
            refine V 164 4 (p0 161 (.tmp 163) (.const (.bool false)) (.bool false) rfl) ?_
            refine V 165 4 (mv 164 (.bool false)) ?_
            refine Sk [166] 27 true 165 rfl ?_
            refine V 167 4 (p0 165 (.tmp 166) (.const (.bool false)) (.bool false) rfl) ?_
            refine V 168 4 (mv 167 (.bool false)) ?_
            refine Sk [169, 170, 171, 172, 173, 174, 175] 30 true 168 rfl ?_
            refine V 176 4 (p0 168 (.tmp 175) (.const (.bool false)) (.bool false) rfl) ?_
            refine V 6 4 (ma 176 (.bool false)) ?_
            obtain rfl := some_inj h179
            have hs180 : HS w0 F0 w139 F14 [] := hs140.drop 0
            exact RWP.nil ⟨rfl, F14, hs180, (Mem.le.refl _), e82, rfl⟩
          ·have h181 := cond_f h154 hb155
           refine Sk [149, 150] 10 true 148 hb155 ?_
           refine V 151 4 (p0 148 (.tmp 150) (.const (.bool false)) (.bool false) hb155) ?_
           refine V 152 4 (mv 151 (.bool false)) ?_
           refine Sk [153, 154] 14 true 152 rfl ?_
           refine V 155 4 (p0 152 (.tmp 154) (.const (.bool false)) (.bool false) rfl) ?_
           refine V 156 4 (mv 155 (.bool false)) ?_
           refine Sk [157, 158, 159] 18 true 156 rfl ?_
           refine V 160 4 (p0 156 (.tmp 159) (.const (.bool false)) (.bool false) rfl) ?_
           refine V 161 4 (mv 160 (.bool false)) ?_
           refine Sk [162, 163] 23 true 161 rfl ?_
           refine V 164 4 (p0 161 (.tmp 163) (.const (.bool false)) (.bool false) rfl) ?_
           refine V 165 4 (mv 164 (.bool false)) ?_
           refine Sk [166] 27 true 165 rfl ?_
           refine V 167 4 (p0 165 (.tmp 166) (.const (.bool false)) (.bool false) rfl) ?_
           refine V 168 4 (mv 167 (.bool false)) ?_
           refine Sk [169, 170, 171, 172, 173, 174, 175] 30 true 168 rfl ?_
           refine V 176 4 (p0 168 (.tmp 175) (.const (.bool false)) (.bool false) rfl) ?_
           refine V 6 4 (ma 176 (.bool false)) ?_
           obtain rfl := some_inj h181
           have hs182 : HS w0 F0 w139 F14 [] := hs140.drop 0
           exact RWP.nil ⟨rfl, F14, hs182, (Mem.le.refl _), e82, rfl⟩
         ·have h183 := cond_f h152 hb153
          refine Sk [144, 145, 146] 5 true 143 hb153 ?_
          refine V 147 4 (p0 143 (.tmp 146) (.const (.bool false)) (.bool false) hb153) ?_
          refine V 148 4 (mv 147 (.bool false)) ?_
          refine Sk [149, 150] 10 true 148 rfl ?_
          refine V 151 4 (p0 148 (.tmp 150) (.const (.bool false)) (.bool false) rfl) ?_
          refine V 152 4 (mv 151 (.bool false)) ?_
          refine Sk [153, 154] 14 true 152 rfl ?_
          refine V 155 4 (p0 152 (.tmp 154) (.const (.bool false)) (.bool false) rfl) ?_
          refine V 156 4 (mv 155 (.bool false)) ?_
          refine Sk [157, 158, 159] 18 true 156 rfl ?_
          refine V 160 4 (p0 156 (.tmp 159) (.const (.bool false)) (.bool false) rfl) ?_
          refine V 161 4 (mv 160 (.bool false)) ?_
          refine Sk [162, 163] 23 true 161 rfl ?_
          refine V 164 4 (p0 161 (.tmp 163) (.const (.bool false)) (.bool false) rfl) ?_
          refine V 165 4 (mv 164 (.bool false)) ?_
          refine Sk [166] 27 true 165 rfl ?_
          refine V 167 4 (p0 165 (.tmp 166) (.const (.bool false)) (.bool false) rfl) ?_
          refine V 168 4 (mv 167 (.bool false)) ?_
          refine Sk [169, 170, 171, 172, 173, 174, 175] 30 true 168 rfl ?_
          refine V 176 4 (p0 168 (.tmp 175) (.const (.bool false)) (.bool false) rfl) ?_
          refine V 6 4 (ma 176 (.bool false)) ?_
          obtain rfl := some_inj h183
          have hs184 : HS w0 F0 w139 F14 [] := hs140.drop 0
          exact RWP.nil ⟨rfl, F14, hs184, (Mem.le.refl _), e82, rfl⟩
        ·have h185 := cond_f hj149 hb151
         refine Sk [140, 141] 1 true 139 hb151 ?_
         refine V 142 4 (p0 139 (.tmp 141) (.const (.bool false)) (.bool false) hb151) ?_
         refine V 143 4 (mv 142 (.bool false)) ?_
         refine Sk [144, 145, 146] 5 true 143 rfl ?_
         refine V 147 4 (p0 143 (.tmp 146) (.const (.bool false)) (.bool false) rfl) ?_
         refine V 148 4 (mv 147 (.bool false)) ?_
         refine Sk [149, 150] 10 true 148 rfl ?_
         refine V 151 4 (p0 148 (.tmp 150) (.const (.bool false)) (.bool false) rfl) ?_
         refine V 152 4 (mv 151 (.bool false)) ?_
         refine Sk [153, 154] 14 true 152 rfl ?_
         refine V 155 4 (p0 152 (.tmp 154) (.const (.bool false)) (.bool false) rfl) ?_
         refine V 156 4 (mv 155 (.bool false)) ?_
         refine Sk [157, 158, 159] 18 true 156 rfl ?_
         refine V 160 4 (p0 156 (.tmp 159) (.const (.bool false)) (.bool false) rfl) ?_
         refine V 161 4 (mv 160 (.bool false)) ?_
         refine Sk [162, 163] 23 true 161 rfl ?_
         refine V 164 4 (p0 161 (.tmp 163) (.const (.bool false)) (.bool false) rfl) ?_
         refine V 165 4 (mv 164 (.bool false)) ?_
         refine Sk [166] 27 true 165 rfl ?_
         refine V 167 4 (p0 165 (.tmp 166) (.const (.bool false)) (.bool false) rfl) ?_
         refine V 168 4 (mv 167 (.bool false)) ?_
         refine Sk [169, 170, 171, 172, 173, 174, 175] 30 true 168 rfl ?_
         refine V 176 4 (p0 168 (.tmp 175) (.const (.bool false)) (.bool false) rfl) ?_
         refine V 6 4 (ma 176 (.bool false)) ?_
         obtain rfl := some_inj h185
         have hs186 : HS w0 F0 w139 F14 [] := hs140.drop 0
         exact RWP.nil ⟨rfl, F14, hs186, (Mem.le.refl _), e82, rfl⟩
       ·rintro f w143 ⟨F15, hs144, le145, e147, e148⟩
        refine thenQ_nrm ?_
        refine CWP.ret (by kernel_rfl) ?_
        have hfin := some_inj h150
        subst hfin
        exact ⟨e147, (.bool j146), res_of (l := [.tmp 6]) (by kernel_rfl) (vs := [(.bool j146)]) ⟨e148, trivial⟩, (.bool j146), F15, rfl, hs144.clear, rfl⟩
end Go.Proofs.YtlddakefmfcblaaGreatDoor
namespace Go.Proofs.YtlddakefmfcblaaGreatDoor
open Go.Proofs
end Go.Proofs.YtlddakefmfcblaaGreatDoor
namespace Go.Proofs.YtlddakefmfcblaaGreatDoor
section
variable {N : Nat}
theorem callB_base {s : List UInt8} {t : Tri} (h : callB s = some t) : callB t.2.1 = some ([], t.2.1, []) := by
 have h1 := (callB_some h).1
 have hl := ok_len h1
 unfold okT at h1
 simp only [Bool.and_eq_true] at h1
 have e : joinT ([], t.2.1, []) = t.2.1 := by unfold joinT; simp
 have : okT ([], t.2.1, []) = true := by
  unfold okT
  rw [e]
  simp only
  rw [h1.1.1.1.2]
  simp; omega
 have h2 := callB_join this
 rw [e] at h2
 exact h2
theorem join_back {s : List UInt8} {t : Tri} (h : callB s = some t) : joinS (partsOf t) = (s, 0) := by
 have h1 := callB_some h
 have e : triP (partsOf t) = t := by unfold triP; rw [ps_app]; rfl
 unfold joinS
 rw [e, ← h1.2, h]
 simp
theorem part_len {t : Tri} (h : okT t = true) : shortP (partsOf t) := by
 have hl := ok_len h
 refine ⟨?_, ?_, ?_, ?_⟩ <;> simp only [partsOf]
 ·omega
 ·rw [List.length_take]; omega
 ·rw [List.length_drop]; omega
 ·omega
theorem parts_holds (s u v : List UInt8) (hN : 4294967300 < N) : law01_AirParts N s u v = some true := by
 unfold law01_AirParts
 rw [awake_true hN, Option.bind_some]
 cases hg : ((decide ((s.length : Int) > 1000)) || ((decide ((u.length : Int) > 1000)) || (decide ((v.length : Int) > 1000)))) with
 | true => rfl
 | false =>
  rw [cond_false]
  rw [s_Split _ hN, Option.bind_some, s_Valid _ hN, Option.bind_some, s_Same _ _ hN, Option.bind_some, s_Same _ _ hN, Option.bind_some, s_Same _ _ hN, Option.bind_some, s_Same _ _ hN, Option.bind_some]
  have e1 : (!(((splitS s).2 == 0) == validS s)) = false := by
   unfold splitS validS; cases callB s <;> rfl
  rw [e1, cond_false]
  have e2 : ((!((sameS s u).1 == (sameS u s).1)) || ((sameS s u).2 != (sameS u s).2 || (((sameS u v).2 == 0) && (((sameS s u).2 == 0) && (((sameS s v).2 != 0) || ((sameS s u).1 && ((sameS u v).1 && (!(sameS s v).1)))))))) = false := by
   unfold sameS
   cases callB s with
   | none => cases callB u <;> cases callB v <;> rfl
   | some a => cases callB u with
    | none => cases callB v <;> rfl
    | some b => cases callB v with
     | none =>
      have : (a.2.1 == b.2.1) = (b.2.1 == a.2.1) := by rw [Bool.eq_iff_iff, beq_iff_eq, beq_iff_eq]; exact eq_comm
      simp [this]
     | some c =>
      have : (a.2.1 == b.2.1) = (b.2.1 == a.2.1) := by rw [Bool.eq_iff_iff, beq_iff_eq, beq_iff_eq]; exact eq_comm
      simp [this]
      intro h h'
      rw [← h', h]
  rw [e2, cond_false]
  cases h : callB s with
  | none =>
   have e3 : splitS s = (zp, 10) := by unfold splitS; rw [h]
   rw [e3]; rfl
  | some t =>
   have e3 : splitS s = (partsOf t, 0) := by unfold splitS; rw [h]
   have e4 : baseS s = (t.2.1, 0) := by unfold baseS; rw [h]
   have e5 : baseS t.2.1 = (t.2.1, 0) := by unfold baseS; rw [callB_base h]
   have e6 : sameS s t.2.1 = (true, 0) := by unfold sameS; rw [h, callB_base h]; simp
   have hl := part_len (callB_some h).1
   rw [e3, show (((partsOf t, (0 : Int)).2) != 0) = false from rfl, cond_false]
   simp only
   rw [s_Join _ hl hN, join_back h, Option.bind_some, s_Base _ hN, e4, Option.bind_some]
   simp only
   rw [s_Base _ hN, e5, Option.bind_some, s_Same _ _ hN, e6, Option.bind_some]
   obtain ⟨_, l2, l3, _⟩ := hl
   rw [sadd_some (by omega), Option.bind_some, ps_app]
   simp
structure GoodP (p : List UInt8) : Prop where
 all : p.all isE = true
 letter : p.any isL = true
 last : lastD p = true
theorem GoodP.len {p : List UInt8} (h : GoodP p) : 2 ≤ p.length := by
 match p, h with
 | [], h => have := h.letter; cases this
 | [b], h =>
  have h1 := h.letter
  have h2 := h.last
  simp at h1
  have h3 : lastD [b] = isD b := rfl
  rw [h3, isLD h1] at h2; cases h2
 | _ :: _ :: _, _ => simp
end
theorem airParts_row (x0 x1 x2 : List UInt8) (_ : rS x0) (_ : rS x1) (_ : rS x2) : law01_AirParts 9223372036854775808 x0 x1 x2 = some true := parts_holds x0 x1 x2 (by omega)
end Go.Proofs.YtlddakefmfcblaaGreatDoor
namespace Go.Proofs.YtlddakefmfcblaaGreatDoor
open Go.ChangeShapes Go.WideShapes Go.ChangeAt Go.RowKit
set_option maxRecDepth 100000 in
theorem lifted_airParts (os : Os) (started : os.Started) (H : Type) (enc : TypeId × Value → H) :
  ReturnsInHanded {} Tryz.checked os 8 .any (fun w args => (Rows.airPartsSpec.pre enc Tryz.prog Tryz.f8 Rows.airPartsRow.domain false w args ∧ laidMetH Tryz.prog Rows.airPartsRow.laid w) ∧ sizedMet enc Tryz.prog Tryz.f8 (OpenSpec.ofChange Rows.airPartsSpec) false w args) (Rows.airPartsSpec.post enc Tryz.prog Tryz.f8 false true false false) := by
 refine handed_laid (C := Tryz.checked) (X := fun w _ => laidMetH Tryz.prog laid7 w) (fun _ _ _ hh h => h.of_heap hh) own_knob started (by kernel_rfl) Tryz.func8
  (ChangeSpec.witness_shaped (enc := enc) (C := Tryz.checked) (os := os) (X := fun w _ => laidMetH Tryz.prog laid7 w) false (World.laidAll Tryz.prog os laid7) #[.string ByteArray.empty, .string ByteArray.empty, .string ByteArray.empty] 8 (World.laidAll_os _ _ _)
   (World.shaped_of_ZipB (by kernel_rfl) (by kernel_rfl)) (by kernel_rfl) (by kernel_rfl) (by kernel_rfl) (door_met7 os _)) ?_
 intro W base args ds gs before hval0 hW hsz hL hsh
 have hval : ∀ (j : Nat) t v, Tryz.f8.params[j]? = some t → args[j]? = some v → Value.okWide Tryz.prog W .any base t v := hval0
 have hW' := hW
 obtain ⟨p, q, hA0, hV, rfl, hfz, hnd⟩ := hW
 have hA : DataW.TrodAll enc Tryz.prog W 0 (fun _ => true) true Tryz.f8.params.toList args.toList ds p := hA0
 rw [Tryz.params8] at hA hval
 obtain ⟨v0, vs0, d0, ds0, p0, q0, hargs, rfl, rfl, h0, r0⟩ := trodAll_cons hA
 obtain ⟨v1, vs1, d1, ds1, p1, q1, rfl, rfl, rfl, h1, r1⟩ := trodAll_cons r0
 obtain ⟨v2, vs2, d2, ds2, p2, q2, rfl, rfl, rfl, h2, r2⟩ := trodAll_cons r1
 obtain ⟨rfl, rfl, rfl⟩ := trodAll_nil r2
 obtain rfl : args = #[v0, v1, v2] := by cases args; simp_all
 have z0 : SzW Tryz.prog 9 d0 := SzW.each hsz (j := 0) (by kernel_rfl) rfl
 obtain ⟨x0, R0, Q0⟩ := Opens.one (opens_str (t := 9) (by kernel_rfl) (by kernel_rfl) : Opens Tryz.prog 9 tStr rS) (by kernel_rfl) (hval 0 9 v0 rfl rfl) h0 z0
 have e0 : [v0] = [.string ⟨x0.toArray⟩] := R0
 cases e0
 have z1 : SzW Tryz.prog 9 d1 := SzW.each hsz (j := 1) (by kernel_rfl) rfl
 obtain ⟨x1, R1, Q1⟩ := Opens.one (opens_str (t := 9) (by kernel_rfl) (by kernel_rfl) : Opens Tryz.prog 9 tStr rS) (by kernel_rfl) (hval 1 9 v1 rfl rfl) h1 z1
 have e1 : [v1] = [.string ⟨x1.toArray⟩] := R1
 cases e1
 have z2 : SzW Tryz.prog 9 d2 := SzW.each hsz (j := 2) (by kernel_rfl) rfl
 obtain ⟨x2, R2, Q2⟩ := Opens.one (opens_str (t := 9) (by kernel_rfl) (by kernel_rfl) : Opens Tryz.prog 9 tStr rS) (by kernel_rfl) (hval 2 9 v2 rfl rfl) h2 z2
 have e2 : [v2] = [.string ⟨x2.toArray⟩] := R2
 cases e2
 refine (c_law01_AirParts 9223372036854775808 W (memOf W) (fun _ _ h => h) (glob_of hL hsh) x0 x1 x2 true (airParts_row x0 x1 x2 Q0 Q1 Q2)).mono fun e W' he => ?_
 obtain ⟨r, F', rfl, hs, rfl⟩ := he
 refine ⟨_, rfl, post_grown (by kernel_rfl) (tb := 4) ?_ rfl hW' (by kernel_rfl) (by kernel_rfl) ?_ hs⟩
 ·intro t ht
  rw [Tryz.params8] at ht
  simp only [List.mem_cons, List.not_mem_nil, or_false] at ht
  rcases ht with rfl | rfl | rfl <;> exact ⟨by kernel_rfl, by decide +kernel⟩
 ·intro _; rfl
theorem airParts_row_holds : Rows.AirPartsSaid :=
 OpenClaim.holds_of_wide 8 Tryz.f8 rfl rfl rfl rfl rfl rfl rfl ⟨rfl, rfl, rfl, rfl, rfl⟩ rfl rfl rfl rfl rfl (by kernel_rfl) Tryz.func8 (by kernel_rfl)
  (of_decide_eq_true (by kernel_rfl)) (by unfold Func.isWrapper; first | (rw [if_pos (by decide +kernel)]; kernel_rfl) | (rw [if_neg (by decide +kernel)]; exact ⟨rfl, rfl⟩))
  (fun os started H enc _ => lifted_airParts os started H enc)
theorem airParts_proved : Rows.AirPartsCardSaid :=
 Claim7.holds_tied_plain_at .later [] [.data, .data, .data, .data, .sentinel, .sentinel, .pinned] true (true, "e13dca8d4619a64a69fa99222db8f18b16b74485258a6a257541940742401f67") true airParts_row_holds (fun _ h => by cases h) (by kernel_rfl) (fun _ h => by cases h) airParts_row_tie rfl ⟨rfl, rfl⟩ (by kernel_rfl) rfl
  (fun f fn hf hfn => by
   obtain rfl : f = 8 := Option.some.inj ((show Tryz.prog.funcNamed Tryz.f8.name = some 8 by kernel_rfl).symm.trans hf) |>.symm
   obtain rfl : fn = Tryz.f8 := (Option.some.inj (Tryz.func8.symm.trans hfn)).symm
   exact ⟨by kernel_rfl, fun j t ht => by
    rw [Tryz.params8] at ht
    have hm : t ∈ [9, 9, 9] := by simpa using Array.mem_of_getElem? ht
    have hall : ([9, 9, 9].all fun u => !Tryz.prog.wantsStandIn u) = true := by kernel_rfl
    exact (show Tryz.prog.wantsStandIn t = false by simpa using List.all_eq_true.1 hall t hm)⟩)
  (by kernel_rfl)
end Go.Proofs.YtlddakefmfcblaaGreatDoor
