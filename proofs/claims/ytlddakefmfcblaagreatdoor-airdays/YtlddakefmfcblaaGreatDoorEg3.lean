/- Lemmas of the claim AirDays, printed by a program of the claimant and by hand. No statement of the seat is proved here. -/
import Derived.Test.YtlddakefmfcblaaGreatDoorEg2
set_option linter.unusedVariables false
set_option linter.unusedSimpArgs false
set_option linter.unusedSectionVars false
namespace Go.Proofs.YtlddakefmfcblaaGreatDoor
open Go.Proofs
def ref01_mixed_L0 (N : Nat) (x0 : (List UInt8)) : Int → Option (Flow Bool Int) := fun s4 =>
 (bif (decide (s4 < (x0.length : Int))) then (((sidx x0 s4).bind fun c34 => ((ref01_letter N c34).bind fun r37 => (bif (!r37) then ((sidx x0 s4).bind fun c47 => ((ref01_digit N c47).bind fun r50 => some (!r50))) else some false))).bind fun j27 => (bif j27 then some (.ret false) else some (.next (W64 (s4 + 1))))) else some (.done s4))
def ref01_mixed (N : Nat) (x0 : (List UInt8)) : Option Bool :=
 ((iter (ref01_mixed_L0 N x0) N 0).bind fun o => o.k (fun r => some r) (fun s11 => some true))
theorem co_ref01_mixed : CallOk Tryz.prog 147 := fun _ _ => by kernel_rfl
set_option maxHeartbeats 4000000 in
set_option maxRecDepth 100000 in
theorem c_ref01_mixed (N : Nat) (w0 : World) (F0 : Mem) (hF : ∀ b o, F0 b = some o → w0.heap[b]? = some o) (x0 : (List UInt8)) (r : Bool) (h : ref01_mixed N x0 = some r) :
  Calls Tryz.prog 147 ([(.string ⟨(x0).toArray⟩)] : List Value).toArray w0 (FRet w0 F0 fun F' v => v = (.bool r)) := by
 have hs0 := HS.start hF
 refine calls_of (n := 22) (c := bodyOf Tryz.f147) Tryz.func147 (by kernel_rfl) (by kernel_rfl) (by kernel_rfl) ?_
 refine Sq (Rg [0] ?_)
 refine V 2 4 (mc (.bool false) (.bool false)) ?_
 refine Nss ?_
 refine Sq (Rg [0] ?_)
 refine V 3 3 (mc (vi 0) (vi 0)) ?_
 refine Nt ?_
 obtain ⟨o1, ho2, h3⟩ := bind_some h
 refine CWP.cut (fun f w => ∃ (s11 : Int) (F2 : Mem), o1 = .done s11 ∧ HS w0 F0 w F2 [] ∧ Mem.le F0 F2 ∧ f.d = []) ?_ ?_
 ·refine Bk ?_
  refine CWP.loop (by kernel_rfl) (fun m f w => ∃ (s4 : Int) (F1 : Mem), iter (ref01_mixed_L0 N x0) m s4 = some o1 ∧ HS w0 F0 w F1 [] ∧ Mem.le F0 F1 ∧ f.d = [] ∧ f 0 = (.string ⟨(x0).toArray⟩) ∧ f 3 = (vi s4)) N ⟨0, F0, ho2, hs0, (Mem.le.refl _), rfl, rfl, rfl⟩ ?_
  rintro m16 f w5 ⟨s4, F1, hit17, hs6, le7, e8, e9, e10⟩
  obtain ⟨m18, fl19, rfl, hb20, hnx21⟩ := iter_step hit17
  refine Sq ?_
  refine Sq (Rg [0, 1, 2, 3] ?_)
  refine V 4 3 (mv 3 (vi s4) e10) ?_
  refine V 5 9 (mv 0 (.string ⟨(x0).toArray⟩) e9) ?_
  refine V 6 3 (run_slen (x := (.tmp 5)) (ats := #[9]) (t := 9) (a := x0) rfl rfl (by kernel_rfl)) ?_
  refine V 7 4 (run_lss (t := 3) (t' := 3) (x := (.tmp 4)) (y := (.tmp 6)) (k := .i64) (a := s4) (b := (x0.length : Int)) rfl rfl) ?_
  refine Nt ?_
  refine CWP.cond (t := (decide (s4 < (x0.length : Int)))) (by kernel_rfl) rfl (fun hb22 => ?_) (fun hb22 => ?_)
  ·have h23 := cond_t hb20 hb22
   refine Sc ?_
   refine thenQ_nrm ?_
   refine Sq ?_
   refine Bk ?_
   refine Sq (Rg [0, 1, 2, 3, 4, 5, 6, 7, 8, 9, 10, 11] ?_)
   obtain ⟨j27, hj32, h33⟩ := bind_some h23
   refine RWP.cut (fun f w => ∃ (F3 : Mem), HS w0 F0 w F3 [] ∧ Mem.le F1 F3 ∧ f.d = [] ∧ f 0 = (.string ⟨(x0).toArray⟩) ∧ f 3 = (vi s4) ∧ f 21 = (.bool j27)) ?_ ?_
   ·refine V 10 9 (mv 0 (.string ⟨(x0).toArray⟩) e9) ?_
    refine V 11 3 (mv 3 (vi s4) e10) ?_
    obtain ⟨c34, hr35, h36⟩ := bind_some hj32
    refine V 12 5 (run_sidx (t := 9) (x := (.tmp 10)) (y := (.tmp 11)) (a := x0) (k := .i64) (i := s4) (v := c34) rfl rfl (by kernel_rfl) hr35) ?_
    obtain ⟨r37, hr38, h39⟩ := bind_some h36
    refine Cl 13 4 157 #[(.tmp 12)] #[5] co_ref01_letter hs6 (c_ref01_letter N w5 F1 hs6.pers (c34) _ hr38) ?_
    intro v40 F4 w41 hs42 le43 hp44
    obtain rfl := hp44
    refine V 14 4 (run_not (t := 4) (x := (.tmp 13)) (a := r37) rfl) ?_
    refine V 15 4 (mv 14 (.bool (!r37))) ?_
    refine RWP.split (!r37) (fun hb45 => ?_) (fun hb45 => ?_)
    ·have h46 := cond_t h39 hb45
     refine Vg 16 9 5 true 15 hb45 (mv 0 (.string ⟨(x0).toArray⟩) e9) ?_
     refine Vg 17 3 5 true 15 hb45 (mv 3 (vi s4) e10) ?_
     obtain ⟨c47, hr48, h49⟩ := bind_some h46
     refine Vg 18 5 5 true 15 hb45 (run_sidx (t := 9) (x := (.tmp 16)) (y := (.tmp 17)) (a := x0) (k := .i64) (i := s4) (v := c47) rfl rfl (by kernel_rfl) hr48) ?_
     obtain ⟨r50, hr51, h52⟩ := bind_some h49
     refine RWP.call (dst := (some 19)) (ty := 4) (g := (some (5, true))) (by kernel_rfl) (gd_y (d := 15) (by kernel_rfl) rfl hb45) (f0 := (.func 83)) (aos := #[(.tmp 18)]) (ats := #[5]) (fid := 83) (first := #[]) (cap := #[]) (args := [(.int .u8 c47)]) rfl co_ref01_digit (rfl) hs42 (c_ref01_digit N w41 F4 hs42.pers (c47) _ hr51) ?_
     intro v53 F5 w54 hs55 le56 hp57
     obtain rfl := hp57
     refine Vg 20 4 5 true 15 hb45 (run_not (t := 4) (x := (.tmp 19)) (a := r50) rfl) ?_
     refine V 21 4 (p1 15 (.tmp 20) (.const (.bool false)) (.bool (!r50)) hb45) ?_
     obtain rfl := some_inj h52
     exact RWP.nil ⟨rfl, F5, hs55, (le43.trans le56), e8, e9, e10, rfl⟩
    ·have h58 := cond_f h39 hb45
     refine Sk [16, 17, 18, 19, 20] 5 true 15 hb45 ?_
     refine V 21 4 (p0 15 (.tmp 20) (.const (.bool false)) (.bool false) hb45) ?_
     obtain rfl := some_inj h58
     exact RWP.nil ⟨rfl, F4, hs42, le43, e8, e9, e10, rfl⟩
   ·rintro f w24 ⟨F3, hs25, le26, e28, e29, e30, e31⟩
    refine thenQ_nrm ?_
    refine CWP.cond (t := j27) (by kernel_rfl) e31 (fun hb59 => ?_) (fun hb59 => ?_)
    ·have h60 := cond_t h33 hb59
     refine Sq (Rg [0] ?_)
     refine V 2 4 (mc (.bool false) (.bool false)) ?_
     refine Nt ?_
     refine CWP.ret (by kernel_rfl) ?_
     refine blockQ_ret ?_
     refine thenQ_ret ?_
     refine thenQ_ret ?_
     refine blockQ_ret ?_
     have hret := iter_ret h60 hnx21
     subst hret
     refine .inr ?_
     refine thenQ_ret ?_
     have hfin := some_inj h3
     subst hfin
     exact ⟨e28, (.bool false), res_of (l := [.tmp 2]) (by kernel_rfl) (vs := [(.bool false)]) ⟨rfl, trivial⟩, (.bool false), F3, rfl, hs25.clear, rfl⟩
    ·have h61 := cond_f h33 hb59
     refine Sc ?_
     refine blockQ_nrm ?_
     refine thenQ_nrm ?_
     refine Rg [0, 1, 2] ?_
     refine V 8 3 (mv 3 (vi s4) e30) ?_
     refine V 9 3 (run_add (t := 3) (t' := 3) (x := (.tmp 8)) (y := (.const (vi 1))) (k := .i64) (a := s4) (b := 1) rfl rfl) ?_
     refine V 3 3 (ma 9 (vi (W64 (s4 + 1)))) ?_
     refine RWP.nil ?_
     have hn62 := iter_next h61 hnx21
     exact ⟨m18, Nat.lt_succ_self _, (W64 (s4 + 1)), F3, hn62, hs25, (le7.trans le26), e28, e29, rfl⟩
  ·have h63 := cond_f hb20 hb22
   refine CWP.exit (by kernel_rfl) ?_
   refine thenQ_ex ?_
   refine thenQ_ex ?_
   refine blockQ_hit rfl ?_
   have ho64 := iter_done h63 hnx21
   exact .inl ⟨rfl, s4, F1, ho64, hs6, le7, e8⟩
 ·rintro f w12 ⟨s11, F2, rfl, hs13, le14, e15⟩
  have h65 := k_done h3
  refine thenQ_nrm ?_
  refine Sq (Rg [0] ?_)
  refine V 2 4 (mc (.bool true) (.bool true)) ?_
  refine Nt ?_
  refine CWP.ret (by kernel_rfl) ?_
  have hfin := some_inj h65
  subst hfin
  exact ⟨e15, (.bool true), res_of (l := [.tmp 2]) (by kernel_rfl) (vs := [(.bool true)]) ⟨rfl, trivial⟩, (.bool true), F2, rfl, hs13.clear, rfl⟩
end Go.Proofs.YtlddakefmfcblaaGreatDoor
namespace Go.Proofs.YtlddakefmfcblaaGreatDoor
open Go.Proofs
def ref01_lettered_L0 (N : Nat) (x0 : (List UInt8)) : Int → Option (Flow Bool Int) := fun s4 =>
 (bif (decide (s4 < (x0.length : Int))) then ((sidx x0 s4).bind fun c24 => ((ref01_letter N c24).bind fun r27 => (bif r27 then some (.ret true) else some (.next (W64 (s4 + 1)))))) else some (.done s4))
def ref01_lettered (N : Nat) (x0 : (List UInt8)) : Option Bool :=
 ((iter (ref01_lettered_L0 N x0) N 0).bind fun o => o.k (fun r => some r) (fun s11 => some false))
theorem co_ref01_lettered : CallOk Tryz.prog 148 := fun _ _ => by kernel_rfl
set_option maxHeartbeats 4000000 in
set_option maxRecDepth 100000 in
theorem c_ref01_lettered (N : Nat) (w0 : World) (F0 : Mem) (hF : ∀ b o, F0 b = some o → w0.heap[b]? = some o) (x0 : (List UInt8)) (r : Bool) (h : ref01_lettered N x0 = some r) :
  Calls Tryz.prog 148 ([(.string ⟨(x0).toArray⟩)] : List Value).toArray w0 (FRet w0 F0 fun F' v => v = (.bool r)) := by
 have hs0 := HS.start hF
 refine calls_of (n := 14) (c := bodyOf Tryz.f148) Tryz.func148 (by kernel_rfl) (by kernel_rfl) (by kernel_rfl) ?_
 refine Sq (Rg [0] ?_)
 refine V 2 4 (mc (.bool false) (.bool false)) ?_
 refine Nss ?_
 refine Sq (Rg [0] ?_)
 refine V 3 3 (mc (vi 0) (vi 0)) ?_
 refine Nt ?_
 obtain ⟨o1, ho2, h3⟩ := bind_some h
 refine CWP.cut (fun f w => ∃ (s11 : Int) (F2 : Mem), o1 = .done s11 ∧ HS w0 F0 w F2 [] ∧ Mem.le F0 F2 ∧ f.d = []) ?_ ?_
 ·refine Bk ?_
  refine CWP.loop (by kernel_rfl) (fun m f w => ∃ (s4 : Int) (F1 : Mem), iter (ref01_lettered_L0 N x0) m s4 = some o1 ∧ HS w0 F0 w F1 [] ∧ Mem.le F0 F1 ∧ f.d = [] ∧ f 0 = (.string ⟨(x0).toArray⟩) ∧ f 3 = (vi s4)) N ⟨0, F0, ho2, hs0, (Mem.le.refl _), rfl, rfl, rfl⟩ ?_
  rintro m16 f w5 ⟨s4, F1, hit17, hs6, le7, e8, e9, e10⟩
  obtain ⟨m18, fl19, rfl, hb20, hnx21⟩ := iter_step hit17
  refine Sq ?_
  refine Sq (Rg [0, 1, 2, 3] ?_)
  refine V 4 3 (mv 3 (vi s4) e10) ?_
  refine V 5 9 (mv 0 (.string ⟨(x0).toArray⟩) e9) ?_
  refine V 6 3 (run_slen (x := (.tmp 5)) (ats := #[9]) (t := 9) (a := x0) rfl rfl (by kernel_rfl)) ?_
  refine V 7 4 (run_lss (t := 3) (t' := 3) (x := (.tmp 4)) (y := (.tmp 6)) (k := .i64) (a := s4) (b := (x0.length : Int)) rfl rfl) ?_
  refine Nt ?_
  refine CWP.cond (t := (decide (s4 < (x0.length : Int)))) (by kernel_rfl) rfl (fun hb22 => ?_) (fun hb22 => ?_)
  ·have h23 := cond_t hb20 hb22
   refine Sc ?_
   refine thenQ_nrm ?_
   refine Sq ?_
   refine Bk ?_
   refine Sq (Rg [0, 1, 2, 3] ?_)
   refine V 10 9 (mv 0 (.string ⟨(x0).toArray⟩) e9) ?_
   refine V 11 3 (mv 3 (vi s4) e10) ?_
   obtain ⟨c24, hr25, h26⟩ := bind_some h23
   refine V 12 5 (run_sidx (t := 9) (x := (.tmp 10)) (y := (.tmp 11)) (a := x0) (k := .i64) (i := s4) (v := c24) rfl rfl (by kernel_rfl) hr25) ?_
   obtain ⟨r27, hr28, h29⟩ := bind_some h26
   refine Cl 13 4 157 #[(.tmp 12)] #[5] co_ref01_letter hs6 (c_ref01_letter N w5 F1 hs6.pers (c24) _ hr28) ?_
   intro v30 F3 w31 hs32 le33 hp34
   obtain rfl := hp34
   refine Nt ?_
   refine CWP.cond (t := r27) (by kernel_rfl) rfl (fun hb35 => ?_) (fun hb35 => ?_)
   ·have h36 := cond_t h29 hb35
    refine Sq (Rg [0] ?_)
    refine V 2 4 (mc (.bool true) (.bool true)) ?_
    refine Nt ?_
    refine CWP.ret (by kernel_rfl) ?_
    refine blockQ_ret ?_
    refine thenQ_ret ?_
    refine thenQ_ret ?_
    refine blockQ_ret ?_
    have hret := iter_ret h36 hnx21
    subst hret
    refine .inr ?_
    refine thenQ_ret ?_
    have hfin := some_inj h3
    subst hfin
    exact ⟨e8, (.bool true), res_of (l := [.tmp 2]) (by kernel_rfl) (vs := [(.bool true)]) ⟨rfl, trivial⟩, (.bool true), F3, rfl, hs32.clear, rfl⟩
   ·have h37 := cond_f h29 hb35
    refine Sc ?_
    refine blockQ_nrm ?_
    refine thenQ_nrm ?_
    refine Rg [0, 1, 2] ?_
    refine V 8 3 (mv 3 (vi s4) e10) ?_
    refine V 9 3 (run_add (t := 3) (t' := 3) (x := (.tmp 8)) (y := (.const (vi 1))) (k := .i64) (a := s4) (b := 1) rfl rfl) ?_
    refine V 3 3 (ma 9 (vi (W64 (s4 + 1)))) ?_
    refine RWP.nil ?_
    have hn38 := iter_next h37 hnx21
    exact ⟨m18, Nat.lt_succ_self _, (W64 (s4 + 1)), F3, hn38, hs32, (le7.trans le33), e8, e9, rfl⟩
  ·have h39 := cond_f hb20 hb22
   refine CWP.exit (by kernel_rfl) ?_
   refine thenQ_ex ?_
   refine thenQ_ex ?_
   refine blockQ_hit rfl ?_
   have ho40 := iter_done h39 hnx21
   exact .inl ⟨rfl, s4, F1, ho40, hs6, le7, e8⟩
 ·rintro f w12 ⟨s11, F2, rfl, hs13, le14, e15⟩
  have h41 := k_done h3
  refine thenQ_nrm ?_
  refine Sq (Rg [0] ?_)
  refine V 2 4 (mc (.bool false) (.bool false)) ?_
  refine Nt ?_
  refine CWP.ret (by kernel_rfl) ?_
  have hfin := some_inj h41
  subst hfin
  exact ⟨e15, (.bool false), res_of (l := [.tmp 2]) (by kernel_rfl) (vs := [(.bool false)]) ⟨rfl, trivial⟩, (.bool false), F2, rfl, hs13.clear, rfl⟩
end Go.Proofs.YtlddakefmfcblaaGreatDoor
namespace Go.Proofs.YtlddakefmfcblaaGreatDoor
open Go.Proofs
def ref01_cut_L0 (N : Nat) (x0 : (List UInt8)) : (Int × Int) → Option (Flow Int (Int × Int)) := fun s4 =>
 (bif (decide (s4.2 < (x0.length : Int))) then ((sidx x0 s4.2).bind fun c26 => ((ref01_digit N c26).bind fun r29 => some (.next ((bif r29 then (W64 (s4.2 + 1)) else s4.1), (W64 (s4.2 + 1)))))) else some (.done (s4.1, s4.2)))
def ref01_cut (N : Nat) (x0 : (List UInt8)) : Option Int :=
 ((iter (ref01_cut_L0 N x0) N (0, 0)).bind fun o => o.k (fun r => some r) (fun s12 => some s12.1))
theorem co_ref01_cut : CallOk Tryz.prog 82 := fun _ _ => by kernel_rfl
set_option maxHeartbeats 4000000 in
set_option maxRecDepth 100000 in
theorem c_ref01_cut (N : Nat) (w0 : World) (F0 : Mem) (hF : ∀ b o, F0 b = some o → w0.heap[b]? = some o) (x0 : (List UInt8)) (r : Int) (h : ref01_cut N x0 = some r) :
  Calls Tryz.prog 82 ([(.string ⟨(x0).toArray⟩)] : List Value).toArray w0 (FRet w0 F0 fun F' v => v = (vi r)) := by
 have hs0 := HS.start hF
 refine calls_of (n := 18) (c := bodyOf Tryz.f82) Tryz.func82 (by kernel_rfl) (by kernel_rfl) (by kernel_rfl) ?_
 refine Sq (Rg [0] ?_)
 refine V 2 3 (mc (vi 0) (vi 0)) ?_
 refine Nss (Rg [0] ?_)
 refine V 3 3 (mc (vi 0) (vi 0)) ?_
 refine Nss ?_
 refine Sq (Rg [0] ?_)
 refine V 4 3 (mc (vi 0) (vi 0)) ?_
 refine Nt ?_
 obtain ⟨o1, ho2, h3⟩ := bind_some h
 refine CWP.cut (fun f w => ∃ (s12 : (Int × Int)) (F2 : Mem), o1 = .done s12 ∧ HS w0 F0 w F2 [] ∧ Mem.le F0 F2 ∧ f.d = [] ∧ f 3 = (vi s12.1)) ?_ ?_
 ·refine Bk ?_
  refine CWP.loop (by kernel_rfl) (fun m f w => ∃ (s4 : (Int × Int)) (F1 : Mem), iter (ref01_cut_L0 N x0) m s4 = some o1 ∧ HS w0 F0 w F1 [] ∧ Mem.le F0 F1 ∧ f.d = [] ∧ f 0 = (.string ⟨(x0).toArray⟩) ∧ f 3 = (vi s4.1) ∧ f 4 = (vi s4.2)) N ⟨(0, 0), F0, ho2, hs0, (Mem.le.refl _), rfl, rfl, rfl, rfl⟩ ?_
  rintro m18 f w5 ⟨s4, F1, hit19, hs6, le7, e8, e9, e10, e11⟩
  obtain ⟨m20, fl21, rfl, hb22, hnx23⟩ := iter_step hit19
  refine Sq ?_
  refine Sq (Rg [0, 1, 2, 3] ?_)
  refine V 5 3 (mv 4 (vi s4.2) e11) ?_
  refine V 6 9 (mv 0 (.string ⟨(x0).toArray⟩) e9) ?_
  refine V 7 3 (run_slen (x := (.tmp 6)) (ats := #[9]) (t := 9) (a := x0) rfl rfl (by kernel_rfl)) ?_
  refine V 8 4 (run_lss (t := 3) (t' := 3) (x := (.tmp 5)) (y := (.tmp 7)) (k := .i64) (a := s4.2) (b := (x0.length : Int)) rfl rfl) ?_
  refine Nt ?_
  refine CWP.cond (t := (decide (s4.2 < (x0.length : Int)))) (by kernel_rfl) rfl (fun hb24 => ?_) (fun hb24 => ?_)
  ·have h25 := cond_t hb22 hb24
   refine Sc ?_
   refine thenQ_nrm ?_
   refine Sq ?_
   refine Bk ?_
   refine Sq (Rg [0, 1, 2, 3] ?_)
   refine V 11 9 (mv 0 (.string ⟨(x0).toArray⟩) e9) ?_
   refine V 12 3 (mv 4 (vi s4.2) e11) ?_
   obtain ⟨c26, hr27, h28⟩ := bind_some h25
   refine V 13 5 (run_sidx (t := 9) (x := (.tmp 11)) (y := (.tmp 12)) (a := x0) (k := .i64) (i := s4.2) (v := c26) rfl rfl (by kernel_rfl) hr27) ?_
   obtain ⟨r29, hr30, h31⟩ := bind_some h28
   refine Cl 14 4 83 #[(.tmp 13)] #[5] co_ref01_digit hs6 (c_ref01_digit N w5 F1 hs6.pers (c26) _ hr30) ?_
   intro v32 F3 w33 hs34 le35 hp36
   obtain rfl := hp36
   refine Nt ?_
   refine CWP.cut (fun f w => ∃ (F4 : Mem), HS w0 F0 w F4 [] ∧ Mem.le F3 F4 ∧ f.d = [] ∧ f 0 = (.string ⟨(x0).toArray⟩) ∧ f 3 = (vi (bif r29 then (W64 (s4.2 + 1)) else s4.1)) ∧ f 4 = (vi s4.2)) ?_ ?_
   ·refine CWP.cond (t := r29) (by kernel_rfl) rfl (fun hb44 => ?_) (fun hb44 => ?_)
    ·refine Rg [0, 1, 2] ?_
     refine V 15 3 (mv 4 (vi s4.2) e11) ?_
     refine V 16 3 (run_add (t := 3) (t' := 3) (x := (.tmp 15)) (y := (.const (vi 1))) (k := .i64) (a := s4.2) (b := 1) rfl rfl) ?_
     refine V 3 3 (ma 16 (vi (W64 (s4.2 + 1)))) ?_
     refine RWP.nil ?_
     exact .inl ⟨rfl, F3, hs34, (Mem.le.refl _), e8, e9, (congrArg (Value.int .i64) (bif_t hb44 (rfl))), e11⟩
    ·refine Sc ?_
     exact .inl ⟨rfl, F3, hs34, (Mem.le.refl _), e8, e9, (e10.trans (congrArg (Value.int .i64) (bif_f hb44 (rfl)))), e11⟩
   ·rintro f w37 ⟨F4, hs38, le39, e40, e41, e42, e43⟩
    refine blockQ_nrm ?_
    refine thenQ_nrm ?_
    refine Rg [0, 1, 2] ?_
    refine V 9 3 (mv 4 (vi s4.2) e43) ?_
    refine V 10 3 (run_add (t := 3) (t' := 3) (x := (.tmp 9)) (y := (.const (vi 1))) (k := .i64) (a := s4.2) (b := 1) rfl rfl) ?_
    refine V 4 3 (ma 10 (vi (W64 (s4.2 + 1)))) ?_
    refine RWP.nil ?_
    have hn45 := iter_next h31 hnx23
    exact ⟨m20, Nat.lt_succ_self _, ((bif r29 then (W64 (s4.2 + 1)) else s4.1), (W64 (s4.2 + 1))), F4, hn45, hs38, ((le7.trans le35).trans le39), e40, e41, e42, rfl⟩
  ·have h46 := cond_f hb22 hb24
   refine CWP.exit (by kernel_rfl) ?_
   refine thenQ_ex ?_
   refine thenQ_ex ?_
   refine blockQ_hit rfl ?_
   have ho47 := iter_done h46 hnx23
   exact .inl ⟨rfl, (s4.1, s4.2), F1, ho47, hs6, le7, e8, e10⟩
 ·rintro f w13 ⟨s12, F2, rfl, hs14, le15, e16, e17⟩
  have h48 := k_done h3
  refine thenQ_nrm ?_
  refine Sq (Rg [0, 1] ?_)
  refine V 17 3 (mv 3 (vi s12.1) e17) ?_
  refine V 2 3 (ma 17 (vi s12.1)) ?_
  refine Nt ?_
  refine CWP.ret (by kernel_rfl) ?_
  have hfin := some_inj h48
  subst hfin
  exact ⟨e16, (vi s12.1), res_of (l := [.tmp 2]) (by kernel_rfl) (vs := [(vi s12.1)]) ⟨rfl, trivial⟩, (vi s12.1), F2, rfl, hs14.clear, rfl⟩
end Go.Proofs.YtlddakefmfcblaaGreatDoor
namespace Go.Proofs.YtlddakefmfcblaaGreatDoor
open Go.Proofs
def ref01_base (N : Nat) (x0 : (List UInt8)) : Option Bool :=
 ((ref01_cut N x0).bind fun r1 => (((ref01_mixed N x0).bind fun r17 => (bif r17 then ((ref01_within N r1 1 4).bind fun r27 => (bif r27 then ((ssub x0 0 r1).bind fun r37 => ((ref01_lettered N r37).bind fun r40 => (bif r40 then ((ref01_within N (W64 ((x0.length : Int) - r1)) 1 4).bind fun r50 => some r50) else some false))) else some false)) else some false)).bind fun j12 => some j12))
theorem co_ref01_base : CallOk Tryz.prog 114 := fun _ _ => by kernel_rfl
set_option maxHeartbeats 4000000 in
set_option maxRecDepth 100000 in
theorem c_ref01_base (N : Nat) (w0 : World) (F0 : Mem) (hF : ∀ b o, F0 b = some o → w0.heap[b]? = some o) (x0 : (List UInt8)) (r : Bool) (h : ref01_base N x0 = some r) :
  Calls Tryz.prog 114 ([(.string ⟨(x0).toArray⟩)] : List Value).toArray w0 (FRet w0 F0 fun F' v => v = (.bool r)) := by
 have hs0 := HS.start hF
 refine calls_of (n := 25) (c := bodyOf Tryz.f114) Tryz.func114 (by kernel_rfl) (by kernel_rfl) (by kernel_rfl) ?_
 refine Sq (Rg [0] ?_)
 refine V 2 4 (mc (.bool false) (.bool false)) ?_
 refine Nss (Rg [0, 1, 2] ?_)
 refine V 4 9 (mv 0 (.string ⟨(x0).toArray⟩)) ?_
 obtain ⟨r1, hr2, h3⟩ := bind_some h
 refine Cl 5 3 82 #[(.tmp 4)] #[9] co_ref01_cut hs0 (c_ref01_cut N w0 F0 hs0.pers (x0) _ hr2) ?_
 intro v4 F1 w5 hs6 le7 hp8
 obtain rfl := hp8
 refine V 3 3 (ma 5 (vi r1)) ?_
 refine Nss (Rg [0, 1, 2, 3, 4, 5, 6, 7, 8, 9, 10, 11, 12, 13, 14, 15, 16, 17, 18, 19] ?_)
 obtain ⟨j12, hj15, h16⟩ := bind_some h3
 refine RWP.cut (fun f w => ∃ (F2 : Mem), HS w0 F0 w F2 [] ∧ Mem.le F1 F2 ∧ f.d = [] ∧ f 2 = (.bool j12)) ?_ ?_
 ·refine V 6 9 (mv 0 (.string ⟨(x0).toArray⟩)) ?_
  obtain ⟨r17, hr18, h19⟩ := bind_some hj15
  refine Cl 7 4 147 #[(.tmp 6)] #[9] co_ref01_mixed hs6 (c_ref01_mixed N w5 F1 hs6.pers (x0) _ hr18) ?_
  intro v20 F3 w21 hs22 le23 hp24
  obtain rfl := hp24
  refine V 8 4 (mv 7 (.bool r17)) ?_
  refine RWP.split r17 (fun hb25 => ?_) (fun hb25 => ?_)
  ·have h26 := cond_t h19 hb25
   refine Vg 9 3 2 true 8 hb25 (mv 3 (vi r1)) ?_
   obtain ⟨r27, hr28, h29⟩ := bind_some h26
   refine RWP.call (dst := (some 10)) (ty := 4) (g := (some (2, true))) (by kernel_rfl) (gd_y (d := 8) (by kernel_rfl) rfl hb25) (f0 := (.func 67)) (aos := #[(.tmp 9), (.const (vi 1)), (.const (vi 4))]) (ats := #[3, 3, 3]) (fid := 67) (first := #[]) (cap := #[]) (args := [(vi r1), (vi 1), (vi 4)]) rfl co_ref01_within (rfl) hs22 (c_ref01_within N w21 F3 hs22.pers (r1) (1) (4) _ hr28) ?_
   intro v30 F4 w31 hs32 le33 hp34
   obtain rfl := hp34
   refine V 11 4 (p1 8 (.tmp 10) (.const (.bool false)) (.bool r27) hb25) ?_
   refine V 12 4 (mv 11 (.bool r27)) ?_
   refine RWP.split r27 (fun hb35 => ?_) (fun hb35 => ?_)
   ·have h36 := cond_t h29 hb35
    refine Vg 13 9 6 true 12 hb35 (mv 0 (.string ⟨(x0).toArray⟩)) ?_
    refine Vg 14 3 6 true 12 hb35 (mv 3 (vi r1)) ?_
    obtain ⟨r37, hr38, h39⟩ := bind_some h36
    refine Vg 15 9 6 true 12 hb35 (run_ssub (t := 9) (x := (.tmp 13)) (lo := none) (hi := (some (.tmp 14))) (a := x0) (il := 0) (ih := r1) (v := r37) rfl (by kernel_rfl) rfl rfl hr38) ?_
    obtain ⟨r40, hr41, h42⟩ := bind_some h39
    refine RWP.call (dst := (some 16)) (ty := 4) (g := (some (6, true))) (by kernel_rfl) (gd_y (d := 12) (by kernel_rfl) rfl hb35) (f0 := (.func 148)) (aos := #[(.tmp 15)]) (ats := #[9]) (fid := 148) (first := #[]) (cap := #[]) (args := [(.string ⟨(r37).toArray⟩)]) rfl co_ref01_lettered (rfl) hs32 (c_ref01_lettered N w31 F4 hs32.pers (r37) _ hr41) ?_
    intro v43 F5 w44 hs45 le46 hp47
    obtain rfl := hp47
    refine V 17 4 (p1 12 (.tmp 16) (.const (.bool false)) (.bool r40) hb35) ?_
    refine V 18 4 (mv 17 (.bool r40)) ?_
    refine RWP.split r40 (fun hb48 => ?_) (fun hb48 => ?_)
    ·have h49 := cond_t h42 hb48
     refine Vg 19 9 12 true 18 hb48 (mv 0 (.string ⟨(x0).toArray⟩)) ?_
     refine Vg 20 3 12 true 18 hb48 (run_slen (x := (.tmp 19)) (ats := #[9]) (t := 9) (a := x0) rfl rfl (by kernel_rfl)) ?_
     refine Vg 21 3 12 true 18 hb48 (mv 3 (vi r1)) ?_
     refine Vg 22 3 12 true 18 hb48 (run_sub (t := 3) (t' := 3) (x := (.tmp 20)) (y := (.tmp 21)) (k := .i64) (a := (x0.length : Int)) (b := r1) rfl rfl) ?_
     obtain ⟨r50, hr51, h52⟩ := bind_some h49
     refine RWP.call (dst := (some 23)) (ty := 4) (g := (some (12, true))) (by kernel_rfl) (gd_y (d := 18) (by kernel_rfl) rfl hb48) (f0 := (.func 67)) (aos := #[(.tmp 22), (.const (vi 1)), (.const (vi 4))]) (ats := #[3, 3, 3]) (fid := 67) (first := #[]) (cap := #[]) (args := [(vi (W64 ((x0.length : Int) - r1))), (vi 1), (vi 4)]) rfl co_ref01_within (rfl) hs45 (c_ref01_within N w44 F5 hs45.pers ((W64 ((x0.length : Int) - r1))) (1) (4) _ hr51) ?_
     intro v53 F6 w54 hs55 le56 hp57
     obtain rfl := hp57
     refine V 24 4 (p1 18 (.tmp 23) (.const (.bool false)) (.bool r50) hb48) ?_
     refine V 2 4 (ma 24 (.bool r50)) ?_
     obtain rfl := some_inj h52
     exact RWP.nil ⟨rfl, F6, hs55, (((le23.trans le33).trans le46).trans le56), rfl, rfl⟩
    ·have h58 := cond_f h42 hb48
     refine Sk [19, 20, 21, 22, 23] 12 true 18 hb48 ?_
     refine V 24 4 (p0 18 (.tmp 23) (.const (.bool false)) (.bool false) hb48) ?_
     refine V 2 4 (ma 24 (.bool false)) ?_
     obtain rfl := some_inj h58
     exact RWP.nil ⟨rfl, F5, hs45, ((le23.trans le33).trans le46), rfl, rfl⟩
   ·have h59 := cond_f h29 hb35
    refine Sk [13, 14, 15, 16] 6 true 12 hb35 ?_
    refine V 17 4 (p0 12 (.tmp 16) (.const (.bool false)) (.bool false) hb35) ?_
    refine V 18 4 (mv 17 (.bool false)) ?_
    refine Sk [19, 20, 21, 22, 23] 12 true 18 rfl ?_
    refine V 24 4 (p0 18 (.tmp 23) (.const (.bool false)) (.bool false) rfl) ?_
    refine V 2 4 (ma 24 (.bool false)) ?_
    obtain rfl := some_inj h59
    exact RWP.nil ⟨rfl, F4, hs32, (le23.trans le33), rfl, rfl⟩
  ·have h60 := cond_f h19 hb25
   refine Sk [9, 10] 2 true 8 hb25 ?_
   refine V 11 4 (p0 8 (.tmp 10) (.const (.bool false)) (.bool false) hb25) ?_
   refine V 12 4 (mv 11 (.bool false)) ?_
   refine Sk [13, 14, 15, 16] 6 true 12 rfl ?_
   refine V 17 4 (p0 12 (.tmp 16) (.const (.bool false)) (.bool false) rfl) ?_
   refine V 18 4 (mv 17 (.bool false)) ?_
   refine Sk [19, 20, 21, 22, 23] 12 true 18 rfl ?_
   refine V 24 4 (p0 18 (.tmp 23) (.const (.bool false)) (.bool false) rfl) ?_
   refine V 2 4 (ma 24 (.bool false)) ?_
   obtain rfl := some_inj h60
   exact RWP.nil ⟨rfl, F3, hs22, le23, rfl, rfl⟩
 ·rintro f w9 ⟨F2, hs10, le11, e13, e14⟩
  refine thenQ_nrm ?_
  refine CWP.ret (by kernel_rfl) ?_
  have hfin := some_inj h16
  subst hfin
  exact ⟨e13, (.bool j12), res_of (l := [.tmp 2]) (by kernel_rfl) (vs := [(.bool j12)]) ⟨e14, trivial⟩, (.bool j12), F2, rfl, hs10.clear, rfl⟩
end Go.Proofs.YtlddakefmfcblaaGreatDoor
namespace Go.Proofs.YtlddakefmfcblaaGreatDoor
open Go.Proofs
def ref01_area (N : Nat) (x0 : (List UInt8)) : Option Bool :=
 (((ref01_mixed N x0).bind fun r9 => (bif r9 then ((ref01_within N (x0.length : Int) 1 4).bind fun r19 => (bif r19 then ((ref01_lettered N x0).bind fun r29 => some r29) else some false)) else some false)).bind fun j4 => some j4)
theorem co_ref01_area : CallOk Tryz.prog 115 := fun _ _ => by kernel_rfl
set_option maxHeartbeats 4000000 in
set_option maxRecDepth 100000 in
theorem c_ref01_area (N : Nat) (w0 : World) (F0 : Mem) (hF : ∀ b o, F0 b = some o → w0.heap[b]? = some o) (x0 : (List UInt8)) (r : Bool) (h : ref01_area N x0 = some r) :
  Calls Tryz.prog 115 ([(.string ⟨(x0).toArray⟩)] : List Value).toArray w0 (FRet w0 F0 fun F' v => v = (.bool r)) := by
 have hs0 := HS.start hF
 refine calls_of (n := 14) (c := bodyOf Tryz.f115) Tryz.func115 (by kernel_rfl) (by kernel_rfl) (by kernel_rfl) ?_
 refine Sq (Rg [0] ?_)
 refine V 2 4 (mc (.bool false) (.bool false)) ?_
 refine Nss (Rg [0, 1, 2, 3, 4, 5, 6, 7, 8, 9, 10, 11] ?_)
 obtain ⟨j4, hj7, h8⟩ := bind_some h
 refine RWP.cut (fun f w => ∃ (F1 : Mem), HS w0 F0 w F1 [] ∧ Mem.le F0 F1 ∧ f.d = [] ∧ f 2 = (.bool j4)) ?_ ?_
 ·refine V 3 9 (mv 0 (.string ⟨(x0).toArray⟩)) ?_
  obtain ⟨r9, hr10, h11⟩ := bind_some hj7
  refine Cl 4 4 147 #[(.tmp 3)] #[9] co_ref01_mixed hs0 (c_ref01_mixed N w0 F0 hs0.pers (x0) _ hr10) ?_
  intro v12 F2 w13 hs14 le15 hp16
  obtain rfl := hp16
  refine V 5 4 (mv 4 (.bool r9)) ?_
  refine RWP.split r9 (fun hb17 => ?_) (fun hb17 => ?_)
  ·have h18 := cond_t h11 hb17
   refine Vg 6 9 2 true 5 hb17 (mv 0 (.string ⟨(x0).toArray⟩)) ?_
   refine Vg 7 3 2 true 5 hb17 (run_slen (x := (.tmp 6)) (ats := #[9]) (t := 9) (a := x0) rfl rfl (by kernel_rfl)) ?_
   obtain ⟨r19, hr20, h21⟩ := bind_some h18
   refine RWP.call (dst := (some 8)) (ty := 4) (g := (some (2, true))) (by kernel_rfl) (gd_y (d := 5) (by kernel_rfl) rfl hb17) (f0 := (.func 67)) (aos := #[(.tmp 7), (.const (vi 1)), (.const (vi 4))]) (ats := #[3, 3, 3]) (fid := 67) (first := #[]) (cap := #[]) (args := [(vi (x0.length : Int)), (vi 1), (vi 4)]) rfl co_ref01_within (rfl) hs14 (c_ref01_within N w13 F2 hs14.pers ((x0.length : Int)) (1) (4) _ hr20) ?_
   intro v22 F3 w23 hs24 le25 hp26
   obtain rfl := hp26
   refine V 9 4 (p1 5 (.tmp 8) (.const (.bool false)) (.bool r19) hb17) ?_
   refine V 10 4 (mv 9 (.bool r19)) ?_
   refine RWP.split r19 (fun hb27 => ?_) (fun hb27 => ?_)
   ·have h28 := cond_t h21 hb27
    refine Vg 11 9 7 true 10 hb27 (mv 0 (.string ⟨(x0).toArray⟩)) ?_
    obtain ⟨r29, hr30, h31⟩ := bind_some h28
    refine RWP.call (dst := (some 12)) (ty := 4) (g := (some (7, true))) (by kernel_rfl) (gd_y (d := 10) (by kernel_rfl) rfl hb27) (f0 := (.func 148)) (aos := #[(.tmp 11)]) (ats := #[9]) (fid := 148) (first := #[]) (cap := #[]) (args := [(.string ⟨(x0).toArray⟩)]) rfl co_ref01_lettered (rfl) hs24 (c_ref01_lettered N w23 F3 hs24.pers (x0) _ hr30) ?_
    intro v32 F4 w33 hs34 le35 hp36
    obtain rfl := hp36
    refine V 13 4 (p1 10 (.tmp 12) (.const (.bool false)) (.bool r29) hb27) ?_
    refine V 2 4 (ma 13 (.bool r29)) ?_
    obtain rfl := some_inj h31
    exact RWP.nil ⟨rfl, F4, hs34, ((le15.trans le25).trans le35), rfl, rfl⟩
   ·have h37 := cond_f h21 hb27
    refine Sk [11, 12] 7 true 10 hb27 ?_
    refine V 13 4 (p0 10 (.tmp 12) (.const (.bool false)) (.bool false) hb27) ?_
    refine V 2 4 (ma 13 (.bool false)) ?_
    obtain rfl := some_inj h37
    exact RWP.nil ⟨rfl, F3, hs24, (le15.trans le25), rfl, rfl⟩
  ·have h38 := cond_f h11 hb17
   refine Sk [6, 7, 8] 2 true 5 hb17 ?_
   refine V 9 4 (p0 5 (.tmp 8) (.const (.bool false)) (.bool false) hb17) ?_
   refine V 10 4 (mv 9 (.bool false)) ?_
   refine Sk [11, 12] 7 true 10 rfl ?_
   refine V 13 4 (p0 10 (.tmp 12) (.const (.bool false)) (.bool false) rfl) ?_
   refine V 2 4 (ma 13 (.bool false)) ?_
   obtain rfl := some_inj h38
   exact RWP.nil ⟨rfl, F2, hs14, le15, rfl, rfl⟩
 ·rintro f w1 ⟨F1, hs2, le3, e5, e6⟩
  refine thenQ_nrm ?_
  refine CWP.ret (by kernel_rfl) ?_
  have hfin := some_inj h8
  subst hfin
  exact ⟨e5, (.bool j4), res_of (l := [.tmp 2]) (by kernel_rfl) (vs := [(.bool j4)]) ⟨e6, trivial⟩, (.bool j4), F1, rfl, hs2.clear, rfl⟩
end Go.Proofs.YtlddakefmfcblaaGreatDoor
namespace Go.Proofs.YtlddakefmfcblaaGreatDoor
open Go.Proofs
def ref01_stroke (N : Nat) (x0 : (List UInt8)) : Option Bool :=
 ((bif ((x0.length : Int) == 1) then ((sidx x0 0).bind fun c12 => ((ref01_digit N c12).bind fun r15 => some r15)) else some false).bind fun j4 => (bif j4 then some true else (((ref01_mixed N x0).bind fun r35 => (bif r35 then ((ref01_within N (x0.length : Int) 1 4).bind fun r45 => (bif r45 then ((ref01_cut N x0).bind fun r55 => some (r55 == 0)) else some false)) else some false)).bind fun j30 => some j30)))
theorem co_ref01_stroke : CallOk Tryz.prog 116 := fun _ _ => by kernel_rfl
set_option maxHeartbeats 4000000 in
set_option maxRecDepth 100000 in
theorem c_ref01_stroke (N : Nat) (w0 : World) (F0 : Mem) (hF : ∀ b o, F0 b = some o → w0.heap[b]? = some o) (x0 : (List UInt8)) (r : Bool) (h : ref01_stroke N x0 = some r) :
  Calls Tryz.prog 116 ([(.string ⟨(x0).toArray⟩)] : List Value).toArray w0 (FRet w0 F0 fun F' v => v = (.bool r)) := by
 have hs0 := HS.start hF
 refine calls_of (n := 23) (c := bodyOf Tryz.f116) Tryz.func116 (by kernel_rfl) (by kernel_rfl) (by kernel_rfl) ?_
 refine Sq (Rg [0] ?_)
 refine V 2 4 (mc (.bool false) (.bool false)) ?_
 refine Nss ?_
 refine Sq (Rg [0, 1, 2, 3, 4, 5, 6, 7] ?_)
 obtain ⟨j4, hj8, h9⟩ := bind_some h
 refine RWP.cut (fun f w => ∃ (F1 : Mem), HS w0 F0 w F1 [] ∧ Mem.le F0 F1 ∧ f.d = [] ∧ f 0 = (.string ⟨(x0).toArray⟩) ∧ f 10 = (.bool j4)) ?_ ?_
 ·refine V 3 9 (mv 0 (.string ⟨(x0).toArray⟩)) ?_
  refine V 4 3 (run_slen (x := (.tmp 3)) (ats := #[9]) (t := 9) (a := x0) rfl rfl (by kernel_rfl)) ?_
  refine V 5 4 (run_eql (t := 3) (t' := 3) (x := (.tmp 4)) (y := (.const (vi 1))) (k := .i64) (a := (x0.length : Int)) (b := 1) rfl rfl) ?_
  refine V 6 4 (mv 5 (.bool ((x0.length : Int) == 1))) ?_
  refine RWP.split ((x0.length : Int) == 1) (fun hb10 => ?_) (fun hb10 => ?_)
  ·have h11 := cond_t hj8 hb10
   refine Vg 7 9 3 true 6 hb10 (mv 0 (.string ⟨(x0).toArray⟩)) ?_
   obtain ⟨c12, hr13, h14⟩ := bind_some h11
   refine Vg 8 5 3 true 6 hb10 (run_sidx (t := 9) (x := (.tmp 7)) (y := (.const (vi 0))) (a := x0) (k := .i64) (i := 0) (v := c12) rfl rfl (by kernel_rfl) hr13) ?_
   obtain ⟨r15, hr16, h17⟩ := bind_some h14
   refine RWP.call (dst := (some 9)) (ty := 4) (g := (some (3, true))) (by kernel_rfl) (gd_y (d := 6) (by kernel_rfl) rfl hb10) (f0 := (.func 83)) (aos := #[(.tmp 8)]) (ats := #[5]) (fid := 83) (first := #[]) (cap := #[]) (args := [(.int .u8 c12)]) rfl co_ref01_digit (rfl) hs0 (c_ref01_digit N w0 F0 hs0.pers (c12) _ hr16) ?_
   intro v18 F2 w19 hs20 le21 hp22
   obtain rfl := hp22
   refine V 10 4 (p1 6 (.tmp 9) (.const (.bool false)) (.bool r15) hb10) ?_
   obtain rfl := some_inj h17
   exact RWP.nil ⟨rfl, F2, hs20, le21, rfl, rfl, rfl⟩
  ·have h23 := cond_f hj8 hb10
   refine Sk [7, 8, 9] 3 true 6 hb10 ?_
   refine V 10 4 (p0 6 (.tmp 9) (.const (.bool false)) (.bool false) hb10) ?_
   obtain rfl := some_inj h23
   exact RWP.nil ⟨rfl, F0, hs0, (Mem.le.refl _), rfl, rfl, rfl⟩
 ·rintro f w1 ⟨F1, hs2, le3, e5, e6, e7⟩
  refine thenQ_nrm ?_
  refine CWP.cond (t := j4) (by kernel_rfl) e7 (fun hb24 => ?_) (fun hb24 => ?_)
  ·have h25 := cond_t h9 hb24
   refine Sq (Rg [0] ?_)
   refine V 2 4 (mc (.bool true) (.bool true)) ?_
   refine Nt ?_
   refine CWP.ret (by kernel_rfl) ?_
   refine thenQ_ret ?_
   have hfin := some_inj h25
   subst hfin
   exact ⟨e5, (.bool true), res_of (l := [.tmp 2]) (by kernel_rfl) (vs := [(.bool true)]) ⟨rfl, trivial⟩, (.bool true), F1, rfl, hs2.clear, rfl⟩
  ·have h26 := cond_f h9 hb24
   refine Sc ?_
   refine thenQ_nrm ?_
   refine Sq (Rg [0, 1, 2, 3, 4, 5, 6, 7, 8, 9, 10, 11, 12] ?_)
   obtain ⟨j30, hj33, h34⟩ := bind_some h26
   refine RWP.cut (fun f w => ∃ (F3 : Mem), HS w0 F0 w F3 [] ∧ Mem.le F1 F3 ∧ f.d = [] ∧ f 2 = (.bool j30)) ?_ ?_
   ·refine V 11 9 (mv 0 (.string ⟨(x0).toArray⟩) e6) ?_
    obtain ⟨r35, hr36, h37⟩ := bind_some hj33
    refine Cl 12 4 147 #[(.tmp 11)] #[9] co_ref01_mixed hs2 (c_ref01_mixed N w1 F1 hs2.pers (x0) _ hr36) ?_
    intro v38 F4 w39 hs40 le41 hp42
    obtain rfl := hp42
    refine V 13 4 (mv 12 (.bool r35)) ?_
    refine RWP.split r35 (fun hb43 => ?_) (fun hb43 => ?_)
    ·have h44 := cond_t h37 hb43
     refine Vg 14 9 2 true 13 hb43 (mv 0 (.string ⟨(x0).toArray⟩) e6) ?_
     refine Vg 15 3 2 true 13 hb43 (run_slen (x := (.tmp 14)) (ats := #[9]) (t := 9) (a := x0) rfl rfl (by kernel_rfl)) ?_
     obtain ⟨r45, hr46, h47⟩ := bind_some h44
     refine RWP.call (dst := (some 16)) (ty := 4) (g := (some (2, true))) (by kernel_rfl) (gd_y (d := 13) (by kernel_rfl) rfl hb43) (f0 := (.func 67)) (aos := #[(.tmp 15), (.const (vi 1)), (.const (vi 4))]) (ats := #[3, 3, 3]) (fid := 67) (first := #[]) (cap := #[]) (args := [(vi (x0.length : Int)), (vi 1), (vi 4)]) rfl co_ref01_within (rfl) hs40 (c_ref01_within N w39 F4 hs40.pers ((x0.length : Int)) (1) (4) _ hr46) ?_
     intro v48 F5 w49 hs50 le51 hp52
     obtain rfl := hp52
     refine V 17 4 (p1 13 (.tmp 16) (.const (.bool false)) (.bool r45) hb43) ?_
     refine V 18 4 (mv 17 (.bool r45)) ?_
     refine RWP.split r45 (fun hb53 => ?_) (fun hb53 => ?_)
     ·have h54 := cond_t h47 hb53
      refine Vg 19 9 7 true 18 hb53 (mv 0 (.string ⟨(x0).toArray⟩) e6) ?_
      obtain ⟨r55, hr56, h57⟩ := bind_some h54
      refine RWP.call (dst := (some 20)) (ty := 3) (g := (some (7, true))) (by kernel_rfl) (gd_y (d := 18) (by kernel_rfl) rfl hb53) (f0 := (.func 82)) (aos := #[(.tmp 19)]) (ats := #[9]) (fid := 82) (first := #[]) (cap := #[]) (args := [(.string ⟨(x0).toArray⟩)]) rfl co_ref01_cut (rfl) hs50 (c_ref01_cut N w49 F5 hs50.pers (x0) _ hr56) ?_
      intro v58 F6 w59 hs60 le61 hp62
      obtain rfl := hp62
      refine Vg 21 4 7 true 18 hb53 (run_eql (t := 3) (t' := 3) (x := (.tmp 20)) (y := (.const (vi 0))) (k := .i64) (a := r55) (b := 0) rfl rfl) ?_
      refine V 22 4 (p1 18 (.tmp 21) (.const (.bool false)) (.bool (r55 == 0)) hb53) ?_
      refine V 2 4 (ma 22 (.bool (r55 == 0))) ?_
      obtain rfl := some_inj h57
      exact RWP.nil ⟨rfl, F6, hs60, ((le41.trans le51).trans le61), e5, rfl⟩
     ·have h63 := cond_f h47 hb53
      refine Sk [19, 20, 21] 7 true 18 hb53 ?_
      refine V 22 4 (p0 18 (.tmp 21) (.const (.bool false)) (.bool false) hb53) ?_
      refine V 2 4 (ma 22 (.bool false)) ?_
      obtain rfl := some_inj h63
      exact RWP.nil ⟨rfl, F5, hs50, (le41.trans le51), e5, rfl⟩
    ·have h64 := cond_f h37 hb43
     refine Sk [14, 15, 16] 2 true 13 hb43 ?_
     refine V 17 4 (p0 13 (.tmp 16) (.const (.bool false)) (.bool false) hb43) ?_
     refine V 18 4 (mv 17 (.bool false)) ?_
     refine Sk [19, 20, 21] 7 true 18 rfl ?_
     refine V 22 4 (p0 18 (.tmp 21) (.const (.bool false)) (.bool false) rfl) ?_
     refine V 2 4 (ma 22 (.bool false)) ?_
     obtain rfl := some_inj h64
     exact RWP.nil ⟨rfl, F4, hs40, le41, e5, rfl⟩
   ·rintro f w27 ⟨F3, hs28, le29, e31, e32⟩
    refine thenQ_nrm ?_
    refine CWP.ret (by kernel_rfl) ?_
    have hfin := some_inj h34
    subst hfin
    exact ⟨e31, (.bool j30), res_of (l := [.tmp 2]) (by kernel_rfl) (vs := [(.bool j30)]) ⟨e32, trivial⟩, (.bool j30), F3, rfl, hs28.clear, rfl⟩
end Go.Proofs.YtlddakefmfcblaaGreatDoor
namespace Go.Proofs.YtlddakefmfcblaaGreatDoor
open Go.Proofs
def ref01_parts (N : Nat) (x0 : (List UInt8)) : Option ((List UInt8) × (List UInt8) × (List UInt8) × Bool) :=
 (bif (decide ((x0.length : Int) > 16)) then some (([] : List UInt8), ([] : List UInt8), ([] : List UInt8), false) else ((ref01_pieces N x0).bind fun r4 => ((bif ((r4.length : Int) == 1) then ((idx r4 0).bind fun x23 => ((ref01_base N x23).bind fun r37 => some r37)) else some false).bind fun j15 => (bif j15 then (((idx r4 0).bind fun x61 => some x61).bind fun j53 => some (([] : List UInt8), j53, ([] : List UInt8), true)) else ((bif ((r4.length : Int) == 2) then ((idx r4 0).bind fun x89 => ((ref01_area N x89).bind fun r103 => (bif r103 then ((idx r4 1).bind fun x113 => ((ref01_base N x113).bind fun r119 => (bif r119 then ((idx r4 0).bind fun x129 => ((idx r4 1).bind fun x135 => some (decide ((x129.length : Int) < (x135.length : Int))))) else some false))) else some false))) else some false).bind fun j81 => (bif j81 then (((idx r4 0).bind fun x159 => ((idx r4 1).bind fun x173 => some (x159, x173))).bind fun j151 => some (j151.1, j151.2, ([] : List UInt8), true)) else ((bif ((r4.length : Int) == 2) then ((idx r4 0).bind fun x191 => ((ref01_base N x191).bind fun r205 => (bif r205 then ((idx r4 1).bind fun x215 => ((ref01_stroke N x215).bind fun r221 => some r221)) else some false))) else some false).bind fun j183 => (bif j183 then (((idx r4 0).bind fun x246 => ((idx r4 1).bind fun x260 => some (x246, x260))).bind fun j238 => some (([] : List UInt8), j238.1, j238.2, true)) else ((bif ((r4.length : Int) == 3) then ((idx r4 0).bind fun x278 => ((ref01_area N x278).bind fun r292 => (bif r292 then ((idx r4 1).bind fun x302 => ((ref01_base N x302).bind fun r308 => (bif r308 then ((idx r4 2).bind fun x318 => ((ref01_stroke N x318).bind fun r324 => some r324)) else some false))) else some false))) else some false).bind fun j270 => (bif j270 then (((idx r4 0).bind fun x350 => ((idx r4 1).bind fun x364 => ((idx r4 2).bind fun x370 => some (x350, x364, x370)))).bind fun j342 => some (j342.1, j342.2.1, j342.2.2, true)) else some (([] : List UInt8), ([] : List UInt8), ([] : List UInt8), false)))))))))))
theorem co_ref01_parts : CallOk Tryz.prog 81 := fun _ _ => by kernel_rfl
set_option maxHeartbeats 4000000 in
set_option maxRecDepth 100000 in
theorem c_ref01_parts (N : Nat) (w0 : World) (F0 : Mem) (hF : ∀ b o, F0 b = some o → w0.heap[b]? = some o) (x0 : (List UInt8)) (r : ((List UInt8) × (List UInt8) × (List UInt8) × Bool)) (h : ref01_parts N x0 = some r) :
  Calls Tryz.prog 81 ([(.string ⟨(x0).toArray⟩)] : List Value).toArray w0 (FRet w0 F0 fun F' v => v = (.tuple #[(.string ⟨(r.1).toArray⟩), (.string ⟨(r.2.1).toArray⟩), (.string ⟨(r.2.2.1).toArray⟩), (.bool r.2.2.2)])) := by
 have hs0 := HS.start hF
 refine calls_of (n := 107) (c := bodyOf Tryz.f81) Tryz.func81 (by kernel_rfl) (by kernel_rfl) (by kernel_rfl) ?_
 refine Sq (Rg [0, 1, 2, 3] ?_)
 refine V 2 9 (mc (.string ⟨([] : List UInt8).toArray⟩) (.string ⟨(([] : List UInt8)).toArray⟩)) ?_
 refine V 3 9 (mc (.string ⟨([] : List UInt8).toArray⟩) (.string ⟨(([] : List UInt8)).toArray⟩)) ?_
 refine V 4 9 (mc (.string ⟨([] : List UInt8).toArray⟩) (.string ⟨(([] : List UInt8)).toArray⟩)) ?_
 refine V 5 4 (mc (.bool false) (.bool false)) ?_
 refine Nss ?_
 refine Sq (Rg [0, 1, 2] ?_)
 refine V 7 9 (mv 0 (.string ⟨(x0).toArray⟩)) ?_
 refine V 8 3 (run_slen (x := (.tmp 7)) (ats := #[9]) (t := 9) (a := x0) rfl rfl (by kernel_rfl)) ?_
 refine V 9 4 (run_gtr (t := 3) (t' := 3) (x := (.tmp 8)) (y := (.const (vi 16))) (k := .i64) (a := (x0.length : Int)) (b := 16) rfl rfl) ?_
 refine Nt ?_
 refine CWP.cond (t := (decide ((x0.length : Int) > 16))) (by kernel_rfl) rfl (fun hb1 => ?_) (fun hb1 => ?_)
 ·have h2 := cond_t h hb1
  refine Sq (Rg [0, 1, 2, 3] ?_)
  refine V 2 9 (mc (.string ⟨([] : List UInt8).toArray⟩) (.string ⟨(([] : List UInt8)).toArray⟩)) ?_
  refine V 3 9 (mc (.string ⟨([] : List UInt8).toArray⟩) (.string ⟨(([] : List UInt8)).toArray⟩)) ?_
  refine V 4 9 (mc (.string ⟨([] : List UInt8).toArray⟩) (.string ⟨(([] : List UInt8)).toArray⟩)) ?_
  refine V 5 4 (mc (.bool false) (.bool false)) ?_
  refine Nt ?_
  refine CWP.ret (by kernel_rfl) ?_
  refine thenQ_ret ?_
  have hfin := some_inj h2
  subst hfin
  exact ⟨rfl, (.tuple #[(.string ⟨(([] : List UInt8)).toArray⟩), (.string ⟨(([] : List UInt8)).toArray⟩), (.string ⟨(([] : List UInt8)).toArray⟩), (.bool false)]), res_of (l := [.tmp 2, .tmp 3, .tmp 4, .tmp 5]) (by kernel_rfl) (vs := [(.string ⟨(([] : List UInt8)).toArray⟩), (.string ⟨(([] : List UInt8)).toArray⟩), (.string ⟨(([] : List UInt8)).toArray⟩), (.bool false)]) ⟨rfl, ⟨rfl, ⟨rfl, ⟨rfl, trivial⟩⟩⟩⟩, (.tuple #[(.string ⟨(([] : List UInt8)).toArray⟩), (.string ⟨(([] : List UInt8)).toArray⟩), (.string ⟨(([] : List UInt8)).toArray⟩), (.bool false)]), F0, rfl, hs0.clear, rfl⟩
 ·have h3 := cond_f h hb1
  refine Sc ?_
  refine thenQ_nrm ?_
  refine Sq (Rg [0, 1, 2] ?_)
  refine V 10 9 (mv 0 (.string ⟨(x0).toArray⟩)) ?_
  obtain ⟨r4, hr5, h6⟩ := bind_some h3
  refine Cl 11 80 113 #[(.tmp 10)] #[9] co_ref01_pieces hs0 (c_ref01_pieces N w0 F0 hs0.pers (x0) _ hr5) ?_
  intro v7 F1 w8 hs9 le10 hp11
  obtain ⟨ar4_0_0, nr4_0_0, rfl, hbr4_0_0, hsr4_0_0⟩ := hp11
  refine V 6 80 (ma 11 (.slice ar4_0_0 r4.length nr4_0_0)) ?_
  refine Nss ?_
  refine Sq (Rg [0, 1, 2, 3, 4, 5, 6, 7, 8] ?_)
  obtain ⟨j15, hj19, h20⟩ := bind_some h6
  refine RWP.cut (fun f w => ∃ (F2 : Mem), HS w0 F0 w F2 [] ∧ Mem.le F1 F2 ∧ f.d = [] ∧ f 6 = (.slice ar4_0_0 r4.length nr4_0_0) ∧ f 20 = (.bool j15)) ?_ ?_
  ·refine V 12 80 (mv 6 (.slice ar4_0_0 r4.length nr4_0_0)) ?_
   refine V 13 3 (ln 12 80 ar4_0_0 r4.length nr4_0_0 9 1 16) ?_
   refine V 14 4 (run_eql (t := 3) (t' := 3) (x := (.tmp 13)) (y := (.const (vi 1))) (k := .i64) (a := (r4.length : Int)) (b := 1) rfl rfl) ?_
   refine V 15 4 (mv 14 (.bool ((r4.length : Int) == 1))) ?_
   refine RWP.split ((r4.length : Int) == 1) (fun hb21 => ?_) (fun hb21 => ?_)
   ·have h22 := cond_t hj19 hb21
    refine Vg 16 80 3 true 15 hb21 (mv 6 (.slice ar4_0_0 r4.length nr4_0_0)) ?_
    obtain ⟨x23, hx24, h26⟩ := bind_some h22
    obtain ⟨hi25, hx24'⟩ := idx_spec hx24
    obtain ⟨b27, o28, C29, E30, fz31, rfl, hF33, hE34⟩ := SlA.open hsr4_0_0 hx24'
    have hc36 := hE34 _ _ hx24'
    refine Vg 17 0 3 true 15 hb21 (run_index (t := 80) (x := (.tmp 16)) (y := (.const (vi 0))) (b := b27) (o := o28) (E := 9) (s := 1) (by_ := 16) rfl rfl (by kernel_rfl) hi25) ?_
    refine Vg 18 9 3 true 15 hb21 (lx 9 17 0 1 false 1 (.string ⟨(x23).toArray⟩) (hs9.pers _ _ hF33) hc36) ?_
    obtain ⟨r37, hr38, h39⟩ := bind_some h26
    refine RWP.call (dst := (some 19)) (ty := 4) (g := (some (3, true))) (by kernel_rfl) (gd_y (d := 15) (by kernel_rfl) rfl hb21) (f0 := (.func 114)) (aos := #[(.tmp 18)]) (ats := #[9]) (fid := 114) (first := #[]) (cap := #[]) (args := [(.string ⟨(x23).toArray⟩)]) rfl co_ref01_base (rfl) hs9 (c_ref01_base N w8 F1 hs9.pers (x23) _ hr38) ?_
    intro v40 F3 w41 hs42 le43 hp44
    obtain rfl := hp44
    refine V 20 4 (p1 15 (.tmp 19) (.const (.bool false)) (.bool r37) hb21) ?_
    obtain rfl := some_inj h39
    exact RWP.nil ⟨rfl, F3, hs42, le43, rfl, rfl, rfl⟩
   ·have h45 := cond_f hj19 hb21
    refine Sk [16, 17, 18, 19] 3 true 15 hb21 ?_
    refine V 20 4 (p0 15 (.tmp 19) (.const (.bool false)) (.bool false) hb21) ?_
    obtain rfl := some_inj h45
    exact RWP.nil ⟨rfl, F1, hs9, (Mem.le.refl _), rfl, rfl, rfl⟩
  ·rintro f w12 ⟨F2, hs13, le14, e16, e17, e18⟩
   refine thenQ_nrm ?_
   refine CWP.cond (t := j15) (by kernel_rfl) e18 (fun hb46 => ?_) (fun hb46 => ?_)
   ·have h47 := cond_t h20 hb46
    refine Sq ?_
    obtain ⟨j53, hj59, h60⟩ := bind_some h47
    refine CWP.regionD (by kernel_rfl) (by kernel_rfl) (by kernel_rfl) (by kernel_rfl) (z := 7) (F := F2) (Lc := []) (Lz := []) (l := [false, false, false, false, false, false, false]) (fuel := 7) (by kernel_rfl) (by kernel_rfl) hs13 (by simp) (by simp) (fun f w => ∃ (F4 : Mem), HS w0 F0 w F4 [] ∧ Mem.le F2 F4 ∧ f.d = [] ∧ f 2 = (.string ⟨(([] : List UInt8)).toArray⟩) ∧ f 3 = (.string ⟨(j53).toArray⟩) ∧ f 4 = (.string ⟨(([] : List UInt8)).toArray⟩) ∧ f 5 = (.bool true)) (fun wd48 hw49 => ?_) ?_
    ·refine Dt 0 21 80 _ (fun _ hq => mv 6 (.slice ar4_0_0 r4.length nr4_0_0) e17) ?_
     obtain ⟨x61, hx62, h64⟩ := bind_some hj59
     obtain ⟨hi63, hx62'⟩ := idx_spec hx62
     obtain ⟨b65, o66, C67, E68, fz69, rfl, hF71, hE72⟩ := SlA.open (SlA.mono hsr4_0_0 le14) hx62'
     have hc74 := hE72 _ _ hx62'
     refine Dt 1 22 0 (.pointer (some ⟨b65, (o66 + (0 : Int).toNat * 1), none⟩)) (fun _ hq => run_index (t := 80) (x := (.tmp 21)) (y := (.const (vi 0))) (b := b65) (o := o66) (E := 9) (s := 1) (by_ := 16) rfl rfl (by kernel_rfl) hi63) ?_
     refine Dt 2 23 9 _ (fun _ hq => lx 9 22 0 1 false 1 (.string ⟨(x61).toArray⟩) (hq.1.1 _ _ hF71) hc74) ?_
     refine Dt 3 2 9 _ (fun _ hq => mc (.string ⟨([] : List UInt8).toArray⟩) (.string ⟨(([] : List UInt8)).toArray⟩)) ?_
     refine Dt 4 3 9 _ (fun _ hq => ma 23 (.string ⟨(x61).toArray⟩)) ?_
     refine Dt 5 4 9 _ (fun _ hq => mc (.string ⟨([] : List UInt8).toArray⟩) (.string ⟨(([] : List UInt8)).toArray⟩)) ?_
     refine Dt 6 5 4 _ (fun _ hq => mc (.bool true) (.bool true)) ?_
     obtain rfl := some_inj h64
     exact DWP.done (by kernel_rfl) ⟨F2, hw49, (Mem.le.refl _), e16, rfl, rfl, rfl, rfl⟩
    ·rintro f w50 ⟨F4, hs51, le52, e54, e55, e56, e57, e58⟩
     refine thenQ_nrm ?_
     refine CWP.ret (by kernel_rfl) ?_
     refine thenQ_ret ?_
     have hfin := some_inj h60
     subst hfin
     exact ⟨e54, (.tuple #[(.string ⟨(([] : List UInt8)).toArray⟩), (.string ⟨(j53).toArray⟩), (.string ⟨(([] : List UInt8)).toArray⟩), (.bool true)]), res_of (l := [.tmp 2, .tmp 3, .tmp 4, .tmp 5]) (by kernel_rfl) (vs := [(.string ⟨(([] : List UInt8)).toArray⟩), (.string ⟨(j53).toArray⟩), (.string ⟨(([] : List UInt8)).toArray⟩), (.bool true)]) ⟨e55, ⟨e56, ⟨e57, ⟨e58, trivial⟩⟩⟩⟩, (.tuple #[(.string ⟨(([] : List UInt8)).toArray⟩), (.string ⟨(j53).toArray⟩), (.string ⟨(([] : List UInt8)).toArray⟩), (.bool true)]), F4, rfl, hs51.clear, rfl⟩
   ·have h75 := cond_f h20 hb46
    refine Sc ?_
    refine thenQ_nrm ?_
    refine Sq ?_
    refine Sq ?_
    obtain ⟨j81, hj85, h86⟩ := bind_some h75
    refine CWP.regionD (by kernel_rfl) (by kernel_rfl) (by kernel_rfl) (by kernel_rfl) (z := 26) (F := F2) (Lc := []) (Lz := []) (l := [false, false, false, false, false, false, false, false, false, false, false, false, false, false, false, false, false, false, false, false, false, false, false, false, false, false]) (fuel := 26) (by kernel_rfl) (by kernel_rfl) hs13 (by simp) (by simp) (fun f w => ∃ (F5 : Mem), HS w0 F0 w F5 [] ∧ Mem.le F2 F5 ∧ f.d = [] ∧ f 6 = (.slice ar4_0_0 r4.length nr4_0_0) ∧ f 49 = (.bool j81)) (fun wd76 hw77 => ?_) ?_
    ·refine Dtl 0 24 80 _ [tt, ff, ff, ff, ff, ff, ff, ff, ff, ff, ff, ff, ff, ff, ff, ff, ff, ff, ff, ff, ff, ff, ff, ff, ff, ff] (fun _ hq => mv 6 (.slice ar4_0_0 r4.length nr4_0_0) e17) ?_
     refine Dtl 1 25 3 (vi (r4.length : Int)) [tt, tt, ff, ff, ff, ff, ff, ff, ff, ff, ff, ff, ff, ff, ff, ff, ff, ff, ff, ff, ff, ff, ff, ff, ff, ff] (fun _ hq => ln 24 80 ar4_0_0 r4.length nr4_0_0 9 1 16) ?_
     refine Dtl 2 26 4 (.bool ((r4.length : Int) == 2)) [tt, tt, tt, ff, ff, ff, ff, ff, ff, ff, ff, ff, ff, ff, ff, ff, ff, ff, ff, ff, ff, ff, ff, ff, ff, ff] (fun _ hq => run_eql (t := 3) (t' := 3) (x := (.tmp 25)) (y := (.const (vi 2))) (k := .i64) (a := (r4.length : Int)) (b := 2) rfl rfl) ?_
     refine Dtl 3 27 4 _ [tt, tt, tt, tt, ff, ff, ff, ff, ff, ff, ff, ff, ff, ff, ff, ff, ff, ff, ff, ff, ff, ff, ff, ff, ff, ff] (fun _ hq => mv 26 (.bool ((r4.length : Int) == 2))) ?_
     refine DWP.split ((r4.length : Int) == 2) (fun hb87 => ?_) (fun hb87 => ?_)
     ·have h88 := cond_t hj85 hb87
      refine Dgl 4 28 80 _ [tt, tt, tt, tt, tt, ff, ff, ff, ff, ff, ff, ff, ff, ff, ff, ff, ff, ff, ff, ff, ff, ff, ff, ff, ff, ff] 3 true 27 hb87 (fun _ hq => mv 6 (.slice ar4_0_0 r4.length nr4_0_0) e17) ?_
      obtain ⟨x89, hx90, h92⟩ := bind_some h88
      obtain ⟨hi91, hx90'⟩ := idx_spec hx90
      obtain ⟨b93, o94, C95, E96, fz97, rfl, hF99, hE100⟩ := SlA.open (SlA.mono hsr4_0_0 le14) hx90'
      have hc102 := hE100 _ _ hx90'
      refine Dgl 5 29 0 (.pointer (some ⟨b93, (o94 + (0 : Int).toNat * 1), none⟩)) [tt, tt, tt, tt, tt, tt, ff, ff, ff, ff, ff, ff, ff, ff, ff, ff, ff, ff, ff, ff, ff, ff, ff, ff, ff, ff] 3 true 27 hb87 (fun _ hq => run_index (t := 80) (x := (.tmp 28)) (y := (.const (vi 0))) (b := b93) (o := o94) (E := 9) (s := 1) (by_ := 16) rfl rfl (by kernel_rfl) hi91) ?_
      refine Dgl 6 30 9 _ [tt, tt, tt, tt, tt, tt, tt, ff, ff, ff, ff, ff, ff, ff, ff, ff, ff, ff, ff, ff, ff, ff, ff, ff, ff, ff] 3 true 27 hb87 (fun _ hq => lx 9 29 0 1 false 1 (.string ⟨(x89).toArray⟩) (hq.1.1 _ _ hF99) hc102) ?_
      refine DWP.one (i := 7) (by kernel_rfl) ?_
      obtain ⟨r103, hr104, h105⟩ := bind_some h92
      refine DStep.call (l' := [true, true, true, true, true, true, true, true, false, false, false, false, false, false, false, false, false, false, false, false, false, false, false, false, false, false]) (zd := true) (by kernel_rfl) (by kernel_rfl) (by kernel_rfl) (dst := (some 31)) (ty := 4) (g := (some (3, true))) (by kernel_rfl) (gd_y (d := 27) (by kernel_rfl) rfl hb87) (f0 := (.func 115)) (aos := #[(.tmp 30)]) (ats := #[9]) (fid := 115) (first := #[]) (cap := #[]) (args := [(.string ⟨(x89).toArray⟩)]) rfl co_ref01_area (rfl) hw77 (c_ref01_area N wd76 F2 hw77.pers (x89) _ hr104) ?_
      intro v106 F6 w107 hs108 le109 hp110
      obtain rfl := hp110
      refine Dtl 8 32 4 _ [tt, tt, tt, tt, tt, tt, tt, tt, tt, ff, ff, ff, ff, ff, ff, ff, ff, ff, ff, ff, ff, ff, ff, ff, ff, ff] (fun _ hq => p1 27 (.tmp 31) (.const (.bool false)) (.bool r103) hb87) ?_
      refine Dtl 9 33 4 _ [tt, tt, tt, tt, tt, tt, tt, tt, tt, tt, ff, ff, ff, ff, ff, ff, ff, ff, ff, ff, ff, ff, ff, ff, ff, ff] (fun _ hq => mv 32 (.bool r103)) ?_
      refine DWP.split r103 (fun hb111 => ?_) (fun hb111 => ?_)
      ·have h112 := cond_t h105 hb111
       refine Dgl 10 34 80 _ [tt, tt, tt, tt, tt, tt, tt, tt, tt, tt, tt, ff, ff, ff, ff, ff, ff, ff, ff, ff, ff, ff, ff, ff, ff, ff] 9 true 33 hb111 (fun _ hq => mv 6 (.slice (some ⟨b93, o94, none⟩) r4.length nr4_0_0) e17) ?_
       obtain ⟨x113, hx114, h116⟩ := bind_some h112
       obtain ⟨hi115, hx114'⟩ := idx_spec hx114
       have hc118 := hE100 _ _ hx114'
       refine Dgl 11 35 0 (.pointer (some ⟨b93, (o94 + (1 : Int).toNat * 1), none⟩)) [tt, tt, tt, tt, tt, tt, tt, tt, tt, tt, tt, tt, ff, ff, ff, ff, ff, ff, ff, ff, ff, ff, ff, ff, ff, ff] 9 true 33 hb111 (fun _ hq => run_index (t := 80) (x := (.tmp 34)) (y := (.const (vi 1))) (b := b93) (o := o94) (E := 9) (s := 1) (by_ := 16) rfl rfl (by kernel_rfl) hi115) ?_
       refine Dgl 12 36 9 _ [tt, tt, tt, tt, tt, tt, tt, tt, tt, tt, tt, tt, tt, ff, ff, ff, ff, ff, ff, ff, ff, ff, ff, ff, ff, ff] 9 true 33 hb111 (fun _ hq => lx 9 35 0 1 false 1 (.string ⟨(x113).toArray⟩) (hq.1.1 _ _ hF99) hc118) ?_
       refine DWP.one (i := 13) (by kernel_rfl) ?_
       obtain ⟨r119, hr120, h121⟩ := bind_some h116
       refine DStep.call (l' := [true, true, true, true, true, true, true, true, true, true, true, true, true, true, false, false, false, false, false, false, false, false, false, false, false, false]) (zd := true) (by kernel_rfl) (by kernel_rfl) (by kernel_rfl) (dst := (some 37)) (ty := 4) (g := (some (9, true))) (by kernel_rfl) (gd_y (d := 33) (by kernel_rfl) rfl hb111) (f0 := (.func 114)) (aos := #[(.tmp 36)]) (ats := #[9]) (fid := 114) (first := #[]) (cap := #[]) (args := [(.string ⟨(x113).toArray⟩)]) rfl co_ref01_base (rfl) hs108 (c_ref01_base N w107 F6 hs108.pers (x113) _ hr120) ?_
       intro v122 F7 w123 hs124 le125 hp126
       obtain rfl := hp126
       refine Dtl 14 38 4 _ [tt, tt, tt, tt, tt, tt, tt, tt, tt, tt, tt, tt, tt, tt, tt, ff, ff, ff, ff, ff, ff, ff, ff, ff, ff, ff] (fun _ hq => p1 33 (.tmp 37) (.const (.bool false)) (.bool r119) hb111) ?_
       refine Dtl 15 39 4 _ [tt, tt, tt, tt, tt, tt, tt, tt, tt, tt, tt, tt, tt, tt, tt, tt, ff, ff, ff, ff, ff, ff, ff, ff, ff, ff] (fun _ hq => mv 38 (.bool r119)) ?_
       refine DWP.split r119 (fun hb127 => ?_) (fun hb127 => ?_)
       ·have h128 := cond_t h121 hb127
        refine Dgl 16 40 80 _ [tt, tt, tt, tt, tt, tt, tt, tt, tt, tt, tt, tt, tt, tt, tt, tt, tt, ff, ff, ff, ff, ff, ff, ff, ff, ff] 15 true 39 hb127 (fun _ hq => mv 6 (.slice (some ⟨b93, o94, none⟩) r4.length nr4_0_0) e17) ?_
        obtain ⟨x129, hx130, h132⟩ := bind_some h128
        obtain ⟨hi131, hx130'⟩ := idx_spec hx130
        have hc134 := hE100 _ _ hx130'
        refine Dgl 17 41 0 (.pointer (some ⟨b93, (o94 + (0 : Int).toNat * 1), none⟩)) [tt, tt, tt, tt, tt, tt, tt, tt, tt, tt, tt, tt, tt, tt, tt, tt, tt, tt, ff, ff, ff, ff, ff, ff, ff, ff] 15 true 39 hb127 (fun _ hq => run_index (t := 80) (x := (.tmp 40)) (y := (.const (vi 0))) (b := b93) (o := o94) (E := 9) (s := 1) (by_ := 16) rfl rfl (by kernel_rfl) hi131) ?_
        refine Dgl 18 42 9 _ [tt, tt, tt, tt, tt, tt, tt, tt, tt, tt, tt, tt, tt, tt, tt, tt, tt, tt, tt, ff, ff, ff, ff, ff, ff, ff] 15 true 39 hb127 (fun _ hq => lx 9 41 0 1 false 1 (.string ⟨(x129).toArray⟩) (hq.1.1 _ _ hF99) hc134) ?_
        refine Dgl 19 43 3 (vi (x129.length : Int)) [tt, tt, tt, tt, tt, tt, tt, tt, tt, tt, tt, tt, tt, tt, tt, tt, tt, tt, tt, tt, ff, ff, ff, ff, ff, ff] 15 true 39 hb127 (fun _ hq => run_slen (x := (.tmp 42)) (ats := #[9]) (t := 9) (a := x129) rfl rfl (by kernel_rfl)) ?_
        refine Dgl 20 44 80 _ [tt, tt, tt, tt, tt, tt, tt, tt, tt, tt, tt, tt, tt, tt, tt, tt, tt, tt, tt, tt, tt, ff, ff, ff, ff, ff] 15 true 39 hb127 (fun _ hq => mv 6 (.slice (some ⟨b93, o94, none⟩) r4.length nr4_0_0) e17) ?_
        obtain ⟨x135, hx136, h138⟩ := bind_some h132
        obtain ⟨hi137, hx136'⟩ := idx_spec hx136
        have hc140 := hE100 _ _ hx136'
        refine Dgl 21 45 0 (.pointer (some ⟨b93, (o94 + (1 : Int).toNat * 1), none⟩)) [tt, tt, tt, tt, tt, tt, tt, tt, tt, tt, tt, tt, tt, tt, tt, tt, tt, tt, tt, tt, tt, tt, ff, ff, ff, ff] 15 true 39 hb127 (fun _ hq => run_index (t := 80) (x := (.tmp 44)) (y := (.const (vi 1))) (b := b93) (o := o94) (E := 9) (s := 1) (by_ := 16) rfl rfl (by kernel_rfl) hi137) ?_
        refine Dgl 22 46 9 _ [tt, tt, tt, tt, tt, tt, tt, tt, tt, tt, tt, tt, tt, tt, tt, tt, tt, tt, tt, tt, tt, tt, tt, ff, ff, ff] 15 true 39 hb127 (fun _ hq => lx 9 45 0 1 false 1 (.string ⟨(x135).toArray⟩) (hq.1.1 _ _ hF99) hc140) ?_
        refine Dgl 23 47 3 (vi (x135.length : Int)) [tt, tt, tt, tt, tt, tt, tt, tt, tt, tt, tt, tt, tt, tt, tt, tt, tt, tt, tt, tt, tt, tt, tt, tt, ff, ff] 15 true 39 hb127 (fun _ hq => run_slen (x := (.tmp 46)) (ats := #[9]) (t := 9) (a := x135) rfl rfl (by kernel_rfl)) ?_
        refine Dgl 24 48 4 (.bool (decide ((x129.length : Int) < (x135.length : Int)))) [tt, tt, tt, tt, tt, tt, tt, tt, tt, tt, tt, tt, tt, tt, tt, tt, tt, tt, tt, tt, tt, tt, tt, tt, tt, ff] 15 true 39 hb127 (fun _ hq => run_lss (t := 3) (t' := 3) (x := (.tmp 43)) (y := (.tmp 47)) (k := .i64) (a := (x129.length : Int)) (b := (x135.length : Int)) rfl rfl) ?_
        refine Dtl 25 49 4 _ [tt, tt, tt, tt, tt, tt, tt, tt, tt, tt, tt, tt, tt, tt, tt, tt, tt, tt, tt, tt, tt, tt, tt, tt, tt, tt] (fun _ hq => p1 39 (.tmp 48) (.const (.bool false)) (.bool (decide ((x129.length : Int) < (x135.length : Int)))) hb127) ?_
        obtain rfl := some_inj h138
        exact DWP.done (by kernel_rfl) ⟨F7, hs124, (le109.trans le125), e16, e17, rfl⟩
       ·have h141 := cond_f h121 hb127
        refine Dkl [(16, 40), (17, 41), (18, 42), (19, 43), (20, 44), (21, 45)] 15 true 39 hb127 [tt, tt, tt, tt, tt, tt, tt, tt, tt, tt, tt, tt, tt, tt, tt, tt, tt, tt, tt, tt, tt, tt, ff, ff, ff, ff] ?_
        refine Dkl [(22, 46), (23, 47), (24, 48)] 15 true 39 hb127 [tt, tt, tt, tt, tt, tt, tt, tt, tt, tt, tt, tt, tt, tt, tt, tt, tt, tt, tt, tt, tt, tt, tt, tt, tt, ff] ?_
        refine Dtl 25 49 4 _ [tt, tt, tt, tt, tt, tt, tt, tt, tt, tt, tt, tt, tt, tt, tt, tt, tt, tt, tt, tt, tt, tt, tt, tt, tt, tt] (fun _ hq => p0 39 (.tmp 48) (.const (.bool false)) (.bool false) hb127) ?_
        obtain rfl := some_inj h141
        exact DWP.done (by kernel_rfl) ⟨F7, hs124, (le109.trans le125), e16, e17, rfl⟩
      ·have h142 := cond_f h105 hb111
       refine Dkl [(10, 34), (11, 35), (12, 36), (13, 37)] 9 true 33 hb111 [tt, tt, tt, tt, tt, tt, tt, tt, tt, tt, tt, tt, tt, tt, ff, ff, ff, ff, ff, ff, ff, ff, ff, ff, ff, ff] ?_
       refine Dtl 14 38 4 _ [tt, tt, tt, tt, tt, tt, tt, tt, tt, tt, tt, tt, tt, tt, tt, ff, ff, ff, ff, ff, ff, ff, ff, ff, ff, ff] (fun _ hq => p0 33 (.tmp 37) (.const (.bool false)) (.bool false) hb111) ?_
       refine Dtl 15 39 4 _ [tt, tt, tt, tt, tt, tt, tt, tt, tt, tt, tt, tt, tt, tt, tt, tt, ff, ff, ff, ff, ff, ff, ff, ff, ff, ff] (fun _ hq => mv 38 (.bool false)) ?_
       refine Dkl [(16, 40), (17, 41), (18, 42), (19, 43), (20, 44), (21, 45)] 15 true 39 rfl [tt, tt, tt, tt, tt, tt, tt, tt, tt, tt, tt, tt, tt, tt, tt, tt, tt, tt, tt, tt, tt, tt, ff, ff, ff, ff] ?_
       refine Dkl [(22, 46), (23, 47), (24, 48)] 15 true 39 rfl [tt, tt, tt, tt, tt, tt, tt, tt, tt, tt, tt, tt, tt, tt, tt, tt, tt, tt, tt, tt, tt, tt, tt, tt, tt, ff] ?_
       refine Dtl 25 49 4 _ [tt, tt, tt, tt, tt, tt, tt, tt, tt, tt, tt, tt, tt, tt, tt, tt, tt, tt, tt, tt, tt, tt, tt, tt, tt, tt] (fun _ hq => p0 39 (.tmp 48) (.const (.bool false)) (.bool false) rfl) ?_
       obtain rfl := some_inj h142
       exact DWP.done (by kernel_rfl) ⟨F6, hs108, le109, e16, e17, rfl⟩
     ·have h143 := cond_f hj85 hb87
      refine Dkl [(4, 28), (5, 29), (6, 30), (7, 31)] 3 true 27 hb87 [tt, tt, tt, tt, tt, tt, tt, tt, ff, ff, ff, ff, ff, ff, ff, ff, ff, ff, ff, ff, ff, ff, ff, ff, ff, ff] ?_
      refine Dtl 8 32 4 _ [tt, tt, tt, tt, tt, tt, tt, tt, tt, ff, ff, ff, ff, ff, ff, ff, ff, ff, ff, ff, ff, ff, ff, ff, ff, ff] (fun _ hq => p0 27 (.tmp 31) (.const (.bool false)) (.bool false) hb87) ?_
      refine Dtl 9 33 4 _ [tt, tt, tt, tt, tt, tt, tt, tt, tt, tt, ff, ff, ff, ff, ff, ff, ff, ff, ff, ff, ff, ff, ff, ff, ff, ff] (fun _ hq => mv 32 (.bool false)) ?_
      refine Dkl [(10, 34), (11, 35), (12, 36), (13, 37)] 9 true 33 rfl [tt, tt, tt, tt, tt, tt, tt, tt, tt, tt, tt, tt, tt, tt, ff, ff, ff, ff, ff, ff, ff, ff, ff, ff, ff, ff] ?_
      refine Dtl 14 38 4 _ [tt, tt, tt, tt, tt, tt, tt, tt, tt, tt, tt, tt, tt, tt, tt, ff, ff, ff, ff, ff, ff, ff, ff, ff, ff, ff] (fun _ hq => p0 33 (.tmp 37) (.const (.bool false)) (.bool false) rfl) ?_
      refine Dtl 15 39 4 _ [tt, tt, tt, tt, tt, tt, tt, tt, tt, tt, tt, tt, tt, tt, tt, tt, ff, ff, ff, ff, ff, ff, ff, ff, ff, ff] (fun _ hq => mv 38 (.bool false)) ?_
      refine Dkl [(16, 40), (17, 41), (18, 42), (19, 43), (20, 44), (21, 45)] 15 true 39 rfl [tt, tt, tt, tt, tt, tt, tt, tt, tt, tt, tt, tt, tt, tt, tt, tt, tt, tt, tt, tt, tt, tt, ff, ff, ff, ff] ?_
      refine Dkl [(22, 46), (23, 47), (24, 48)] 15 true 39 rfl [tt, tt, tt, tt, tt, tt, tt, tt, tt, tt, tt, tt, tt, tt, tt, tt, tt, tt, tt, tt, tt, tt, tt, tt, tt, ff] ?_
      refine Dtl 25 49 4 _ [tt, tt, tt, tt, tt, tt, tt, tt, tt, tt, tt, tt, tt, tt, tt, tt, tt, tt, tt, tt, tt, tt, tt, tt, tt, tt] (fun _ hq => p0 39 (.tmp 48) (.const (.bool false)) (.bool false) rfl) ?_
      obtain rfl := some_inj h143
      exact DWP.done (by kernel_rfl) ⟨F2, hw77, (Mem.le.refl _), e16, e17, rfl⟩
    ·rintro f w78 ⟨F5, hs79, le80, e82, e83, e84⟩
     refine thenQ_nrm ?_
     refine CWP.cond (t := j81) (by kernel_rfl) e84 (fun hb144 => ?_) (fun hb144 => ?_)
     ·have h145 := cond_t h86 hb144
      refine Sq ?_
      obtain ⟨j151, hj157, h158⟩ := bind_some h145
      refine CWP.regionD (by kernel_rfl) (by kernel_rfl) (by kernel_rfl) (by kernel_rfl) (z := 10) (F := F5) (Lc := []) (Lz := []) (l := [false, false, false, false, false, false, false, false, false, false]) (fuel := 10) (by kernel_rfl) (by kernel_rfl) hs79 (by simp) (by simp) (fun f w => ∃ (F8 : Mem), HS w0 F0 w F8 [] ∧ Mem.le F5 F8 ∧ f.d = [] ∧ f 2 = (.string ⟨(j151.1).toArray⟩) ∧ f 3 = (.string ⟨(j151.2).toArray⟩) ∧ f 4 = (.string ⟨(([] : List UInt8)).toArray⟩) ∧ f 5 = (.bool true)) (fun wd146 hw147 => ?_) ?_
      ·refine Dt 0 50 80 _ (fun _ hq => mv 6 (.slice ar4_0_0 r4.length nr4_0_0) e83) ?_
       obtain ⟨x159, hx160, h162⟩ := bind_some hj157
       obtain ⟨hi161, hx160'⟩ := idx_spec hx160
       obtain ⟨b163, o164, C165, E166, fz167, rfl, hF169, hE170⟩ := SlA.open (SlA.mono hsr4_0_0 (le14.trans le80)) hx160'
       have hc172 := hE170 _ _ hx160'
       refine Dt 1 51 0 (.pointer (some ⟨b163, (o164 + (0 : Int).toNat * 1), none⟩)) (fun _ hq => run_index (t := 80) (x := (.tmp 50)) (y := (.const (vi 0))) (b := b163) (o := o164) (E := 9) (s := 1) (by_ := 16) rfl rfl (by kernel_rfl) hi161) ?_
       refine Dt 2 52 9 _ (fun _ hq => lx 9 51 0 1 false 1 (.string ⟨(x159).toArray⟩) (hq.1.1 _ _ hF169) hc172) ?_
       refine Dt 3 53 80 _ (fun _ hq => mv 6 (.slice (some ⟨b163, o164, none⟩) r4.length nr4_0_0) e83) ?_
       obtain ⟨x173, hx174, h176⟩ := bind_some h162
       obtain ⟨hi175, hx174'⟩ := idx_spec hx174
       have hc178 := hE170 _ _ hx174'
       refine Dt 4 54 0 (.pointer (some ⟨b163, (o164 + (1 : Int).toNat * 1), none⟩)) (fun _ hq => run_index (t := 80) (x := (.tmp 53)) (y := (.const (vi 1))) (b := b163) (o := o164) (E := 9) (s := 1) (by_ := 16) rfl rfl (by kernel_rfl) hi175) ?_
       refine Dt 5 55 9 _ (fun _ hq => lx 9 54 0 1 false 1 (.string ⟨(x173).toArray⟩) (hq.1.1 _ _ hF169) hc178) ?_
       refine Dt 6 2 9 _ (fun _ hq => ma 52 (.string ⟨(x159).toArray⟩)) ?_
       refine Dt 7 3 9 _ (fun _ hq => ma 55 (.string ⟨(x173).toArray⟩)) ?_
       refine Dt 8 4 9 _ (fun _ hq => mc (.string ⟨([] : List UInt8).toArray⟩) (.string ⟨(([] : List UInt8)).toArray⟩)) ?_
       refine Dt 9 5 4 _ (fun _ hq => mc (.bool true) (.bool true)) ?_
       obtain rfl := some_inj h176
       exact DWP.done (by kernel_rfl) ⟨F5, hw147, (Mem.le.refl _), e82, rfl, rfl, rfl, rfl⟩
      ·rintro f w148 ⟨F8, hs149, le150, e152, e153, e154, e155, e156⟩
       refine thenQ_nrm ?_
       refine CWP.ret (by kernel_rfl) ?_
       refine thenQ_ret ?_
       have hfin := some_inj h158
       subst hfin
       exact ⟨e152, (.tuple #[(.string ⟨(j151.1).toArray⟩), (.string ⟨(j151.2).toArray⟩), (.string ⟨(([] : List UInt8)).toArray⟩), (.bool true)]), res_of (l := [.tmp 2, .tmp 3, .tmp 4, .tmp 5]) (by kernel_rfl) (vs := [(.string ⟨(j151.1).toArray⟩), (.string ⟨(j151.2).toArray⟩), (.string ⟨(([] : List UInt8)).toArray⟩), (.bool true)]) ⟨e153, ⟨e154, ⟨e155, ⟨e156, trivial⟩⟩⟩⟩, (.tuple #[(.string ⟨(j151.1).toArray⟩), (.string ⟨(j151.2).toArray⟩), (.string ⟨(([] : List UInt8)).toArray⟩), (.bool true)]), F8, rfl, hs149.clear, rfl⟩
     ·have h179 := cond_f h86 hb144
      refine Sc ?_
      refine thenQ_nrm ?_
      refine Sq ?_
      refine Sq (Rg [0, 1, 2, 3, 4, 5, 6, 7, 8, 9, 10, 11, 12, 13, 14] ?_)
      obtain ⟨j183, hj187, h188⟩ := bind_some h179
      refine RWP.cut (fun f w => ∃ (F9 : Mem), HS w0 F0 w F9 [] ∧ Mem.le F5 F9 ∧ f.d = [] ∧ f 6 = (.slice ar4_0_0 r4.length nr4_0_0) ∧ f 70 = (.bool j183)) ?_ ?_
      ·refine V 56 80 (mv 6 (.slice ar4_0_0 r4.length nr4_0_0) e83) ?_
       refine V 57 3 (ln 56 80 ar4_0_0 r4.length nr4_0_0 9 1 16) ?_
       refine V 58 4 (run_eql (t := 3) (t' := 3) (x := (.tmp 57)) (y := (.const (vi 2))) (k := .i64) (a := (r4.length : Int)) (b := 2) rfl rfl) ?_
       refine V 59 4 (mv 58 (.bool ((r4.length : Int) == 2))) ?_
       refine RWP.split ((r4.length : Int) == 2) (fun hb189 => ?_) (fun hb189 => ?_)
       ·have h190 := cond_t hj187 hb189
        refine Vg 60 80 3 true 59 hb189 (mv 6 (.slice ar4_0_0 r4.length nr4_0_0) e83) ?_
        obtain ⟨x191, hx192, h194⟩ := bind_some h190
        obtain ⟨hi193, hx192'⟩ := idx_spec hx192
        obtain ⟨b195, o196, C197, E198, fz199, rfl, hF201, hE202⟩ := SlA.open (SlA.mono hsr4_0_0 (le14.trans le80)) hx192'
        have hc204 := hE202 _ _ hx192'
        refine Vg 61 0 3 true 59 hb189 (run_index (t := 80) (x := (.tmp 60)) (y := (.const (vi 0))) (b := b195) (o := o196) (E := 9) (s := 1) (by_ := 16) rfl rfl (by kernel_rfl) hi193) ?_
        refine Vg 62 9 3 true 59 hb189 (lx 9 61 0 1 false 1 (.string ⟨(x191).toArray⟩) (hs79.pers _ _ hF201) hc204) ?_
        obtain ⟨r205, hr206, h207⟩ := bind_some h194
        refine RWP.call (dst := (some 63)) (ty := 4) (g := (some (3, true))) (by kernel_rfl) (gd_y (d := 59) (by kernel_rfl) rfl hb189) (f0 := (.func 114)) (aos := #[(.tmp 62)]) (ats := #[9]) (fid := 114) (first := #[]) (cap := #[]) (args := [(.string ⟨(x191).toArray⟩)]) rfl co_ref01_base (rfl) hs79 (c_ref01_base N w78 F5 hs79.pers (x191) _ hr206) ?_
        intro v208 F10 w209 hs210 le211 hp212
        obtain rfl := hp212
        refine V 64 4 (p1 59 (.tmp 63) (.const (.bool false)) (.bool r205) hb189) ?_
        refine V 65 4 (mv 64 (.bool r205)) ?_
        refine RWP.split r205 (fun hb213 => ?_) (fun hb213 => ?_)
        ·have h214 := cond_t h207 hb213
         refine Vg 66 80 9 true 65 hb213 (mv 6 (.slice (some ⟨b195, o196, none⟩) r4.length nr4_0_0) e83) ?_
         obtain ⟨x215, hx216, h218⟩ := bind_some h214
         obtain ⟨hi217, hx216'⟩ := idx_spec hx216
         have hc220 := hE202 _ _ hx216'
         refine Vg 67 0 9 true 65 hb213 (run_index (t := 80) (x := (.tmp 66)) (y := (.const (vi 1))) (b := b195) (o := o196) (E := 9) (s := 1) (by_ := 16) rfl rfl (by kernel_rfl) hi217) ?_
         refine Vg 68 9 9 true 65 hb213 (lx 9 67 0 1 false 1 (.string ⟨(x215).toArray⟩) (hs210.pers _ _ (le211 _ _ hF201)) hc220) ?_
         obtain ⟨r221, hr222, h223⟩ := bind_some h218
         refine RWP.call (dst := (some 69)) (ty := 4) (g := (some (9, true))) (by kernel_rfl) (gd_y (d := 65) (by kernel_rfl) rfl hb213) (f0 := (.func 116)) (aos := #[(.tmp 68)]) (ats := #[9]) (fid := 116) (first := #[]) (cap := #[]) (args := [(.string ⟨(x215).toArray⟩)]) rfl co_ref01_stroke (rfl) hs210 (c_ref01_stroke N w209 F10 hs210.pers (x215) _ hr222) ?_
         intro v224 F11 w225 hs226 le227 hp228
         obtain rfl := hp228
         refine V 70 4 (p1 65 (.tmp 69) (.const (.bool false)) (.bool r221) hb213) ?_
         obtain rfl := some_inj h223
         exact RWP.nil ⟨rfl, F11, hs226, (le211.trans le227), e82, e83, rfl⟩
        ·have h229 := cond_f h207 hb213
         refine Sk [66, 67, 68, 69] 9 true 65 hb213 ?_
         refine V 70 4 (p0 65 (.tmp 69) (.const (.bool false)) (.bool false) hb213) ?_
         obtain rfl := some_inj h229
         exact RWP.nil ⟨rfl, F10, hs210, le211, e82, e83, rfl⟩
       ·have h230 := cond_f hj187 hb189
        refine Sk [60, 61, 62, 63] 3 true 59 hb189 ?_
        refine V 64 4 (p0 59 (.tmp 63) (.const (.bool false)) (.bool false) hb189) ?_
        refine V 65 4 (mv 64 (.bool false)) ?_
        refine Sk [66, 67, 68, 69] 9 true 65 rfl ?_
        refine V 70 4 (p0 65 (.tmp 69) (.const (.bool false)) (.bool false) rfl) ?_
        obtain rfl := some_inj h230
        exact RWP.nil ⟨rfl, F5, hs79, (Mem.le.refl _), e82, e83, rfl⟩
      ·rintro f w180 ⟨F9, hs181, le182, e184, e185, e186⟩
       refine thenQ_nrm ?_
       refine CWP.cond (t := j183) (by kernel_rfl) e186 (fun hb231 => ?_) (fun hb231 => ?_)
       ·have h232 := cond_t h188 hb231
        refine Sq ?_
        obtain ⟨j238, hj244, h245⟩ := bind_some h232
        refine CWP.regionD (by kernel_rfl) (by kernel_rfl) (by kernel_rfl) (by kernel_rfl) (z := 10) (F := F9) (Lc := []) (Lz := []) (l := [false, false, false, false, false, false, false, false, false, false]) (fuel := 10) (by kernel_rfl) (by kernel_rfl) hs181 (by simp) (by simp) (fun f w => ∃ (F12 : Mem), HS w0 F0 w F12 [] ∧ Mem.le F9 F12 ∧ f.d = [] ∧ f 2 = (.string ⟨(([] : List UInt8)).toArray⟩) ∧ f 3 = (.string ⟨(j238.1).toArray⟩) ∧ f 4 = (.string ⟨(j238.2).toArray⟩) ∧ f 5 = (.bool true)) (fun wd233 hw234 => ?_) ?_
        ·refine Dt 0 71 80 _ (fun _ hq => mv 6 (.slice ar4_0_0 r4.length nr4_0_0) e185) ?_
         obtain ⟨x246, hx247, h249⟩ := bind_some hj244
         obtain ⟨hi248, hx247'⟩ := idx_spec hx247
         obtain ⟨b250, o251, C252, E253, fz254, rfl, hF256, hE257⟩ := SlA.open (SlA.mono hsr4_0_0 ((le14.trans le80).trans le182)) hx247'
         have hc259 := hE257 _ _ hx247'
         refine Dt 1 72 0 (.pointer (some ⟨b250, (o251 + (0 : Int).toNat * 1), none⟩)) (fun _ hq => run_index (t := 80) (x := (.tmp 71)) (y := (.const (vi 0))) (b := b250) (o := o251) (E := 9) (s := 1) (by_ := 16) rfl rfl (by kernel_rfl) hi248) ?_
         refine Dt 2 73 9 _ (fun _ hq => lx 9 72 0 1 false 1 (.string ⟨(x246).toArray⟩) (hq.1.1 _ _ hF256) hc259) ?_
         refine Dt 3 74 80 _ (fun _ hq => mv 6 (.slice (some ⟨b250, o251, none⟩) r4.length nr4_0_0) e185) ?_
         obtain ⟨x260, hx261, h263⟩ := bind_some h249
         obtain ⟨hi262, hx261'⟩ := idx_spec hx261
         have hc265 := hE257 _ _ hx261'
         refine Dt 4 75 0 (.pointer (some ⟨b250, (o251 + (1 : Int).toNat * 1), none⟩)) (fun _ hq => run_index (t := 80) (x := (.tmp 74)) (y := (.const (vi 1))) (b := b250) (o := o251) (E := 9) (s := 1) (by_ := 16) rfl rfl (by kernel_rfl) hi262) ?_
         refine Dt 5 76 9 _ (fun _ hq => lx 9 75 0 1 false 1 (.string ⟨(x260).toArray⟩) (hq.1.1 _ _ hF256) hc265) ?_
         refine Dt 6 2 9 _ (fun _ hq => mc (.string ⟨([] : List UInt8).toArray⟩) (.string ⟨(([] : List UInt8)).toArray⟩)) ?_
         refine Dt 7 3 9 _ (fun _ hq => ma 73 (.string ⟨(x246).toArray⟩)) ?_
         refine Dt 8 4 9 _ (fun _ hq => ma 76 (.string ⟨(x260).toArray⟩)) ?_
         refine Dt 9 5 4 _ (fun _ hq => mc (.bool true) (.bool true)) ?_
         obtain rfl := some_inj h263
         exact DWP.done (by kernel_rfl) ⟨F9, hw234, (Mem.le.refl _), e184, rfl, rfl, rfl, rfl⟩
        ·rintro f w235 ⟨F12, hs236, le237, e239, e240, e241, e242, e243⟩
         refine thenQ_nrm ?_
         refine CWP.ret (by kernel_rfl) ?_
         refine thenQ_ret ?_
         have hfin := some_inj h245
         subst hfin
         exact ⟨e239, (.tuple #[(.string ⟨(([] : List UInt8)).toArray⟩), (.string ⟨(j238.1).toArray⟩), (.string ⟨(j238.2).toArray⟩), (.bool true)]), res_of (l := [.tmp 2, .tmp 3, .tmp 4, .tmp 5]) (by kernel_rfl) (vs := [(.string ⟨(([] : List UInt8)).toArray⟩), (.string ⟨(j238.1).toArray⟩), (.string ⟨(j238.2).toArray⟩), (.bool true)]) ⟨e240, ⟨e241, ⟨e242, ⟨e243, trivial⟩⟩⟩⟩, (.tuple #[(.string ⟨(([] : List UInt8)).toArray⟩), (.string ⟨(j238.1).toArray⟩), (.string ⟨(j238.2).toArray⟩), (.bool true)]), F12, rfl, hs236.clear, rfl⟩
       ·have h266 := cond_f h188 hb231
        refine Sc ?_
        refine thenQ_nrm ?_
        refine Sq ?_
        refine Sq (Rg [0, 1, 2, 3, 4, 5, 6, 7, 8, 9, 10, 11, 12, 13, 14, 15, 16, 17, 18, 19, 20] ?_)
        obtain ⟨j270, hj274, h275⟩ := bind_some h266
        refine RWP.cut (fun f w => ∃ (F13 : Mem), HS w0 F0 w F13 [] ∧ Mem.le F9 F13 ∧ f.d = [] ∧ f 6 = (.slice ar4_0_0 r4.length nr4_0_0) ∧ f 97 = (.bool j270)) ?_ ?_
        ·refine V 77 80 (mv 6 (.slice ar4_0_0 r4.length nr4_0_0) e185) ?_
         refine V 78 3 (ln 77 80 ar4_0_0 r4.length nr4_0_0 9 1 16) ?_
         refine V 79 4 (run_eql (t := 3) (t' := 3) (x := (.tmp 78)) (y := (.const (vi 3))) (k := .i64) (a := (r4.length : Int)) (b := 3) rfl rfl) ?_
         refine V 80 4 (mv 79 (.bool ((r4.length : Int) == 3))) ?_
         refine RWP.split ((r4.length : Int) == 3) (fun hb276 => ?_) (fun hb276 => ?_)
         ·have h277 := cond_t hj274 hb276
          refine Vg 81 80 3 true 80 hb276 (mv 6 (.slice ar4_0_0 r4.length nr4_0_0) e185) ?_
          obtain ⟨x278, hx279, h281⟩ := bind_some h277
          obtain ⟨hi280, hx279'⟩ := idx_spec hx279
          obtain ⟨b282, o283, C284, E285, fz286, rfl, hF288, hE289⟩ := SlA.open (SlA.mono hsr4_0_0 ((le14.trans le80).trans le182)) hx279'
          have hc291 := hE289 _ _ hx279'
          refine Vg 82 0 3 true 80 hb276 (run_index (t := 80) (x := (.tmp 81)) (y := (.const (vi 0))) (b := b282) (o := o283) (E := 9) (s := 1) (by_ := 16) rfl rfl (by kernel_rfl) hi280) ?_
          refine Vg 83 9 3 true 80 hb276 (lx 9 82 0 1 false 1 (.string ⟨(x278).toArray⟩) (hs181.pers _ _ hF288) hc291) ?_
          obtain ⟨r292, hr293, h294⟩ := bind_some h281
          refine RWP.call (dst := (some 84)) (ty := 4) (g := (some (3, true))) (by kernel_rfl) (gd_y (d := 80) (by kernel_rfl) rfl hb276) (f0 := (.func 115)) (aos := #[(.tmp 83)]) (ats := #[9]) (fid := 115) (first := #[]) (cap := #[]) (args := [(.string ⟨(x278).toArray⟩)]) rfl co_ref01_area (rfl) hs181 (c_ref01_area N w180 F9 hs181.pers (x278) _ hr293) ?_
          intro v295 F14 w296 hs297 le298 hp299
          obtain rfl := hp299
          refine V 85 4 (p1 80 (.tmp 84) (.const (.bool false)) (.bool r292) hb276) ?_
          refine V 86 4 (mv 85 (.bool r292)) ?_
          refine RWP.split r292 (fun hb300 => ?_) (fun hb300 => ?_)
          ·have h301 := cond_t h294 hb300
           refine Vg 87 80 9 true 86 hb300 (mv 6 (.slice (some ⟨b282, o283, none⟩) r4.length nr4_0_0) e185) ?_
           obtain ⟨x302, hx303, h305⟩ := bind_some h301
           obtain ⟨hi304, hx303'⟩ := idx_spec hx303
           have hc307 := hE289 _ _ hx303'
           refine Vg 88 0 9 true 86 hb300 (run_index (t := 80) (x := (.tmp 87)) (y := (.const (vi 1))) (b := b282) (o := o283) (E := 9) (s := 1) (by_ := 16) rfl rfl (by kernel_rfl) hi304) ?_
           refine Vg 89 9 9 true 86 hb300 (lx 9 88 0 1 false 1 (.string ⟨(x302).toArray⟩) (hs297.pers _ _ (le298 _ _ hF288)) hc307) ?_
           obtain ⟨r308, hr309, h310⟩ := bind_some h305
           refine RWP.call (dst := (some 90)) (ty := 4) (g := (some (9, true))) (by kernel_rfl) (gd_y (d := 86) (by kernel_rfl) rfl hb300) (f0 := (.func 114)) (aos := #[(.tmp 89)]) (ats := #[9]) (fid := 114) (first := #[]) (cap := #[]) (args := [(.string ⟨(x302).toArray⟩)]) rfl co_ref01_base (rfl) hs297 (c_ref01_base N w296 F14 hs297.pers (x302) _ hr309) ?_
           intro v311 F15 w312 hs313 le314 hp315
           obtain rfl := hp315
           refine V 91 4 (p1 86 (.tmp 90) (.const (.bool false)) (.bool r308) hb300) ?_
           refine V 92 4 (mv 91 (.bool r308)) ?_
           refine RWP.split r308 (fun hb316 => ?_) (fun hb316 => ?_)
           ·have h317 := cond_t h310 hb316
            refine Vg 93 80 15 true 92 hb316 (mv 6 (.slice (some ⟨b282, o283, none⟩) r4.length nr4_0_0) e185) ?_
            obtain ⟨x318, hx319, h321⟩ := bind_some h317
            obtain ⟨hi320, hx319'⟩ := idx_spec hx319
            have hc323 := hE289 _ _ hx319'
            refine Vg 94 0 15 true 92 hb316 (run_index (t := 80) (x := (.tmp 93)) (y := (.const (vi 2))) (b := b282) (o := o283) (E := 9) (s := 1) (by_ := 16) rfl rfl (by kernel_rfl) hi320) ?_
            refine Vg 95 9 15 true 92 hb316 (lx 9 94 0 1 false 1 (.string ⟨(x318).toArray⟩) (hs313.pers _ _ ((le298.trans le314) _ _ hF288)) hc323) ?_
            obtain ⟨r324, hr325, h326⟩ := bind_some h321
            refine RWP.call (dst := (some 96)) (ty := 4) (g := (some (15, true))) (by kernel_rfl) (gd_y (d := 92) (by kernel_rfl) rfl hb316) (f0 := (.func 116)) (aos := #[(.tmp 95)]) (ats := #[9]) (fid := 116) (first := #[]) (cap := #[]) (args := [(.string ⟨(x318).toArray⟩)]) rfl co_ref01_stroke (rfl) hs313 (c_ref01_stroke N w312 F15 hs313.pers (x318) _ hr325) ?_
            intro v327 F16 w328 hs329 le330 hp331
            obtain rfl := hp331
            refine V 97 4 (p1 92 (.tmp 96) (.const (.bool false)) (.bool r324) hb316) ?_
            obtain rfl := some_inj h326
            exact RWP.nil ⟨rfl, F16, hs329, ((le298.trans le314).trans le330), e184, e185, rfl⟩
           ·have h332 := cond_f h310 hb316
            refine Sk [93, 94, 95, 96] 15 true 92 hb316 ?_
            refine V 97 4 (p0 92 (.tmp 96) (.const (.bool false)) (.bool false) hb316) ?_
            obtain rfl := some_inj h332
            exact RWP.nil ⟨rfl, F15, hs313, (le298.trans le314), e184, e185, rfl⟩
          ·have h333 := cond_f h294 hb300
           refine Sk [87, 88, 89, 90] 9 true 86 hb300 ?_
           refine V 91 4 (p0 86 (.tmp 90) (.const (.bool false)) (.bool false) hb300) ?_
           refine V 92 4 (mv 91 (.bool false)) ?_
           refine Sk [93, 94, 95, 96] 15 true 92 rfl ?_
           refine V 97 4 (p0 92 (.tmp 96) (.const (.bool false)) (.bool false) rfl) ?_
           obtain rfl := some_inj h333
           exact RWP.nil ⟨rfl, F14, hs297, le298, e184, e185, rfl⟩
         ·have h334 := cond_f hj274 hb276
          refine Sk [81, 82, 83, 84] 3 true 80 hb276 ?_
          refine V 85 4 (p0 80 (.tmp 84) (.const (.bool false)) (.bool false) hb276) ?_
          refine V 86 4 (mv 85 (.bool false)) ?_
          refine Sk [87, 88, 89, 90] 9 true 86 rfl ?_
          refine V 91 4 (p0 86 (.tmp 90) (.const (.bool false)) (.bool false) rfl) ?_
          refine V 92 4 (mv 91 (.bool false)) ?_
          refine Sk [93, 94, 95, 96] 15 true 92 rfl ?_
          refine V 97 4 (p0 92 (.tmp 96) (.const (.bool false)) (.bool false) rfl) ?_
          obtain rfl := some_inj h334
          exact RWP.nil ⟨rfl, F9, hs181, (Mem.le.refl _), e184, e185, rfl⟩
        ·rintro f w267 ⟨F13, hs268, le269, e271, e272, e273⟩
         refine thenQ_nrm ?_
         refine CWP.cond (t := j270) (by kernel_rfl) e273 (fun hb335 => ?_) (fun hb335 => ?_)
         ·have h336 := cond_t h275 hb335
          refine Sq ?_
          obtain ⟨j342, hj348, h349⟩ := bind_some h336
          refine CWP.regionD (by kernel_rfl) (by kernel_rfl) (by kernel_rfl) (by kernel_rfl) (z := 13) (F := F13) (Lc := []) (Lz := []) (l := [false, false, false, false, false, false, false, false, false, false, false, false, false]) (fuel := 13) (by kernel_rfl) (by kernel_rfl) hs268 (by simp) (by simp) (fun f w => ∃ (F17 : Mem), HS w0 F0 w F17 [] ∧ Mem.le F13 F17 ∧ f.d = [] ∧ f 2 = (.string ⟨(j342.1).toArray⟩) ∧ f 3 = (.string ⟨(j342.2.1).toArray⟩) ∧ f 4 = (.string ⟨(j342.2.2).toArray⟩) ∧ f 5 = (.bool true)) (fun wd337 hw338 => ?_) ?_
          ·refine Dt 0 98 80 _ (fun _ hq => mv 6 (.slice ar4_0_0 r4.length nr4_0_0) e272) ?_
           obtain ⟨x350, hx351, h353⟩ := bind_some hj348
           obtain ⟨hi352, hx351'⟩ := idx_spec hx351
           obtain ⟨b354, o355, C356, E357, fz358, rfl, hF360, hE361⟩ := SlA.open (SlA.mono hsr4_0_0 (((le14.trans le80).trans le182).trans le269)) hx351'
           have hc363 := hE361 _ _ hx351'
           refine Dt 1 99 0 (.pointer (some ⟨b354, (o355 + (0 : Int).toNat * 1), none⟩)) (fun _ hq => run_index (t := 80) (x := (.tmp 98)) (y := (.const (vi 0))) (b := b354) (o := o355) (E := 9) (s := 1) (by_ := 16) rfl rfl (by kernel_rfl) hi352) ?_
           refine Dt 2 100 9 _ (fun _ hq => lx 9 99 0 1 false 1 (.string ⟨(x350).toArray⟩) (hq.1.1 _ _ hF360) hc363) ?_
           refine Dt 3 101 80 _ (fun _ hq => mv 6 (.slice (some ⟨b354, o355, none⟩) r4.length nr4_0_0) e272) ?_
           obtain ⟨x364, hx365, h367⟩ := bind_some h353
           obtain ⟨hi366, hx365'⟩ := idx_spec hx365
           have hc369 := hE361 _ _ hx365'
           refine Dt 4 102 0 (.pointer (some ⟨b354, (o355 + (1 : Int).toNat * 1), none⟩)) (fun _ hq => run_index (t := 80) (x := (.tmp 101)) (y := (.const (vi 1))) (b := b354) (o := o355) (E := 9) (s := 1) (by_ := 16) rfl rfl (by kernel_rfl) hi366) ?_
           refine Dt 5 103 9 _ (fun _ hq => lx 9 102 0 1 false 1 (.string ⟨(x364).toArray⟩) (hq.1.1 _ _ hF360) hc369) ?_
           refine Dt 6 104 80 _ (fun _ hq => mv 6 (.slice (some ⟨b354, o355, none⟩) r4.length nr4_0_0) e272) ?_
           obtain ⟨x370, hx371, h373⟩ := bind_some h367
           obtain ⟨hi372, hx371'⟩ := idx_spec hx371
           have hc375 := hE361 _ _ hx371'
           refine Dt 7 105 0 (.pointer (some ⟨b354, (o355 + (2 : Int).toNat * 1), none⟩)) (fun _ hq => run_index (t := 80) (x := (.tmp 104)) (y := (.const (vi 2))) (b := b354) (o := o355) (E := 9) (s := 1) (by_ := 16) rfl rfl (by kernel_rfl) hi372) ?_
           refine Dt 8 106 9 _ (fun _ hq => lx 9 105 0 1 false 1 (.string ⟨(x370).toArray⟩) (hq.1.1 _ _ hF360) hc375) ?_
           refine Dt 9 2 9 _ (fun _ hq => ma 100 (.string ⟨(x350).toArray⟩)) ?_
           refine Dt 10 3 9 _ (fun _ hq => ma 103 (.string ⟨(x364).toArray⟩)) ?_
           refine Dt 11 4 9 _ (fun _ hq => ma 106 (.string ⟨(x370).toArray⟩)) ?_
           refine Dt 12 5 4 _ (fun _ hq => mc (.bool true) (.bool true)) ?_
           obtain rfl := some_inj h373
           exact DWP.done (by kernel_rfl) ⟨F13, hw338, (Mem.le.refl _), e271, rfl, rfl, rfl, rfl⟩
          ·rintro f w339 ⟨F17, hs340, le341, e343, e344, e345, e346, e347⟩
           refine thenQ_nrm ?_
           refine CWP.ret (by kernel_rfl) ?_
           refine thenQ_ret ?_
           have hfin := some_inj h349
           subst hfin
           exact ⟨e343, (.tuple #[(.string ⟨(j342.1).toArray⟩), (.string ⟨(j342.2.1).toArray⟩), (.string ⟨(j342.2.2).toArray⟩), (.bool true)]), res_of (l := [.tmp 2, .tmp 3, .tmp 4, .tmp 5]) (by kernel_rfl) (vs := [(.string ⟨(j342.1).toArray⟩), (.string ⟨(j342.2.1).toArray⟩), (.string ⟨(j342.2.2).toArray⟩), (.bool true)]) ⟨e344, ⟨e345, ⟨e346, ⟨e347, trivial⟩⟩⟩⟩, (.tuple #[(.string ⟨(j342.1).toArray⟩), (.string ⟨(j342.2.1).toArray⟩), (.string ⟨(j342.2.2).toArray⟩), (.bool true)]), F17, rfl, hs340.clear, rfl⟩
         ·have h376 := cond_f h275 hb335
          refine Sc ?_
          refine thenQ_nrm ?_
          refine Sq (Rg [0, 1, 2, 3] ?_)
          refine V 2 9 (mc (.string ⟨([] : List UInt8).toArray⟩) (.string ⟨(([] : List UInt8)).toArray⟩)) ?_
          refine V 3 9 (mc (.string ⟨([] : List UInt8).toArray⟩) (.string ⟨(([] : List UInt8)).toArray⟩)) ?_
          refine V 4 9 (mc (.string ⟨([] : List UInt8).toArray⟩) (.string ⟨(([] : List UInt8)).toArray⟩)) ?_
          refine V 5 4 (mc (.bool false) (.bool false)) ?_
          refine Nt ?_
          refine CWP.ret (by kernel_rfl) ?_
          have hfin := some_inj h376
          subst hfin
          exact ⟨e271, (.tuple #[(.string ⟨(([] : List UInt8)).toArray⟩), (.string ⟨(([] : List UInt8)).toArray⟩), (.string ⟨(([] : List UInt8)).toArray⟩), (.bool false)]), res_of (l := [.tmp 2, .tmp 3, .tmp 4, .tmp 5]) (by kernel_rfl) (vs := [(.string ⟨(([] : List UInt8)).toArray⟩), (.string ⟨(([] : List UInt8)).toArray⟩), (.string ⟨(([] : List UInt8)).toArray⟩), (.bool false)]) ⟨rfl, ⟨rfl, ⟨rfl, ⟨rfl, trivial⟩⟩⟩⟩, (.tuple #[(.string ⟨(([] : List UInt8)).toArray⟩), (.string ⟨(([] : List UInt8)).toArray⟩), (.string ⟨(([] : List UInt8)).toArray⟩), (.bool false)]), F13, rfl, hs268.clear, rfl⟩
end Go.Proofs.YtlddakefmfcblaaGreatDoor
namespace Go.Proofs.YtlddakefmfcblaaGreatDoor
open Go.Proofs
end Go.Proofs.YtlddakefmfcblaaGreatDoor
namespace Go.Proofs.YtlddakefmfcblaaGreatDoor
open Go.Proofs
end Go.Proofs.YtlddakefmfcblaaGreatDoor
namespace Go.Proofs.YtlddakefmfcblaaGreatDoor
open Go.Proofs
end Go.Proofs.YtlddakefmfcblaaGreatDoor
namespace Go.Proofs.YtlddakefmfcblaaGreatDoor
open Go.Proofs
def air_ValidCall (N : Nat) (x0 : (List UInt8)) : Option Bool :=
 ((air_split N x0).bind fun r1 => some r1.2)
theorem co_air_ValidCall : CallOk Tryz.prog 37 := fun _ _ => by kernel_rfl
set_option maxHeartbeats 4000000 in
set_option maxRecDepth 100000 in
theorem c_air_ValidCall (N : Nat) (w0 : World) (F0 : Mem) (hF : ∀ b o, F0 b = some o → w0.heap[b]? = some o) (hG : Glob F0) (x0 : (List UInt8)) (r : Bool) (h : air_ValidCall N x0 = some r) :
  Calls Tryz.prog 37 ([(.string ⟨(x0).toArray⟩)] : List Value).toArray w0 (FRet w0 F0 fun F' v => v = (.bool r)) := by
 have hs0 := HS.start hF
 refine calls_of (n := 11) (c := bodyOf Tryz.f37) Tryz.func37 (by kernel_rfl) (by kernel_rfl) (by kernel_rfl) ?_
 refine Sq (Rg [0] ?_)
 refine V 2 4 (mc (.bool false) (.bool false)) ?_
 refine Nss (Rg [0, 1, 2, 3, 4, 5, 6, 7] ?_)
 refine V 6 9 (mv 0 (.string ⟨(x0).toArray⟩)) ?_
 obtain ⟨r1, hr2, h3⟩ := bind_some h
 refine Cl 7 86 66 #[(.tmp 6)] #[9] co_air_split hs0 (c_air_split N w0 F0 hs0.pers hG (x0) _ hr2) ?_
 intro v4 F1 w5 hs6 le7 hp8
 obtain rfl := hp8
 refine V 5 86 (mv 7 (.tuple #[(.agg #[(.string ⟨(r1.1.Area).toArray⟩), (.string ⟨(r1.1.Prefix).toArray⟩), (.string ⟨(r1.1.Suffix).toArray⟩), (.string ⟨(r1.1.Stroke).toArray⟩)]), (.bool r1.2)])) ?_
 refine V 8 27 (ex 5 0 (.agg #[(.string ⟨(r1.1.Area).toArray⟩), (.string ⟨(r1.1.Prefix).toArray⟩), (.string ⟨(r1.1.Suffix).toArray⟩), (.string ⟨(r1.1.Stroke).toArray⟩)]) (vs := #[(.agg #[(.string ⟨(r1.1.Area).toArray⟩), (.string ⟨(r1.1.Prefix).toArray⟩), (.string ⟨(r1.1.Suffix).toArray⟩), (.string ⟨(r1.1.Stroke).toArray⟩)]), (.bool r1.2)])) ?_
 refine V 9 4 (ex 5 1 (.bool r1.2) (vs := #[(.agg #[(.string ⟨(r1.1.Area).toArray⟩), (.string ⟨(r1.1.Prefix).toArray⟩), (.string ⟨(r1.1.Suffix).toArray⟩), (.string ⟨(r1.1.Stroke).toArray⟩)]), (.bool r1.2)])) ?_
 refine Al 3 0 27 #[(.string ⟨(([] : List UInt8)).toArray⟩), (.string ⟨(([] : List UInt8)).toArray⟩), (.string ⟨(([] : List UInt8)).toArray⟩), (.string ⟨(([] : List UInt8)).toArray⟩)] hs6 (fun b9 w10 (hs11 : HS w0 F0 w10 F1 [(sb b9 #[(.string ⟨(([] : List UInt8)).toArray⟩), (.string ⟨(([] : List UInt8)).toArray⟩), (.string ⟨(([] : List UInt8)).toArray⟩), (.string ⟨(([] : List UInt8)).toArray⟩)] 27)]) => ?_)
 refine RWP.store (ty := 0) (g := none) (by kernel_rfl) rfl (x := (.tmp 3)) (y := (.tmp 8)) (t := 27) (gg := true) (s := 4) (v := (.agg #[(.string ⟨(r1.1.Area).toArray⟩), (.string ⟨(r1.1.Prefix).toArray⟩), (.string ⟨(r1.1.Suffix).toArray⟩), (.string ⟨(r1.1.Stroke).toArray⟩)])) (b := b9) (o := 0) (C := #[(.string ⟨(([] : List UInt8)).toArray⟩), (.string ⟨(([] : List UInt8)).toArray⟩), (.string ⟨(([] : List UInt8)).toArray⟩), (.string ⟨(([] : List UInt8)).toArray⟩)]) rfl rfl (by kernel_rfl) hs11 (k := 0) rfl rfl rfl rfl (C' := #[(.string ⟨(r1.1.Area).toArray⟩), (.string ⟨(r1.1.Prefix).toArray⟩), (.string ⟨(r1.1.Suffix).toArray⟩), (.string ⟨(r1.1.Stroke).toArray⟩)]) rfl (fun w12 (hs13 : HS w0 F0 w12 F1 [(sb b9 #[(.string ⟨(r1.1.Area).toArray⟩), (.string ⟨(r1.1.Prefix).toArray⟩), (.string ⟨(r1.1.Suffix).toArray⟩), (.string ⟨(r1.1.Stroke).toArray⟩)] 27)]) => ?_)
 refine V 4 4 (ma 9 (.bool r1.2)) ?_
 refine Nss (Rg [0, 1] ?_)
 refine V 10 4 (mv 4 (.bool r1.2)) ?_
 refine V 2 4 (ma 10 (.bool r1.2)) ?_
 refine Nt ?_
 refine CWP.ret (by kernel_rfl) ?_
 have hfin := some_inj h3
 subst hfin
 exact ⟨rfl, (.bool r1.2), res_of (l := [.tmp 2]) (by kernel_rfl) (vs := [(.bool r1.2)]) ⟨rfl, trivial⟩, (.bool r1.2), F1, rfl, hs13.clear, rfl⟩
end Go.Proofs.YtlddakefmfcblaaGreatDoor
namespace Go.Proofs.YtlddakefmfcblaaGreatDoor
open Go.Proofs
def ref01_ValidCall (N : Nat) (x0 : (List UInt8)) : Option Bool :=
 ((ref01_parts N x0).bind fun r1 => some r1.2.2.2)
theorem co_ref01_ValidCall : CallOk Tryz.prog 38 := fun _ _ => by kernel_rfl
set_option maxHeartbeats 4000000 in
set_option maxRecDepth 100000 in
theorem c_ref01_ValidCall (N : Nat) (w0 : World) (F0 : Mem) (hF : ∀ b o, F0 b = some o → w0.heap[b]? = some o) (x0 : (List UInt8)) (r : Bool) (h : ref01_ValidCall N x0 = some r) :
  Calls Tryz.prog 38 ([(.string ⟨(x0).toArray⟩)] : List Value).toArray w0 (FRet w0 F0 fun F' v => v = (.bool r)) := by
 have hs0 := HS.start hF
 refine calls_of (n := 15) (c := bodyOf Tryz.f38) Tryz.func38 (by kernel_rfl) (by kernel_rfl) (by kernel_rfl) ?_
 refine Sq (Rg [0] ?_)
 refine V 2 4 (mc (.bool false) (.bool false)) ?_
 refine Nss (Rg [0, 1, 2, 3, 4, 5, 6, 7, 8, 9, 10] ?_)
 refine V 8 9 (mv 0 (.string ⟨(x0).toArray⟩)) ?_
 obtain ⟨r1, hr2, h3⟩ := bind_some h
 refine Cl 9 100 81 #[(.tmp 8)] #[9] co_ref01_parts hs0 (c_ref01_parts N w0 F0 hs0.pers (x0) _ hr2) ?_
 intro v4 F1 w5 hs6 le7 hp8
 obtain rfl := hp8
 refine V 7 100 (mv 9 (.tuple #[(.string ⟨(r1.1).toArray⟩), (.string ⟨(r1.2.1).toArray⟩), (.string ⟨(r1.2.2.1).toArray⟩), (.bool r1.2.2.2)])) ?_
 refine V 10 9 (ex 7 0 (.string ⟨(r1.1).toArray⟩) (vs := #[(.string ⟨(r1.1).toArray⟩), (.string ⟨(r1.2.1).toArray⟩), (.string ⟨(r1.2.2.1).toArray⟩), (.bool r1.2.2.2)])) ?_
 refine V 11 9 (ex 7 1 (.string ⟨(r1.2.1).toArray⟩) (vs := #[(.string ⟨(r1.1).toArray⟩), (.string ⟨(r1.2.1).toArray⟩), (.string ⟨(r1.2.2.1).toArray⟩), (.bool r1.2.2.2)])) ?_
 refine V 12 9 (ex 7 2 (.string ⟨(r1.2.2.1).toArray⟩) (vs := #[(.string ⟨(r1.1).toArray⟩), (.string ⟨(r1.2.1).toArray⟩), (.string ⟨(r1.2.2.1).toArray⟩), (.bool r1.2.2.2)])) ?_
 refine V 13 4 (ex 7 3 (.bool r1.2.2.2) (vs := #[(.string ⟨(r1.1).toArray⟩), (.string ⟨(r1.2.1).toArray⟩), (.string ⟨(r1.2.2.1).toArray⟩), (.bool r1.2.2.2)])) ?_
 refine V 3 9 (ma 10 (.string ⟨(r1.1).toArray⟩)) ?_
 refine V 4 9 (ma 11 (.string ⟨(r1.2.1).toArray⟩)) ?_
 refine V 5 9 (ma 12 (.string ⟨(r1.2.2.1).toArray⟩)) ?_
 refine V 6 4 (ma 13 (.bool r1.2.2.2)) ?_
 refine Nss (Rg [0, 1] ?_)
 refine V 14 4 (mv 6 (.bool r1.2.2.2)) ?_
 refine V 2 4 (ma 14 (.bool r1.2.2.2)) ?_
 refine Nt ?_
 refine CWP.ret (by kernel_rfl) ?_
 have hfin := some_inj h3
 subst hfin
 exact ⟨rfl, (.bool r1.2.2.2), res_of (l := [.tmp 2]) (by kernel_rfl) (vs := [(.bool r1.2.2.2)]) ⟨rfl, trivial⟩, (.bool r1.2.2.2), F1, rfl, hs6.clear, rfl⟩
end Go.Proofs.YtlddakefmfcblaaGreatDoor
namespace Go.Proofs.YtlddakefmfcblaaGreatDoor
open Go.Proofs
end Go.Proofs.YtlddakefmfcblaaGreatDoor
namespace Go.Proofs.YtlddakefmfcblaaGreatDoor
open Go.Proofs
end Go.Proofs.YtlddakefmfcblaaGreatDoor
namespace Go.Proofs.YtlddakefmfcblaaGreatDoor
open Go.Proofs
end Go.Proofs.YtlddakefmfcblaaGreatDoor
namespace Go.Proofs.YtlddakefmfcblaaGreatDoor
open Go.Proofs
end Go.Proofs.YtlddakefmfcblaaGreatDoor
namespace Go.Proofs.YtlddakefmfcblaaGreatDoor
open Go.Proofs
end Go.Proofs.YtlddakefmfcblaaGreatDoor
namespace Go.Proofs.YtlddakefmfcblaaGreatDoor
theorem iter_allL {α ρ τ : Type} {body : Int → Option (Flow ρ Int)} {l : List α} (ok : α → Bool) (bad : ρ) (hb : ∀ i (h : i < l.length), body (i : Int) = some (bif ok l[i] then .next ((i + 1 : Nat) : Int) else .ret bad))
  (he : body (l.length : Int) = some (.done (l.length : Int))) {N : Nat} (hN : l.length < N) (fd : Int → Option τ) (fr : ρ → Option τ) : ((iter body N 0).bind fun o => o.k fr fd) = bif l.all ok then fd l.length else fr bad := by
 obtain ⟨o, ho, hR⟩ := iter_ex (body := body) l.length (fun i s => s = (i : Int) ∧ (l.take i).all ok = true) (fun o => (l.all ok = true ∧ o = .done (l.length : Int)) ∨ (l.all ok = false ∧ o = .ret bad)) (by
  rintro i s hi ⟨rfl, hk⟩
  by_cases h : i < l.length
  ·rw [hb i h]
   cases e : ok l[i] with
   | true => exact .inl ⟨_, rfl, ⟨rfl, by rw [List.take_add_one, List.getElem?_eq_getElem h, List.all_append, hk]; simp [e]⟩, h⟩
   | false => exact .inr ⟨_, rfl, (fun _ h => by cases h), .inr ⟨by rw [List.all_eq_false]; exact ⟨l[i], List.getElem_mem h, by rw [e]; simp⟩, rfl⟩⟩
  ·have : i = l.length := by omega
   subst this
   rw [he]
   exact .inr ⟨_, rfl, (fun _ h => by cases h), .inl ⟨by simpa using hk, rfl⟩⟩) l.length N 0 0 (by omega) ⟨rfl, rfl⟩ hN
 rw [ho]
 rcases hR with ⟨h1, rfl⟩ | ⟨h1, rfl⟩ <;> rw [h1] <;> rfl
section
variable {N : Nat} {s : List UInt8}
theorem lt_dec {i n : Nat} (h : i < n) : decide ((i : Int) < (n : Int)) = true := decide_eq_true (by omega)
theorem lt_dec' {n : Nat} : decide ((n : Int) < (n : Int)) = false := decide_eq_false (by omega)
theorem m_mixed (hs : s.length < 4611686018427387904) (hN : s.length < N) : ref01_mixed N s = some (s.all isE) := by
 have hb : ∀ i (h : i < s.length), ref01_mixed_L0 N s (i : Int) = some (bif isE s[i] then .next ((i + 1 : Nat) : Int) else .ret false) := fun i h => by
  unfold ref01_mixed_L0
  rw [lt_dec h, cond_true, sidx_nat h, Option.bind_some, m_rletter, Option.bind_some, w64s i (by omega), Option.bind_some, m_rdigit]
  unfold isE
  cases isL s[i] <;> cases isD s[i] <;> rfl
 have he : ref01_mixed_L0 N s (s.length : Int) = some (.done (s.length : Int)) := by
  unfold ref01_mixed_L0
  rw [lt_dec', cond_false]
 unfold ref01_mixed
 rw [iter_allL (l := s) isE false hb he hN]
 cases s.all isE <;> rfl
theorem all_not : ∀ s : List UInt8, s.all (fun b => !isL b) = !s.any isL
 | [] => rfl
 | b :: s => by rw [List.all_cons, List.any_cons, all_not s]; cases isL b <;> rfl
theorem m_lettered (hs : s.length < 4611686018427387904) (hN : s.length < N) : ref01_lettered N s = some (s.any isL) := by
 have hb : ∀ i (h : i < s.length), ref01_lettered_L0 N s (i : Int) = some (bif (!isL s[i]) then .next ((i + 1 : Nat) : Int) else .ret true) := fun i h => by
  unfold ref01_lettered_L0
  rw [lt_dec h, cond_true, sidx_nat h, Option.bind_some, m_rletter, Option.bind_some, w64s i (by omega)]
  cases isL s[i] <;> rfl
 have he : ref01_lettered_L0 N s (s.length : Int) = some (.done (s.length : Int)) := by
  unfold ref01_lettered_L0
  rw [lt_dec', cond_false]
 unfold ref01_lettered
 rw [iter_allL (l := s) (fun b => !isL b) true hb he hN]
 rw [all_not]
 cases s.any isL <;> rfl
theorem m_cut (hs : s.length < 4611686018427387904) (hN : s.length < N) : ref01_cut N s = some (cutK s : Int) := by
 obtain ⟨o, ho, rfl⟩ := iter_ex (body := ref01_cut_L0 N s) s.length (fun i st => st = ((cutK (s.take i) : Int), (i : Int))) (fun o => o = .done ((cutK s : Int), (s.length : Int))) (by
  rintro i st hi rfl
  unfold ref01_cut_L0
  simp only
  by_cases h : i < s.length
  ·rw [lt_dec h, cond_true, sidx_nat h, Option.bind_some, m_rdigit, Option.bind_some, w64s i (by omega)]
   refine .inl ⟨_, rfl, ?_, h⟩
   rw [List.take_add_one, List.getElem?_eq_getElem h]
   show _ = (((cutK (s.take i ++ [s[i]]) : Nat) : Int), _)
   rw [cutK_snoc, List.length_take, Nat.min_eq_left (by omega)]
   cases isD s[i] <;> rfl
  ·have : i = s.length := by omega
   subst this
   rw [lt_dec', cond_false, List.take_length]
   exact .inr ⟨_, rfl, (fun _ e => by cases e), rfl⟩) s.length N 0 (0, 0) (by omega) rfl hN
 unfold ref01_cut
 rw [ho]
 rfl
def wiB (n lo hi : Nat) : Bool := decide (lo ≤ n) && decide (n ≤ hi)
def areaB (s : List UInt8) : Bool := s.all isE && wiB s.length 1 4 && s.any isL
def baseB (s : List UInt8) : Bool := s.all isE && wiB (cutK s) 1 4 && (s.take (cutK s)).any isL && wiB (s.length - cutK s) 1 4
def strokeB (s : List UInt8) : Bool := (s.all isL && wiB s.length 1 4) || (s.all isD && wiB s.length 1 1)
theorem within_nat (n lo hi : Nat) : (decide (((lo : Nat) : Int) ≤ (n : Int)) && decide ((n : Int) ≤ ((hi : Nat) : Int))) = wiB n lo hi := by
 unfold wiB
 congr 1 <;> (rw [decide_eq_decide]; omega)
theorem w14 (n : Nat) : (decide ((1 : Int) ≤ (n : Int)) && decide ((n : Int) ≤ (4 : Int))) = wiB n 1 4 := within_nat n 1 4
theorem w11 (n : Nat) : (decide ((1 : Int) ≤ (n : Int)) && decide ((n : Int) ≤ (1 : Int))) = wiB n 1 1 := within_nat n 1 1
theorem m_area (hs : s.length < 4611686018427387904) (hN : s.length < N) : air_area N s = some (areaB s) := by
 unfold air_area areaB
 rw [only_spec (predE N) s 4 hN, Option.bind_some, w14]
 cases h : (s.all isE && wiB s.length 1 4) with
 | false => rfl
 | true =>
  rw [Bool.and_eq_true] at h
  obtain ⟨r, h1, h2⟩ := idx_spec' (N := N) (predL N) s (fun b hb => isE_asc (List.all_eq_true.1 h.1 b hb))
  rw [cond_true, h1, Option.bind_some, h2]
  rfl
theorem m_rarea (hs : s.length < 4611686018427387904) (hN : s.length < N) : ref01_area N s = some (areaB s) := by
 unfold ref01_area areaB
 rw [m_mixed hs hN, Option.bind_some, m_lettered hs hN, m_rwithin, w14]
 cases s.all isE <;> cases wiB s.length 1 4 <;> rfl
theorem m_stroke (hs : s.length < 4611686018427387904) (hN : s.length < N) : air_stroke N s = some (strokeB s) := by
 unfold air_stroke strokeB
 rw [only_spec (predL N) s 4 hN, only_spec (predD N) s 1 hN, w14, w11]
 cases s.all isL && wiB s.length 1 4 <;> rfl
theorem cutK_zero : ∀ {s : List UInt8}, cutK s = 0 ↔ s.any isD = false := by
 intro s
 constructor
 ·intro h
  have := cutK_rest s
  rw [h, List.drop_zero] at this
  rw [List.any_eq_false]
  intro b hb
  rw [this b hb]; simp
 ·intro h
  rcases Nat.eq_zero_or_pos (cutK s) with h0 | h0
  ·exact h0
  ·obtain ⟨b, h1, h2⟩ := cutK_at s h0
   rw [List.any_eq_false] at h
   exact absurd h2 (h b (List.mem_of_getElem? h1))
theorem allL_iff (s : List UInt8) : s.all isL = (s.all isE && !s.any isD) := by
 induction s with
 | nil => rfl
 | cons b s ih =>
  simp only [List.all_cons, List.any_cons, ih, isE]
  cases hL : isL b with
  | true => rw [isLD hL]; simp
  | false => cases isD b <;> cases s.all isE <;> cases s.any isD <;> rfl
theorem m_rstroke (hs : s.length < 4611686018427387904) (hN : s.length < N) : ref01_stroke N s = some (strokeB s) := by
 unfold ref01_stroke strokeB
 rw [m_mixed hs hN, m_rwithin, w14, m_cut hs hN, allL_iff]
 have hz : ((cutK s : Int) == 0) = !s.any isD := by
  rw [Bool.eq_iff_iff]
  simp only [beq_iff_eq, Bool.not_eq_true', ← cutK_zero]
  omega
 match s with
 | [] => rfl
 | [b] =>
  have e1 : (([b] : List UInt8).length : Int) == 1 := rfl
  rw [e1, cond_true, show sidx [b] 0 = some (b.toNat : Int) from rfl, Option.bind_some, m_rdigit, Option.bind_some, Option.bind_some]
  simp only [Option.bind_some, hz]
  simp only [List.all_cons, List.all_nil, List.any_cons, List.any_nil, isE, Bool.and_true, Bool.or_false]
  cases isL b <;> cases isD b <;> rfl
 | b :: c :: t =>
  have e1 : (((b :: c :: t).length : Int) == 1) = false := by rw [beq_eq_false_iff_ne]; simp; omega
  simp only [e1, cond_false, Option.bind_some, hz]
  have e2 : wiB (b :: c :: t).length 1 1 = false := by unfold wiB; simp
  rw [e2, Bool.and_false, Bool.or_false]
  cases (b :: c :: t).all isE <;> cases wiB (b :: c :: t).length 1 4 <;> cases (b :: c :: t).any isD <;> rfl
theorem m_rbase (hs : s.length < 4611686018427387904) (hN : s.length < N) : ref01_base N s = some (baseB s) := by
 have hk := cutK_le s
 unfold ref01_base baseB
 rw [m_cut hs hN, Option.bind_some, m_mixed hs hN, Option.bind_some, m_rwithin, w14]
 have e1 : ssub s 0 (cutK s : Int) = some (s.take (cutK s)) := by
  have := ssub_nat (a := s) (lo := 0) (hi := cutK s) (Nat.zero_le _) hk
  simpa using this
 have e2 : W64 ((s.length : Int) - (cutK s : Int)) = ((s.length - cutK s : Nat) : Int) := by rw [W64_id (by omega) (by omega)]; omega
 rw [e1, e2, m_rwithin, w14]
 have e3 := m_lettered (N := N) (s := s.take (cutK s)) (by rw [List.length_take]; omega) (by rw [List.length_take]; omega)
 simp only [Option.bind_some, e3]
 cases s.all isE <;> cases wiB (cutK s) 1 4 <;> cases (s.take (cutK s)).any isL <;> rfl
theorem lastLt (p : Nat → Bool) (tr : Bool) (s : List UInt8) : ∀ (f i : Nat), i ≤ s.length → Go.Lib.lastIdxFuncFrom p tr ⟨s.toArray⟩ f i = -1 ∨ (0 ≤ Go.Lib.lastIdxFuncFrom p tr ⟨s.toArray⟩ f i ∧ Go.Lib.lastIdxFuncFrom p tr ⟨s.toArray⟩ f i < (i : Int))
 | 0, _, _ => .inl rfl
 | f + 1, i, hi => by
  unfold Go.Lib.lastIdxFuncFrom
  split
  ·rename_i h0
   have hw := Go.Lib.decodeLastL_width (s.take i) (by rw [List.length_take]; omega)
   simp only [List.toList_toArray] at *
   split
   ·exact .inr ⟨by omega, by omega⟩
   ·rcases lastLt p tr s f (i - (Go.Lib.decodeLastL (s.take i)).2) (by omega) with h | h
    ·exact .inl h
    ·exact .inr ⟨h.1, by omega⟩
  ·exact .inl rfl
theorem m_base (hs : s.length < 4611686018427387904) (hN : s.length < N) : ∃ x y, air_base N s = some (x, y, baseB s) ∧ (baseB s = true → x = s.take (cutK s) ∧ y = s.drop (cutK s)) := by
 have hr : ∃ k : Nat, strings_LastIndexFunc N s (fun y0 => air_digit N y0) = some ((k : Int) - 1) ∧ k ≤ s.length ∧ ((∀ b, b ∈ s → b.toNat < 128) → k = cutK s) := by
  have hsz : (⟨s.toArray⟩ : ByteArray).size = s.length := by simp [ByteArray.size]
  have e : strings_LastIndexFunc N s (fun y0 => air_digit N y0) = some (Go.Lib.lastIdxFunc (predOf fun y0 => air_digit N y0) true ⟨s.toArray⟩) := by
   unfold strings_LastIndexFunc strings_lastIndexFunc
   rw [if_pos ⟨(predD N).all, by omega⟩]
   rfl
  rw [e]
  unfold Go.Lib.lastIdxFunc
  rw [hsz]
  have hrange := lastLt (predOf fun y0 => air_digit N y0) true s s.length s.length (Nat.le_refl _)
  refine ⟨(Go.Lib.lastIdxFuncFrom (predOf fun y0 => air_digit N y0) true ⟨s.toArray⟩ s.length s.length + 1).toNat, ?_, ?_, fun ha => ?_⟩
  ·exact congrArg some (by rcases hrange with h | ⟨h, _⟩ <;> omega)
  ·rcases hrange with h | ⟨h1, h2⟩
   ·omega
   ·omega
  ·have := lastFrom_spec N s ha s.length s.length (Nat.le_refl _) (Nat.le_refl _)
   rw [List.take_length] at this
   omega
 obtain ⟨k, h1, h2, h3⟩ := hr
 have e1 : W64 ((k : Int) - 1 + 1) = (k : Int) := by rw [W64_id (by omega) (by omega)]; omega
 have e2 : ssub s 0 (k : Int) = some (s.take k) := by
  have := ssub_nat (a := s) (lo := 0) (hi := k) (Nat.zero_le _) h2
  simpa using this
 have e3 : ssub s (k : Int) (s.length : Int) = some (s.drop k) := by
  rw [ssub_nat h2 (Nat.le_refl _), List.take_of_length_le (by simp)]
 have e4 := m_area (N := N) (s := s.take k) (by rw [List.length_take]; omega) (by rw [List.length_take]; omega)
 have e5 := only_spec (predL N) (s.drop k) 4 (N := N) (by rw [List.length_drop]; omega)
 refine ⟨s.take k, s.drop k, ?_, ?_⟩
 ·unfold air_base
  rw [h1, Option.bind_some, e1, e2, Option.bind_some, e3, Option.bind_some, Option.bind_some, e4, Option.bind_some, e5, w14]
  have hbase : (decide ((k : Int) > 0) && (areaB (s.take k) && ((s.drop k).all isL && wiB (s.drop k).length 1 4))) = baseB s := by
   by_cases ha : s.all isE = true
   ·have hk : k = cutK s := h3 fun b hb => isE_asc (List.all_eq_true.1 ha b hb)
    subst hk
    have hle := cutK_le s
    have e6 : (s.take (cutK s)).all isE = true := List.all_eq_true.2 fun b hb => List.all_eq_true.1 ha b (List.mem_of_mem_take hb)
    have e7 : (s.drop (cutK s)).all isL = true := by
     rw [allL_iff]
     rw [Bool.and_eq_true]
     refine ⟨List.all_eq_true.2 fun b hb => List.all_eq_true.1 ha b (List.mem_of_mem_drop hb), ?_⟩
     rw [Bool.not_eq_true', List.any_eq_false]
     intro b hb
     rw [cutK_rest s b hb]; simp
    unfold areaB baseB
    rw [ha, e6, e7, List.length_take, Nat.min_eq_left hle, List.length_drop]
    have e8 : (decide ((cutK s : Int) > 0) && wiB (cutK s) 1 4) = wiB (cutK s) 1 4 := by
     unfold wiB
     cases hd : decide (1 ≤ cutK s) with
     | false => simp
     | true => rw [decide_eq_true (by have := of_decide_eq_true hd; omega)]; rfl
    rw [← e8]
    cases decide ((cutK s : Int) > 0) <;> cases wiB (cutK s) 1 4 <;> cases (s.take (cutK s)).any isL <;> rfl
   ·have ha' : s.all isE = false := by simpa using ha
    unfold areaB baseB
    rw [ha']
    have e9 : (s.take k).all isE = false ∨ (s.drop k).all isL = false := by
     rw [← List.take_append_drop k s, List.all_append] at ha'
     cases h5 : (s.take k).all isE with
     | false => exact .inl rfl
     | true =>
      right
      rw [h5, Bool.true_and] at ha'
      rw [allL_iff, ha']
      rfl
    rcases e9 with e9 | e9 <;> rw [e9] <;> simp
  rw [← hbase]
  cases decide ((k : Int) > 0) <;> cases areaB (s.take k) <;> rfl
 ·intro hb
  have ha : s.all isE = true := by
   unfold baseB at hb
   simp only [Bool.and_eq_true] at hb
   exact hb.1.1.1
  rw [h3 fun b hb => isE_asc (List.all_eq_true.1 ha b hb)]
  exact ⟨rfl, rfl⟩
end
end Go.Proofs.YtlddakefmfcblaaGreatDoor
namespace Go.Proofs.YtlddakefmfcblaaGreatDoor
theorem iter_first {α ρ τ : Type} {body : Int → Option (Flow ρ Int)} {l : List α} (f : α → Option ρ) (hb : ∀ i (h : i < l.length), body (i : Int) = some ((f l[i]).elim (.next ((i + 1 : Nat) : Int)) .ret))
  (he : body (l.length : Int) = some (.done (l.length : Int))) {N : Nat} (hN : l.length < N) (fd : Int → Option τ) (fr : ρ → Option τ) : ((iter body N 0).bind fun o => o.k fr fd) = (l.findSome? f).elim (fd l.length) fr := by
 obtain ⟨o, ho, hR⟩ := iter_ex (body := body) l.length (fun i s => s = (i : Int) ∧ l.findSome? f = (l.drop i).findSome? f) (fun o => (l.findSome? f = none ∧ o = .done (l.length : Int)) ∨ ∃ r, l.findSome? f = some r ∧ o = .ret r) (by
  rintro i s hi ⟨rfl, hk⟩
  by_cases h : i < l.length
  ·rw [hb i h]
   rw [List.drop_eq_getElem_cons h, List.findSome?_cons] at hk
   cases e : f l[i] with
   | some r => rw [e] at hk; exact .inr ⟨_, rfl, (fun _ h => by cases h), .inr ⟨r, hk, rfl⟩⟩
   | none => rw [e] at hk; exact .inl ⟨_, rfl, ⟨rfl, hk⟩, h⟩
  ·have : i = l.length := by omega
   subst this
   rw [he]
   rw [List.drop_length] at hk
   exact .inr ⟨_, rfl, (fun _ h => by cases h), .inl ⟨hk, rfl⟩⟩) l.length N 0 0 (by omega) ⟨rfl, by rw [List.drop_zero]⟩ hN
 rw [ho]
 rcases hR with ⟨h1, rfl⟩ | ⟨r, h1, rfl⟩ <;> rw [h1] <;> rfl
theorem pcs_le (c : UInt8) : ∀ s p, p ∈ pcs c s → p.length ≤ s.length
 | [], p, h => by simp [pcs] at h; subst h; simp
 | b :: s, p, h => by
  have ih := pcs_le c s
  unfold pcs at h
  by_cases hb : b = c
  ·rw [if_pos hb] at h
   rcases List.mem_cons.1 h with rfl | h
   ·simp
   ·exact Nat.le_succ_of_le (ih p h)
  ·rw [if_neg hb] at h
   cases hp : pcs c s with
   | nil => exact absurd hp (pcs_ne c s)
   | cons q r =>
    rw [hp] at h ih
    simp only at h
    rcases List.mem_cons.1 h with rfl | h
    ·exact Nat.succ_le_succ (ih q List.mem_cons_self)
    ·exact Nat.le_succ_of_le (ih p (List.mem_cons_of_mem _ h))
def zp : Parts := { Area := [], Prefix := [], Suffix := [], Stroke := [] }
abbrev Tri := List UInt8 × List UInt8 × List UInt8
def words (ws : List (List UInt8)) : Option Tri := match ws with
 | [w] => if baseB w then some ([], w, []) else none
 | [a, b] => if areaB a && baseB b && decide (a.length < b.length) then some (a, b, []) else if baseB a && strokeB b then some ([], a, b) else none
 | [a, b, c] => if areaB a && baseB b && strokeB c then some (a, b, c) else none
 | _ => none
def callB (s : List UInt8) : Option Tri := if s.length ≤ 16 then words (pcs 47 s) else none
def partsOf (t : Tri) : Parts := { Area := t.1, Prefix := t.2.1.take (cutK t.2.1), Suffix := t.2.1.drop (cutK t.2.1), Stroke := t.2.2 }
def splitR (s : List UInt8) : Parts × Bool := match callB s with
 | some t => (partsOf t, true)
 | none => (zp, false)
section
variable {N : Nat}
theorem m_forms1 {w : List UInt8} (hs : w.length < 4611686018427387904) (hN : w.length < N) : ∃ x y, air_forms_1 N w = some ({ Area := [], Prefix := x, Suffix := y, Stroke := [] }, baseB w) ∧ (baseB w = true → x = w.take (cutK w) ∧ y = w.drop (cutK w)) := by
 obtain ⟨x, y, h1, h2⟩ := m_base hs hN
 exact ⟨x, y, by unfold air_forms_1; rw [h1]; rfl, h2⟩
theorem f2_abs {w : List UInt8} {z0 : List UInt8 → Option (Parts × Bool)} {p : Parts} {ok : Bool} (h1 : z0 w = some (p, ok)) : air_forms_2 N [w] z0 = some (p, ok) := by
 unfold air_forms_2
 have i0 : idx [w] 0 = some w := rfl
 simp only [i0, Option.bind_some, h1]
theorem f3_abs {a b : List UInt8} {z0 : List UInt8 → Option (Parts × Bool)} {x y u v : List UInt8} {A ok : Bool} (h1 : z0 b = some ({ Area := u, Prefix := x, Suffix := y, Stroke := v }, ok)) (h3 : air_area N a = some A) : air_forms_3 N [a, b] z0 = some ({ Area := a, Prefix := x, Suffix := y, Stroke := v }, ok && A && decide (a.length < b.length)) := by
 unfold air_forms_3
 have e : decide ((a.length : Int) < (b.length : Int)) = decide (a.length < b.length) := by rw [decide_eq_decide]; omega
 have i0 : idx [a, b] 0 = some a := rfl
 have i1 : idx [a, b] 1 = some b := rfl
 rw [i0, i1]
 simp only [Option.bind_some, h1, h3]
 clear h1 h3
 rw [e]
 generalize decide (a.length < b.length) = D
 cases ok <;> cases A <;> rfl
theorem f4_abs {a b : List UInt8} {z0 : List UInt8 → Option (Parts × Bool)} {x y u v : List UInt8} {A ok : Bool} (h1 : z0 a = some ({ Area := u, Prefix := x, Suffix := y, Stroke := v }, ok)) (h3 : air_stroke N b = some A) : air_forms_4 N [a, b] z0 = some ({ Area := u, Prefix := x, Suffix := y, Stroke := b }, ok && A) := by
 unfold air_forms_4
 have i0 : idx [a, b] 0 = some a := rfl
 have i1 : idx [a, b] 1 = some b := rfl
 rw [i0, i1]
 simp only [Option.bind_some, h1, h3]
 clear h1 h3
 cases ok <;> cases A <;> rfl
theorem f5_abs {a b c : List UInt8} {z0 : List UInt8 → Option (Parts × Bool)} {x y u v : List UInt8} {A B ok : Bool} (h1 : z0 b = some ({ Area := u, Prefix := x, Suffix := y, Stroke := v }, ok)) (h3 : air_area N a = some A) (h4 : air_stroke N c = some B) : air_forms_5 N [a, b, c] z0 = some ({ Area := a, Prefix := x, Suffix := y, Stroke := c }, ok && A && B) := by
 unfold air_forms_5
 have i0 : idx [a, b, c] 0 = some a := rfl
 have i1 : idx [a, b, c] 1 = some b := rfl
 have i2 : idx [a, b, c] 2 = some c := rfl
 rw [i0, i1, i2]
 simp only [Option.bind_some, h1, h3, h4]
 clear h1 h3 h4
 cases ok <;> cases A <;> cases B <;> rfl
theorem m_form2 {w : List UInt8} (hs : w.length ≤ 16) (hN : 16 < N) : ∃ x y, air_forms_2 N [w] (fun y0 => air_forms_1 N y0) = some ({ Area := [], Prefix := x, Suffix := y, Stroke := [] }, baseB w) ∧ (baseB w = true → x = w.take (cutK w) ∧ y = w.drop (cutK w)) := by
 obtain ⟨x, y, h1, h2⟩ := m_forms1 (w := w) (N := N) (by omega) (by omega)
 exact ⟨x, y, f2_abs (z0 := fun y0 => air_forms_1 N y0) h1, h2⟩
theorem m_form3 {a b : List UInt8} (ha : a.length ≤ 16) (hb : b.length ≤ 16) (hN : 16 < N) : ∃ x y, air_forms_3 N [a, b] (fun y0 => air_forms_1 N y0) = some ({ Area := a, Prefix := x, Suffix := y, Stroke := [] }, baseB b && areaB a && decide (a.length < b.length)) ∧ (baseB b = true → x = b.take (cutK b) ∧ y = b.drop (cutK b)) := by
 obtain ⟨x, y, h1, h2⟩ := m_forms1 (w := b) (N := N) (by omega) (by omega)
 exact ⟨x, y, f3_abs (z0 := fun y0 => air_forms_1 N y0) h1 (m_area (N := N) (s := a) (by omega) (by omega)), h2⟩
theorem m_form4 {a b : List UInt8} (ha : a.length ≤ 16) (hb : b.length ≤ 16) (hN : 16 < N) : ∃ x y, air_forms_4 N [a, b] (fun y0 => air_forms_1 N y0) = some ({ Area := [], Prefix := x, Suffix := y, Stroke := b }, baseB a && strokeB b) ∧ (baseB a = true → x = a.take (cutK a) ∧ y = a.drop (cutK a)) := by
 obtain ⟨x, y, h1, h2⟩ := m_forms1 (w := a) (N := N) (by omega) (by omega)
 exact ⟨x, y, f4_abs (z0 := fun y0 => air_forms_1 N y0) h1 (m_stroke (N := N) (s := b) (by omega) (by omega)), h2⟩
theorem m_form5 {a b c : List UInt8} (ha : a.length ≤ 16) (hb : b.length ≤ 16) (hc : c.length ≤ 16) (hN : 16 < N) : ∃ x y, air_forms_5 N [a, b, c] (fun y0 => air_forms_1 N y0) = some ({ Area := a, Prefix := x, Suffix := y, Stroke := c }, baseB b && areaB a && strokeB c) ∧ (baseB b = true → x = b.take (cutK b) ∧ y = b.drop (cutK b)) := by
 obtain ⟨x, y, h1, h2⟩ := m_forms1 (w := b) (N := N) (by omega) (by omega)
 exact ⟨x, y, f5_abs (z0 := fun y0 => air_forms_1 N y0) h1 (m_area (N := N) (s := a) (by omega) (by omega)) (m_stroke (N := N) (s := c) (by omega) (by omega)), h2⟩
def tryF (ws : List (List UInt8)) (fm : air_form) : Option (Parts × Bool) := if fm.words_ = (ws.length : Int) then match fm.split_ ws with
 | some (p, true) => some (p, true)
 | _ => none
 else none
theorem split_walk {s : List UInt8} {ws : List (List UInt8)} (hle : ∀ w, w ∈ ws → w.length ≤ 16) (hN : 4 < N) (f2 f3 f4 f5 : List (List UInt8) → Option (Parts × Bool))
  (H2 : ∀ w : List UInt8, w.length ≤ 16 → ∃ x y, f2 [w] = some ({ Area := [], Prefix := x, Suffix := y, Stroke := [] }, baseB w) ∧ (baseB w = true → x = w.take (cutK w) ∧ y = w.drop (cutK w)))
  (H3 : ∀ a b : List UInt8, a.length ≤ 16 → b.length ≤ 16 → ∃ x y, f3 [a, b] = some ({ Area := a, Prefix := x, Suffix := y, Stroke := [] }, baseB b && areaB a && decide (a.length < b.length)) ∧ (baseB b = true → x = b.take (cutK b) ∧ y = b.drop (cutK b)))
  (H4 : ∀ a b : List UInt8, a.length ≤ 16 → b.length ≤ 16 → ∃ x y, f4 [a, b] = some ({ Area := [], Prefix := x, Suffix := y, Stroke := b }, baseB a && strokeB b) ∧ (baseB a = true → x = a.take (cutK a) ∧ y = a.drop (cutK a)))
  (H5 : ∀ a b c : List UInt8, a.length ≤ 16 → b.length ≤ 16 → c.length ≤ 16 → ∃ x y, f5 [a, b, c] = some ({ Area := a, Prefix := x, Suffix := y, Stroke := c }, baseB b && areaB a && strokeB c) ∧ (baseB b = true → x = b.take (cutK b) ∧ y = b.drop (cutK b))) :
  ((iter (air_split_L0 N s ws [({ words_ := 1, split_ := f2 } : air_form), { words_ := 2, split_ := f3 }, { words_ := 2, split_ := f4 }, { words_ := 3, split_ := f5 }]) N 0).bind fun o => o.k (fun r => some r) (fun _ => some (zp, false))) = some (match words ws with | some t => (partsOf t, true) | none => (zp, false)) := by
 generalize hF : ([_, _, _, _] : List air_form) = F
 have htot : ∀ fm, fm ∈ F → fm.words_ = (ws.length : Int) → ∃ r, fm.split_ ws = some r := by
  subst hF
  intro fm hfm hw
  simp only [List.mem_cons, List.not_mem_nil, or_false] at hfm
  rcases hfm with rfl | rfl | rfl | rfl <;> simp only at hw ⊢
  ·match ws, hw with
   | [w], _ => obtain ⟨_, _, h, _⟩ := H2 w (hle w (by simp)); exact ⟨_, h⟩
  ·match ws, hw with
   | [a, b], _ => obtain ⟨_, _, h, _⟩ := H3 a b (hle a (by simp)) (hle b (by simp)); exact ⟨_, h⟩
  ·match ws, hw with
   | [a, b], _ => obtain ⟨_, _, h, _⟩ := H4 a b (hle a (by simp)) (hle b (by simp)); exact ⟨_, h⟩
  ·match ws, hw with
   | [a, b, c], _ => obtain ⟨_, _, h, _⟩ := H5 a b c (hle a (by simp)) (hle b (by simp)) (hle c (by simp)); exact ⟨_, h⟩
 have hlen : F.length = 4 := by subst hF; rfl
 have hb : ∀ i (h : i < F.length), air_split_L0 N s ws F (i : Int) = some ((tryF ws F[i]).elim (.next ((i + 1 : Nat) : Int)) .ret) := by
  intro i h
  unfold air_split_L0
  have hi : idx F (i : Int) = some F[i] := by unfold idx; rw [if_pos (by omega)]; simp [h]
  rw [lt_dec h, cond_true, hi, Option.bind_some, w64s i (by omega)]
  have htt := htot _ (List.getElem_mem h)
  generalize F[i] = fm at htt
  unfold tryF
  by_cases hw : fm.words_ = (ws.length : Int)
  ·obtain ⟨⟨p, ok⟩, hr⟩ := htt hw
   rw [if_pos hw, show (fm.words_ != (ws.length : Int)) = false by simp [hw], cond_false, hr]
   cases ok <;> rfl
  ·rw [if_neg hw, show (fm.words_ != (ws.length : Int)) = true by simp [hw], cond_true]
   rfl
 have he : air_split_L0 N s ws F (F.length : Int) = some (.done (F.length : Int)) := by
  unfold air_split_L0
  rw [lt_dec', cond_false]
 rw [iter_first (l := F) (tryF ws) hb he (by omega)]
 subst hF
 match ws, hle with
 | [], _ => rfl
 | [w], hle =>
  obtain ⟨x, y, h1, h2⟩ := H2 w (hle w (by simp))
  unfold words
  have e : (([w] : List (List UInt8)).length : Int) = 1 := rfl
  simp only [List.findSome?_cons, List.findSome?_nil, tryF, e, h1]
  cases hB : baseB w with
  | false => rfl
  | true => obtain ⟨rfl, rfl⟩ := h2 hB; rfl
 | [a, b], hle =>
  have ha := hle a (by simp)
  have hb := hle b (by simp)
  obtain ⟨x, y, h1, h2⟩ := H3 a b ha hb
  obtain ⟨x', y', h3, h4⟩ := H4 a b ha hb
  unfold words
  have e : (([a, b] : List (List UInt8)).length : Int) = 2 := rfl
  simp only [List.findSome?_cons, List.findSome?_nil, tryF, e, h1, h3]
  clear h1 h3 H2 H3 H4 H5 htot hlen hb he
  generalize decide (a.length < b.length) = D
  generalize areaB a = A
  generalize strokeB b = S
  cases hB : baseB b with
  | false =>
   cases hA : baseB a with
   | false => cases A <;> cases D <;> rfl
   | true =>
    obtain ⟨rfl, rfl⟩ := h4 hA
    cases A <;> cases D <;> cases S <;> rfl
  | true =>
   obtain ⟨rfl, rfl⟩ := h2 hB
   cases hA : baseB a with
   | false => cases A <;> cases D <;> rfl
   | true =>
    obtain ⟨rfl, rfl⟩ := h4 hA
    cases A <;> cases D <;> cases S <;> rfl
 | [a, b, c], hle =>
  have ha := hle a (by simp)
  have hb := hle b (by simp)
  have hc := hle c (by simp)
  obtain ⟨x, y, h1, h2⟩ := H5 a b c ha hb hc
  unfold words
  have e : (([a, b, c] : List (List UInt8)).length : Int) = 3 := rfl
  simp only [List.findSome?_cons, List.findSome?_nil, tryF, e, h1]
  clear h1 H2 H3 H4 H5 htot hlen hb he
  generalize areaB a = A
  generalize strokeB c = S
  cases hB : baseB b with
  | false => cases A <;> cases S <;> rfl
  | true =>
   obtain ⟨rfl, rfl⟩ := h2 hB
   cases A <;> cases S <;> rfl
 | a :: b :: c :: d :: t, _ =>
  unfold words
  have e : ∀ k : Int, k ≤ 3 → ¬ k = ((a :: b :: c :: d :: t).length : Int) := by intro k hk; simp only [List.length_cons]; omega
  simp only [List.findSome?_cons, List.findSome?_nil, tryF, if_neg (e 1 (by decide)), if_neg (e 2 (by decide)), if_neg (e 3 (by decide))]
  rfl
theorem m_split (s : List UInt8) (hN : 4294967300 < N) : air_split N s = some (splitR s) := by
 unfold air_split splitR callB
 by_cases hl : s.length ≤ 16
 ·rw [decide_eq_false (by omega), cond_false, if_pos hl, m_Split 47 (by omega), Option.bind_some]
  have hle := pcs_le 47 s
  generalize pcs 47 s = ws at hle
  unfold air_forms
  rw [Option.bind_some]
  exact split_walk (fun w h => Nat.le_trans (hle w h) hl) (by omega) _ _ _ _ (fun w h => m_form2 h (by omega)) (fun a b h h' => m_form3 h h' (by omega)) (fun a b h h' => m_form4 h h' (by omega)) (fun a b c h h' h'' => m_form5 h h' h'' (by omega))
 ·rw [decide_eq_true (by omega), cond_true, if_neg hl]
  rfl
def triR (s : List UInt8) : List UInt8 × List UInt8 × List UInt8 × Bool := match callB s with
 | some t => (t.1, t.2.1, t.2.2, true)
 | none => ([], [], [], false)
theorem m_rparts (s : List UInt8) (hN : 4294967300 < N) : ref01_parts N s = some (triR s) := by
 unfold ref01_parts triR callB
 by_cases hl : s.length ≤ 16
 ·rw [decide_eq_false (by omega), cond_false, if_pos hl, m_rpieces s (by omega) (by omega), Option.bind_some]
  have hle := pcs_le 47 s
  generalize pcs 47 s = ws at hle
  match ws, hle with
  | [], _ => rfl
  | [w], hle =>
   have hw := hle w (by simp)
   have h1 := m_rbase (N := N) (s := w) (by omega) (by omega)
   simp only [show ((([w] : List (List UInt8)).length : Int) == 1) = true from rfl, show ((([w] : List (List UInt8)).length : Int) == 2) = false from rfl, show ((([w] : List (List UInt8)).length : Int) == 3) = false from rfl, cond_true, cond_false, show idx [w] 0 = some w from rfl, Option.bind_some, h1, words]
   cases baseB w <;> rfl
  | [a, b], hle =>
   have ha := hle a (by simp)
   have hb := hle b (by simp)
   have h1 := m_rbase (N := N) (s := a) (by omega) (by omega)
   have h2 := m_rbase (N := N) (s := b) (by omega) (by omega)
   have h3 := m_rarea (N := N) (s := a) (by omega) (by omega)
   have h4 := m_rstroke (N := N) (s := b) (by omega) (by omega)
   have e : decide ((a.length : Int) < (b.length : Int)) = decide (a.length < b.length) := by rw [decide_eq_decide]; omega
   simp only [show ((([a, b] : List (List UInt8)).length : Int) == 1) = false from rfl, show ((([a, b] : List (List UInt8)).length : Int) == 2) = true from rfl, show ((([a, b] : List (List UInt8)).length : Int) == 3) = false from rfl, cond_true, cond_false, show idx [a, b] 0 = some a from rfl, show idx [a, b] 1 = some b from rfl, Option.bind_some, h1, h2, h3, h4, e, words]
   cases areaB a <;> cases baseB b <;> cases decide (a.length < b.length) <;> cases baseB a <;> cases strokeB b <;> rfl
  | [a, b, c], hle =>
   have ha := hle a (by simp)
   have hb := hle b (by simp)
   have hc := hle c (by simp)
   have h2 := m_rbase (N := N) (s := b) (by omega) (by omega)
   have h3 := m_rarea (N := N) (s := a) (by omega) (by omega)
   have h4 := m_rstroke (N := N) (s := c) (by omega) (by omega)
   simp only [show ((([a, b, c] : List (List UInt8)).length : Int) == 1) = false from rfl, show ((([a, b, c] : List (List UInt8)).length : Int) == 2) = false from rfl, show ((([a, b, c] : List (List UInt8)).length : Int) == 3) = true from rfl, cond_true, cond_false, show idx [a, b, c] 0 = some a from rfl, show idx [a, b, c] 1 = some b from rfl, show idx [a, b, c] 2 = some c from rfl, Option.bind_some, h2, h3, h4, words]
   cases areaB a <;> cases baseB b <;> cases strokeB c <;> rfl
  | a :: b :: c :: d :: t, _ =>
   have e : ∀ k : Int, k ≤ 3 → (((a :: b :: c :: d :: t).length : Int) == k) = false := by intro k hk; rw [beq_eq_false_iff_ne]; simp; omega
   simp only [e 1 (by decide), e 2 (by decide), e 3 (by decide), cond_false, Option.bind_some, words]
 ·rw [decide_eq_true (by omega), cond_true, if_neg hl]
end
end Go.Proofs.YtlddakefmfcblaaGreatDoor
namespace Go.Proofs.YtlddakefmfcblaaGreatDoor
theorem baseB_len {s : List UInt8} (h : baseB s = true) : 1 ≤ cutK s ∧ cutK s ≤ 4 ∧ cutK s < s.length ∧ s.length ≤ 8 := by
 unfold baseB wiB at h
 simp only [Bool.and_eq_true, decide_eq_true_eq] at h
 omega
theorem areaB_len {s : List UInt8} (h : areaB s = true) : 1 ≤ s.length ∧ s.length ≤ 4 := by
 unfold areaB wiB at h
 simp only [Bool.and_eq_true, decide_eq_true_eq] at h
 omega
theorem strokeB_len {s : List UInt8} (h : strokeB s = true) : 1 ≤ s.length ∧ s.length ≤ 4 := by
 unfold strokeB wiB at h
 simp only [Bool.and_eq_true, Bool.or_eq_true, decide_eq_true_eq] at h
 omega
theorem ssub0 {a : List UInt8} {hi : Nat} (h : hi ≤ a.length) : ssub a 0 (hi : Int) = some (a.take hi) := by
 have := ssub_nat (a := a) (lo := 0) (hi := hi) (by omega) h
 simpa using this
def joinT (t : Tri) : List UInt8 := (if t.1 = [] then t.2.1 else t.1 ++ 47 :: t.2.1) ++ (if t.2.2 = [] then [] else 47 :: t.2.2)
def okT (t : Tri) : Bool := (decide (t.1 = []) || areaB t.1) && baseB t.2.1 && (decide (t.2.2 = []) || strokeB t.2.2) && (decide (t.1 = []) || !decide (t.2.2 = []) || decide (t.1.length < t.2.1.length)) && decide ((joinT t).length ≤ 16)
theorem areaB_ne {s : List UInt8} (h : areaB s = true) : s ≠ [] := by
 rintro rfl; have := areaB_len h; simp at this
theorem strokeB_ne {s : List UInt8} (h : strokeB s = true) : s ≠ [] := by
 rintro rfl; have := strokeB_len h; simp at this
theorem words1 (w : List UInt8) : words [w] = if baseB w then some ([], w, []) else none := rfl
theorem words2 (a b : List UInt8) : words [a, b] = if (areaB a && baseB b && decide (a.length < b.length)) = true then some (a, b, []) else if (baseB a && strokeB b) = true then some ([], a, b) else none := rfl
theorem words3 (a b c : List UInt8) : words [a, b, c] = if (areaB a && baseB b && strokeB c) = true then some (a, b, c) else none := rfl
theorem callB_some {s : List UInt8} {t : Tri} (h : callB s = some t) : okT t = true ∧ s = joinT t := by
 unfold callB at h
 by_cases hl : s.length ≤ 16
 ·rw [if_pos hl] at h
  have hj := pcs_join 47 s
  suffices hh : s = joinT t ∧ ((decide (t.1 = []) || areaB t.1) && baseB t.2.1 && (decide (t.2.2 = []) || strokeB t.2.2) && (decide (t.1 = []) || !decide (t.2.2 = []) || decide (t.1.length < t.2.1.length))) = true by
   refine ⟨?_, hh.1⟩
   unfold okT
   rw [hh.2, ← hh.1, decide_eq_true hl]; rfl
  revert h hj
  generalize pcs 47 s = ws
  intro h hj
  match ws, h, hj with
  | [w], h, hj =>
   rw [words1] at h
   cases hb : baseB w with
   | false => rw [hb] at h; simp at h
   | true =>
    rw [hb] at h
    simp at h
    subst h
    have : w = s := by simpa [List.intercalate] using hj
    exact ⟨by simp [joinT, this], by simp [hb]⟩
  | [a, b], h, hj =>
   have hj' : a ++ 47 :: b = s := by simpa [List.intercalate] using hj
   rw [words2] at h
   by_cases h1 : (areaB a && baseB b && decide (a.length < b.length)) = true
   ·rw [if_pos h1] at h
    simp at h
    subst h
    simp only [Bool.and_eq_true, decide_eq_true_eq] at h1
    exact ⟨by simp [joinT, hj', areaB_ne h1.1.1], by simp [h1]⟩
   ·rw [if_neg h1] at h
    by_cases h2 : (baseB a && strokeB b) = true
    ·rw [if_pos h2] at h
     simp at h
     subst h
     simp only [Bool.and_eq_true] at h2
     exact ⟨by simp [joinT, hj', strokeB_ne h2.2], by simp [h2]⟩
    ·rw [if_neg h2] at h; cases h
  | [a, b, c], h, hj =>
   have hj' : a ++ 47 :: (b ++ 47 :: c) = s := by simpa [List.intercalate] using hj
   rw [words3] at h
   by_cases h1 : (areaB a && baseB b && strokeB c) = true
   ·rw [if_pos h1] at h
    simp at h
    subst h
    simp only [Bool.and_eq_true] at h1
    refine ⟨?_, ?_⟩
    ·rw [← hj']; simp [joinT, areaB_ne h1.1.1, strokeB_ne h1.2]
    ·simp [h1, strokeB_ne h1.2]
   ·rw [if_neg h1] at h; cases h
  | [], h, _ => cases h
  | _ :: _ :: _ :: _ :: _, h, _ => cases h
 ·rw [if_neg hl] at h; cases h
def splitS (s : List UInt8) : Parts × Int := match callB s with
 | some t => (partsOf t, 0)
 | none => (zp, 10)
def validS (s : List UInt8) : Bool := (callB s).isSome
def lastD (l : List UInt8) : Bool := (l[l.length - 1]?.map isD).getD false
def prefS (t : Tri) : List UInt8 := if t.1 = [] then (if (t.2.2.length == 1 && t.2.2.all isD) = true then (t.2.1.take (cutK t.2.1)).take (cutK t.2.1 - 1) ++ t.2.2 else t.2.1.take (cutK t.2.1)) else if lastD t.1 = true then t.1 else t.1 ++ [48]
def prefixS (s : List UInt8) : List UInt8 × Int := match callB s with
 | some t => (prefS t, 0)
 | none => ([], 10)
theorem ok_len {t : Tri} (h : okT t = true) : t.1.length ≤ 4 ∧ t.2.1.length ≤ 8 ∧ t.2.2.length ≤ 4 ∧ 1 ≤ cutK t.2.1 ∧ cutK t.2.1 ≤ 4 ∧ cutK t.2.1 < t.2.1.length := by
 unfold okT at h
 simp only [Bool.and_eq_true, Bool.or_eq_true, Bool.not_eq_true', decide_eq_true_eq, decide_eq_false_iff_not] at h
 obtain ⟨⟨⟨⟨h1, h2⟩, h3⟩, h4⟩, h5⟩ := h
 have hb := baseB_len h2
 refine ⟨?_, hb.2.2.2, ?_, hb.1, hb.2.1, hb.2.2.1⟩
 ·rcases h1 with h1 | h1
  ·rw [h1]; simp
  ·exact (areaB_len h1).2
 ·rcases h3 with h1 | h1
  ·rw [h1]; simp
  ·exact (strokeB_len h1).2
theorem ps_app (t : Tri) : (partsOf t).Prefix ++ (partsOf t).Suffix = t.2.1 := List.take_append_drop _ _
section
variable {N : Nat}
theorem s_Split (s : List UInt8) (hN : 4294967300 < N) : air_Split N s = some (splitS s) := by
 unfold air_Split splitS
 rw [m_split s hN, Option.bind_some]
 unfold splitR
 cases callB s <;> rfl
theorem s_Valid (s : List UInt8) (hN : 4294967300 < N) : air_ValidCall N s = some (validS s) := by
 unfold air_ValidCall validS
 rw [m_split s hN, Option.bind_some]
 unfold splitR
 cases callB s <;> rfl
theorem s_rValid (s : List UInt8) (hN : 4294967300 < N) : ref01_ValidCall N s = some (validS s) := by
 unfold ref01_ValidCall validS
 rw [m_rparts s hN, Option.bind_some]
 unfold triR
 cases callB s <;> rfl
theorem ne_dec (s : List UInt8) : (s != []) = !decide (s = []) := by
 cases s <;> rfl
theorem eq_dec (s u : List UInt8) : (s == u) = decide (s = u) := by
 rw [Bool.eq_iff_iff]; simp
theorem i32wrap (b : UInt8) : IntKind.i32.wrap (b.toNat : Int) = (b.toNat : Int) := by
 have := b.toNat_lt
 unfold IntKind.wrap
 simp [IntKind.bits, IntKind.signed]
 omega
theorem sidx_last {a : List UInt8} (h : a ≠ []) (hl : a.length < 4611686018427387904) : ∃ b, sidx a (W64 ((a.length : Int) - 1)) = some (b.toNat : Int) ∧ lastD a = isD b := by
 have hp : 0 < a.length := List.length_pos_iff.2 h
 rw [W64_id (by omega) (by omega), show (a.length : Int) - 1 = ((a.length - 1 : Nat) : Int) by omega, sidx_nat (by omega)]
 refine ⟨_, rfl, ?_⟩
 unfold lastD
 rw [List.getElem?_eq_getElem (by omega)]; rfl
theorem s_PrefixOf (s : List UInt8) (hN : 4294967300 < N) : air_PrefixOf N s = some (prefixS s) := by
 unfold air_PrefixOf prefixS
 rw [s_Split s hN, Option.bind_some]
 unfold splitS
 cases h : callB s with
 | none => rfl
 | some t =>
  have hl := ok_len (callB_some h).1
  have e0 : ((0 : Int) != 0) = false := rfl
  simp only
  rw [e0, cond_false, ne_dec]
  unfold prefS
  have eA : (partsOf t).Area = t.1 := rfl
  have eK : (partsOf t).Stroke = t.2.2 := rfl
  have eP : (partsOf t).Prefix = t.2.1.take (cutK t.2.1) := rfl
  rw [eA, eK, eP]
  by_cases ha : t.1 = []
  ·rw [decide_eq_true ha, Bool.not_true, cond_false, cond_false, Option.bind_some, cond_false, if_pos ha]
   rw [only_spec (predD N) _ 1 (by omega), Option.bind_some, w11]
   have e1 : (t.2.2.all isD && wiB t.2.2.length 1 1) = (t.2.2.length == 1 && t.2.2.all isD) := by
    rw [Bool.and_comm]
    congr 1
    unfold wiB
    rw [Bool.eq_iff_iff]
    simp
    omega
   rw [e1]
   cases hk : (t.2.2.length == 1 && t.2.2.all isD) with
   | false => rfl
   | true =>
    rw [cond_true, if_pos rfl]
    have e2 : (t.2.1.take (cutK t.2.1)).length = cutK t.2.1 := by rw [List.length_take]; omega
    rw [e2, W64_id (by omega) (by omega), show ((cutK t.2.1 : Nat) : Int) - 1 = ((cutK t.2.1 - 1 : Nat) : Int) by omega]
    rw [ssub0 (by omega), Option.bind_some, sadd_some (by simp; omega)]
    rfl
  ·rw [decide_eq_false ha, Bool.not_false, cond_true, if_neg ha]
   obtain ⟨b, h1, h2⟩ := sidx_last ha (by omega)
   rw [h1, Option.bind_some, i32wrap, m_digit, Option.bind_some, Option.bind_some, h2]
   cases isD b with
   | true => rfl
   | false =>
    rw [cond_false, cond_true, sadd_some (by simp; omega)]
    rfl
end
end Go.Proofs.YtlddakefmfcblaaGreatDoor
namespace Go.Proofs.YtlddakefmfcblaaGreatDoor
open Go.Proofs
def air_ValidBands_L0 (N : Nat) (x0 : (List Band)) : Int → Option (Flow Bool Int) := fun s4 =>
 (bif (decide (s4 < (x0.length : Int))) then ((idx x0 s4).bind fun x27 => (((air_within N x27.ID 1 65535).bind fun r60 => (bif (!r60) then some true else ((air_within N x27.Lo 1 x27.Hi).bind fun r72 => (bif (!r72) then some true else (bif (decide (x27.Hi > 10000000)) then some true else (bif (decide (s4 > 0)) then ((idx x0 (W64 (s4 - 1))).bind fun x90 => (bif (decide (x27.ID ≤ x90.ID)) then some true else ((idx x0 (W64 (s4 - 1))).bind fun x100 => some (decide (x27.Lo ≤ x100.Hi))))) else some false)))))).bind fun j51 => (bif j51 then some (.ret false) else some (.next (W64 (s4 + 1)))))) else some (.done s4))
def air_ValidBands (N : Nat) (x0 : (List Band)) : Option Bool :=
 ((iter (air_ValidBands_L0 N x0) N 0).bind fun o => o.k (fun r => some r) (fun s13 => some (decide ((x0.length : Int) ≤ 16))))
theorem co_air_ValidBands : CallOk Tryz.prog 26 := fun _ _ => by kernel_rfl
set_option maxHeartbeats 4000000 in
set_option maxRecDepth 100000 in
theorem c_air_ValidBands (N : Nat) (w0 : World) (F0 : Mem) (hF : ∀ b o, F0 b = some o → w0.heap[b]? = some o) (x0 : (List Band)) (a0_0 : Option Addr) (n0_0 : Nat) (hb0_0 : LC x0.length n0_0) (hs0_0 : SlA tBand F0 a0_0 x0) (r : Bool) (h : air_ValidBands N x0 = some r) :
  Calls Tryz.prog 26 ([(.slice a0_0 x0.length n0_0)] : List Value).toArray w0 (FRet w0 F0 fun F' v => v = (.bool r)) := by
 have hs0 := HS.start hF
 refine calls_of (n := 59) (c := bodyOf Tryz.f26) Tryz.func26 (by kernel_rfl) (by kernel_rfl) (by kernel_rfl) ?_
 refine Sq (Rg [0] ?_)
 refine V 2 4 (mc (.bool false) (.bool false)) ?_
 refine Nss ?_
 refine Sq (Rg [0, 1, 2] ?_)
 refine V 5 32 (mv 0 (.slice a0_0 x0.length n0_0)) ?_
 refine V 6 3 (ln 5 32 a0_0 x0.length n0_0 40 3 24) ?_
 refine V 7 3 (run_move (x := (.const (vi 0))) (v := (vi 0)) rfl) ?_
 refine Nt ?_
 obtain ⟨o1, ho2, h3⟩ := bind_some h
 refine CWP.cut (fun f w => ∃ (s13 : Int) (F2 : Mem), o1 = .done s13 ∧ HS w0 F0 w F2 [] ∧ Mem.le F0 F2 ∧ f.d = [] ∧ f 0 = (.slice a0_0 x0.length n0_0)) ?_ ?_
 ·refine Bk ?_
  refine CWP.loop (by kernel_rfl) (fun m f w => ∃ (s4 : Int) (F1 : Mem), iter (air_ValidBands_L0 N x0) m s4 = some o1 ∧ HS w0 F0 w F1 [] ∧ Mem.le F0 F1 ∧ f.d = [] ∧ f 0 = (.slice a0_0 x0.length n0_0) ∧ f 5 = (.slice a0_0 x0.length n0_0) ∧ f 6 = (vi (x0.length : Int)) ∧ f 7 = (vi s4)) N ⟨0, F0, ho2, hs0, (Mem.le.refl _), rfl, rfl, rfl, rfl, rfl⟩ ?_
  rintro m19 f w5 ⟨s4, F1, hit20, hs6, le7, e8, e9, e10, e11, e12⟩
  obtain ⟨m21, fl22, rfl, hb23, hnx24⟩ := iter_step hit20
  refine Sq (Rg [0] ?_)
  refine V 8 0 (run_lss (t := 3) (t' := 3) (x := (.tmp 7)) (y := (.tmp 6)) (k := .i64) (a := s4) (b := (x0.length : Int)) e12 e11) ?_
  refine Nss ?_
  refine CWP.cond (t := (decide (s4 < (x0.length : Int)))) (by kernel_rfl) rfl (fun hb25 => ?_) (fun hb25 => ?_)
  ·have h26 := cond_t hb23 hb25
   refine Sc ?_
   refine thenQ_nrm ?_
   refine Sq ?_
   refine Bk ?_
   refine Sq (Rg [0, 1, 2, 3, 4, 5] ?_)
   refine V 9 3 (mv 7 (vi s4) e12) ?_
   obtain ⟨x27, hx28, h30⟩ := bind_some h26
   obtain ⟨hi29, hx28'⟩ := idx_spec hx28
   obtain ⟨b31, o32, C33, E34, fz35, rfl, hF37, hE38⟩ := SlA.open (SlA.mono hs0_0 le7) hx28'
   have hc40 := hE38 _ _ hx28'
   refine V 10 0 (run_index (t := 32) (x := (.tmp 5)) (y := (.tmp 7)) (b := b31) (o := o32) (E := 40) (s := 3) (by_ := 24) e10 e12 (by kernel_rfl) hi29) ?_
   refine V 11 40 (lx 40 10 0 3 true 3 (.agg (kBand x27)) (hs6.pers _ _ hF37) hc40) ?_
   refine Al 4 0 40 #[(vi 0), (vi 0), (vi 0)] hs6 (fun b41 w42 (hs43 : HS w0 F0 w42 F1 [(sb b41 #[(vi 0), (vi 0), (vi 0)] 40)]) => ?_)
   refine V 3 3 (ma 9 (vi s4)) ?_
   refine RWP.store (ty := 0) (g := none) (by kernel_rfl) rfl (x := (.tmp 4)) (y := (.tmp 11)) (t := 40) (gg := true) (s := 3) (v := (.agg (kBand x27))) (b := b41) (o := 0) (C := #[(vi 0), (vi 0), (vi 0)]) rfl rfl (by kernel_rfl) hs43 (k := 0) rfl rfl rfl rfl (C' := (kBand x27)) rfl (fun w44 (hs45 : HS w0 F0 w44 F1 [(sb b41 (kBand x27) 40)]) => ?_)
   refine Nss ?_
   obtain ⟨j51, hj58, h59⟩ := bind_some h30
   refine CWP.regionD (by kernel_rfl) (by kernel_rfl) (by kernel_rfl) (by kernel_rfl) (z := 43) (F := F1) (Lc := [(sb b41 (kBand x27) 40)]) (Lz := []) (l := [false, false, false, false, false, false, false, false, false, false, false, false, false, false, false, false, false, false, false, false, false, false, false, false, false, false, false, false, false, false, false, false, false, false, false, false, false, false, false, false, false, false, false]) (fuel := 43) (by kernel_rfl) (by kernel_rfl) hs45 (by simp) (by simp) (fun f w => ∃ (F3 : Mem), HS w0 F0 w F3 [] ∧ Mem.le F1 F3 ∧ f.d = [] ∧ f 0 = (.slice (some ⟨b31, o32, none⟩) x0.length n0_0) ∧ f 5 = (.slice (some ⟨b31, o32, none⟩) x0.length n0_0) ∧ f 6 = (vi (x0.length : Int)) ∧ f 7 = (vi s4) ∧ f 54 = (.bool j51)) (fun wd46 hw47 => ?_) ?_
   ·refine Dtl 0 12 0 (.pointer (some ⟨b41, 0, none⟩)) [tt, ff, ff, ff, ff, ff, ff, ff, ff, ff, ff, ff, ff, ff, ff, ff, ff, ff, ff, ff, ff, ff, ff, ff, ff, ff, ff, ff, ff, ff, ff, ff, ff, ff, ff, ff, ff, ff, ff, ff, ff, ff, ff] (fun _ hq => fa 40 4 0 0 1 b41 0 0) ?_
    refine Dtl 1 13 3 _ [tt, tt, ff, ff, ff, ff, ff, ff, ff, ff, ff, ff, ff, ff, ff, ff, ff, ff, ff, ff, ff, ff, ff, ff, ff, ff, ff, ff, ff, ff, ff, ff, ff, ff, ff, ff, ff, ff, ff, ff, ff, ff, ff] (fun _ hq => ld 3 12 b41 0 false 1 (vi x27.ID) (hq.1.2 0 _ _ rfl)) ?_
    refine DWP.one (i := 2) (by kernel_rfl) ?_
    obtain ⟨r60, hr61, h62⟩ := bind_some hj58
    refine DStep.call (l' := [true, true, true, false, false, false, false, false, false, false, false, false, false, false, false, false, false, false, false, false, false, false, false, false, false, false, false, false, false, false, false, false, false, false, false, false, false, false, false, false, false, false, false]) (zd := true) (by kernel_rfl) (by kernel_rfl) (by kernel_rfl) (dst := (some 14)) (ty := 4) (g := none) (by kernel_rfl) rfl (f0 := (.func 73)) (aos := #[(.tmp 13), (.const (vi 1)), (.const (vi 65535))]) (ats := #[3, 3, 3]) (fid := 73) (first := #[]) (cap := #[]) (args := [(vi x27.ID), (vi 1), (vi 65535)]) rfl co_air_within (rfl) hw47 (c_air_within N wd46 F1 hw47.pers (x27.ID) (1) (65535) _ hr61) ?_
    intro v63 F4 w64 hs65 le66 hp67
    obtain rfl := hp67
    refine Dtl 3 15 4 (.bool (!r60)) [tt, tt, tt, tt, ff, ff, ff, ff, ff, ff, ff, ff, ff, ff, ff, ff, ff, ff, ff, ff, ff, ff, ff, ff, ff, ff, ff, ff, ff, ff, ff, ff, ff, ff, ff, ff, ff, ff, ff, ff, ff, ff, ff] (fun _ hq => run_not (t := 4) (x := (.tmp 14)) (a := r60) rfl) ?_
    refine Dtl 4 16 4 _ [tt, tt, tt, tt, tt, ff, ff, ff, ff, ff, ff, ff, ff, ff, ff, ff, ff, ff, ff, ff, ff, ff, ff, ff, ff, ff, ff, ff, ff, ff, ff, ff, ff, ff, ff, ff, ff, ff, ff, ff, ff, ff, ff] (fun _ hq => mv 15 (.bool (!r60))) ?_
    refine DWP.split (!r60) (fun hb68 => ?_) (fun hb68 => ?_)
    ·have h69 := cond_t h62 hb68
     refine Dkl [(5, 17), (6, 18), (7, 19), (8, 20), (9, 21), (10, 22)] 4 false 16 hb68 [tt, tt, tt, tt, tt, tt, tt, tt, tt, tt, tt, ff, ff, ff, ff, ff, ff, ff, ff, ff, ff, ff, ff, ff, ff, ff, ff, ff, ff, ff, ff, ff, ff, ff, ff, ff, ff, ff, ff, ff, ff, ff, ff] ?_
     refine Dtl 11 23 4 _ [tt, tt, tt, tt, tt, tt, tt, tt, tt, tt, tt, tt, ff, ff, ff, ff, ff, ff, ff, ff, ff, ff, ff, ff, ff, ff, ff, ff, ff, ff, ff, ff, ff, ff, ff, ff, ff, ff, ff, ff, ff, ff, ff] (fun _ hq => p1 16 (.const (.bool true)) (.tmp 22) (.bool true) hb68) ?_
     refine Dtl 12 24 4 _ [tt, tt, tt, tt, tt, tt, tt, tt, tt, tt, tt, tt, tt, ff, ff, ff, ff, ff, ff, ff, ff, ff, ff, ff, ff, ff, ff, ff, ff, ff, ff, ff, ff, ff, ff, ff, ff, ff, ff, ff, ff, ff, ff] (fun _ hq => mv 23 (.bool true)) ?_
     refine Dkl [(13, 25), (14, 26), (15, 27)] 12 false 24 rfl [tt, tt, tt, tt, tt, tt, tt, tt, tt, tt, tt, tt, tt, tt, tt, tt, ff, ff, ff, ff, ff, ff, ff, ff, ff, ff, ff, ff, ff, ff, ff, ff, ff, ff, ff, ff, ff, ff, ff, ff, ff, ff, ff] ?_
     refine Dtl 16 28 4 _ [tt, tt, tt, tt, tt, tt, tt, tt, tt, tt, tt, tt, tt, tt, tt, tt, tt, ff, ff, ff, ff, ff, ff, ff, ff, ff, ff, ff, ff, ff, ff, ff, ff, ff, ff, ff, ff, ff, ff, ff, ff, ff, ff] (fun _ hq => p1 24 (.const (.bool true)) (.tmp 27) (.bool true) rfl) ?_
     refine Dtl 17 29 4 _ [tt, tt, tt, tt, tt, tt, tt, tt, tt, tt, tt, tt, tt, tt, tt, tt, tt, tt, ff, ff, ff, ff, ff, ff, ff, ff, ff, ff, ff, ff, ff, ff, ff, ff, ff, ff, ff, ff, ff, ff, ff, ff, ff] (fun _ hq => mv 28 (.bool true)) ?_
     refine Dkl [(18, 30), (19, 31), (20, 32)] 17 false 29 rfl [tt, tt, tt, tt, tt, tt, tt, tt, tt, tt, tt, tt, tt, tt, tt, tt, tt, tt, tt, tt, tt, ff, ff, ff, ff, ff, ff, ff, ff, ff, ff, ff, ff, ff, ff, ff, ff, ff, ff, ff, ff, ff, ff] ?_
     refine Dul [(21, 33), (22, 34), (23, 35), (24, 36), (25, 37), (26, 38)] 20 true 32 [tt, tt, tt, tt, tt, tt, tt, tt, tt, tt, tt, tt, tt, tt, tt, tt, tt, tt, tt, tt, tt, tt, tt, tt, tt, tt, tt, ff, ff, ff, ff, ff, ff, ff, ff, ff, ff, ff, ff, ff, ff, ff, ff] ?_
     refine Dul [(27, 39), (28, 40), (29, 41), (30, 42)] 20 true 32 [tt, tt, tt, tt, tt, tt, tt, tt, tt, tt, tt, tt, tt, tt, tt, tt, tt, tt, tt, tt, tt, tt, tt, tt, tt, tt, tt, tt, tt, tt, tt, ff, ff, ff, ff, ff, ff, ff, ff, ff, ff, ff, ff] ?_
     refine Dul [(31, 43), (32, 44), (33, 45), (34, 46), (35, 47), (36, 48)] 30 false 42 [tt, tt, tt, tt, tt, tt, tt, tt, tt, tt, tt, tt, tt, tt, tt, tt, tt, tt, tt, tt, tt, tt, tt, tt, tt, tt, tt, tt, tt, tt, tt, tt, tt, tt, tt, tt, tt, ff, ff, ff, ff, ff, ff] ?_
     refine Dul [(37, 49), (38, 50), (39, 51)] 30 false 42 [tt, tt, tt, tt, tt, tt, tt, tt, tt, tt, tt, tt, tt, tt, tt, tt, tt, tt, tt, tt, tt, tt, tt, tt, tt, tt, tt, tt, tt, tt, tt, tt, tt, tt, tt, tt, tt, tt, tt, tt, ff, ff, ff] ?_
     refine Dul [(40, 52)] 20 true 32 [tt, tt, tt, tt, tt, tt, tt, tt, tt, tt, tt, tt, tt, tt, tt, tt, tt, tt, tt, tt, tt, tt, tt, tt, tt, tt, tt, tt, tt, tt, tt, tt, tt, tt, tt, tt, tt, tt, tt, tt, tt, ff, ff] ?_
     refine Dkl [(41, 53)] 17 false 29 rfl [tt, tt, tt, tt, tt, tt, tt, tt, tt, tt, tt, tt, tt, tt, tt, tt, tt, tt, tt, tt, tt, tt, tt, tt, tt, tt, tt, tt, tt, tt, tt, tt, tt, tt, tt, tt, tt, tt, tt, tt, tt, tt, ff] ?_
     refine Dtl 42 54 4 _ [tt, tt, tt, tt, tt, tt, tt, tt, tt, tt, tt, tt, tt, tt, tt, tt, tt, tt, tt, tt, tt, tt, tt, tt, tt, tt, tt, tt, tt, tt, tt, tt, tt, tt, tt, tt, tt, tt, tt, tt, tt, tt, tt] (fun _ hq => p1 29 (.const (.bool true)) (.tmp 53) (.bool true) rfl) ?_
     obtain rfl := some_inj h69
     have hs70 : HS w0 F0 w64 F4 [] := hs65.drop 0
     exact DWP.done (by kernel_rfl) ⟨F4, hs70, le66, e8, e9, e10, e11, e12, rfl⟩
    ·have h71 := cond_f h62 hb68
     refine Dgl 5 17 0 (.pointer (some ⟨b41, 1, none⟩)) [tt, tt, tt, tt, tt, tt, ff, ff, ff, ff, ff, ff, ff, ff, ff, ff, ff, ff, ff, ff, ff, ff, ff, ff, ff, ff, ff, ff, ff, ff, ff, ff, ff, ff, ff, ff, ff, ff, ff, ff, ff, ff, ff] 4 false 16 hb68 (fun _ hq => fa 40 4 1 1 1 b41 0 1) ?_
     refine Dgl 6 18 3 _ [tt, tt, tt, tt, tt, tt, tt, ff, ff, ff, ff, ff, ff, ff, ff, ff, ff, ff, ff, ff, ff, ff, ff, ff, ff, ff, ff, ff, ff, ff, ff, ff, ff, ff, ff, ff, ff, ff, ff, ff, ff, ff, ff] 4 false 16 hb68 (fun _ hq => ld 3 17 b41 1 false 1 (vi x27.Lo) (hq.1.2 0 _ _ rfl)) ?_
     refine Dgl 7 19 0 (.pointer (some ⟨b41, 2, none⟩)) [tt, tt, tt, tt, tt, tt, tt, tt, ff, ff, ff, ff, ff, ff, ff, ff, ff, ff, ff, ff, ff, ff, ff, ff, ff, ff, ff, ff, ff, ff, ff, ff, ff, ff, ff, ff, ff, ff, ff, ff, ff, ff, ff] 4 false 16 hb68 (fun _ hq => fa 40 4 2 2 1 b41 0 2) ?_
     refine Dgl 8 20 3 _ [tt, tt, tt, tt, tt, tt, tt, tt, tt, ff, ff, ff, ff, ff, ff, ff, ff, ff, ff, ff, ff, ff, ff, ff, ff, ff, ff, ff, ff, ff, ff, ff, ff, ff, ff, ff, ff, ff, ff, ff, ff, ff, ff] 4 false 16 hb68 (fun _ hq => ld 3 19 b41 2 false 1 (vi x27.Hi) (hq.1.2 0 _ _ rfl)) ?_
     refine DWP.one (i := 9) (by kernel_rfl) ?_
     obtain ⟨r72, hr73, h74⟩ := bind_some h71
     refine DStep.call (l' := [true, true, true, true, true, true, true, true, true, true, false, false, false, false, false, false, false, false, false, false, false, false, false, false, false, false, false, false, false, false, false, false, false, false, false, false, false, false, false, false, false, false, false]) (zd := true) (by kernel_rfl) (by kernel_rfl) (by kernel_rfl) (dst := (some 21)) (ty := 4) (g := (some (4, false))) (by kernel_rfl) (gd_y (d := 16) (by kernel_rfl) rfl hb68) (f0 := (.func 73)) (aos := #[(.tmp 18), (.const (vi 1)), (.tmp 20)]) (ats := #[3, 3, 3]) (fid := 73) (first := #[]) (cap := #[]) (args := [(vi x27.Lo), (vi 1), (vi x27.Hi)]) rfl co_air_within (rfl) hs65 (c_air_within N w64 F4 hs65.pers (x27.Lo) (1) (x27.Hi) _ hr73) ?_
     intro v75 F5 w76 hs77 le78 hp79
     obtain rfl := hp79
     refine Dgl 10 22 4 (.bool (!r72)) [tt, tt, tt, tt, tt, tt, tt, tt, tt, tt, tt, ff, ff, ff, ff, ff, ff, ff, ff, ff, ff, ff, ff, ff, ff, ff, ff, ff, ff, ff, ff, ff, ff, ff, ff, ff, ff, ff, ff, ff, ff, ff, ff] 4 false 16 hb68 (fun _ hq => run_not (t := 4) (x := (.tmp 21)) (a := r72) rfl) ?_
     refine Dtl 11 23 4 _ [tt, tt, tt, tt, tt, tt, tt, tt, tt, tt, tt, tt, ff, ff, ff, ff, ff, ff, ff, ff, ff, ff, ff, ff, ff, ff, ff, ff, ff, ff, ff, ff, ff, ff, ff, ff, ff, ff, ff, ff, ff, ff, ff] (fun _ hq => p0 16 (.const (.bool true)) (.tmp 22) (.bool (!r72)) hb68) ?_
     refine Dtl 12 24 4 _ [tt, tt, tt, tt, tt, tt, tt, tt, tt, tt, tt, tt, tt, ff, ff, ff, ff, ff, ff, ff, ff, ff, ff, ff, ff, ff, ff, ff, ff, ff, ff, ff, ff, ff, ff, ff, ff, ff, ff, ff, ff, ff, ff] (fun _ hq => mv 23 (.bool (!r72))) ?_
     refine DWP.split (!r72) (fun hb80 => ?_) (fun hb80 => ?_)
     ·have h81 := cond_t h74 hb80
      refine Dkl [(13, 25), (14, 26), (15, 27)] 12 false 24 hb80 [tt, tt, tt, tt, tt, tt, tt, tt, tt, tt, tt, tt, tt, tt, tt, tt, ff, ff, ff, ff, ff, ff, ff, ff, ff, ff, ff, ff, ff, ff, ff, ff, ff, ff, ff, ff, ff, ff, ff, ff, ff, ff, ff] ?_
      refine Dtl 16 28 4 _ [tt, tt, tt, tt, tt, tt, tt, tt, tt, tt, tt, tt, tt, tt, tt, tt, tt, ff, ff, ff, ff, ff, ff, ff, ff, ff, ff, ff, ff, ff, ff, ff, ff, ff, ff, ff, ff, ff, ff, ff, ff, ff, ff] (fun _ hq => p1 24 (.const (.bool true)) (.tmp 27) (.bool true) hb80) ?_
      refine Dtl 17 29 4 _ [tt, tt, tt, tt, tt, tt, tt, tt, tt, tt, tt, tt, tt, tt, tt, tt, tt, tt, ff, ff, ff, ff, ff, ff, ff, ff, ff, ff, ff, ff, ff, ff, ff, ff, ff, ff, ff, ff, ff, ff, ff, ff, ff] (fun _ hq => mv 28 (.bool true)) ?_
      refine Dkl [(18, 30), (19, 31), (20, 32)] 17 false 29 rfl [tt, tt, tt, tt, tt, tt, tt, tt, tt, tt, tt, tt, tt, tt, tt, tt, tt, tt, tt, tt, tt, ff, ff, ff, ff, ff, ff, ff, ff, ff, ff, ff, ff, ff, ff, ff, ff, ff, ff, ff, ff, ff, ff] ?_
      refine Dul [(21, 33), (22, 34), (23, 35), (24, 36), (25, 37), (26, 38)] 20 true 32 [tt, tt, tt, tt, tt, tt, tt, tt, tt, tt, tt, tt, tt, tt, tt, tt, tt, tt, tt, tt, tt, tt, tt, tt, tt, tt, tt, ff, ff, ff, ff, ff, ff, ff, ff, ff, ff, ff, ff, ff, ff, ff, ff] ?_
      refine Dul [(27, 39), (28, 40), (29, 41), (30, 42)] 20 true 32 [tt, tt, tt, tt, tt, tt, tt, tt, tt, tt, tt, tt, tt, tt, tt, tt, tt, tt, tt, tt, tt, tt, tt, tt, tt, tt, tt, tt, tt, tt, tt, ff, ff, ff, ff, ff, ff, ff, ff, ff, ff, ff, ff] ?_
      refine Dul [(31, 43), (32, 44), (33, 45), (34, 46), (35, 47), (36, 48)] 30 false 42 [tt, tt, tt, tt, tt, tt, tt, tt, tt, tt, tt, tt, tt, tt, tt, tt, tt, tt, tt, tt, tt, tt, tt, tt, tt, tt, tt, tt, tt, tt, tt, tt, tt, tt, tt, tt, tt, ff, ff, ff, ff, ff, ff] ?_
      refine Dul [(37, 49), (38, 50), (39, 51)] 30 false 42 [tt, tt, tt, tt, tt, tt, tt, tt, tt, tt, tt, tt, tt, tt, tt, tt, tt, tt, tt, tt, tt, tt, tt, tt, tt, tt, tt, tt, tt, tt, tt, tt, tt, tt, tt, tt, tt, tt, tt, tt, ff, ff, ff] ?_
      refine Dul [(40, 52)] 20 true 32 [tt, tt, tt, tt, tt, tt, tt, tt, tt, tt, tt, tt, tt, tt, tt, tt, tt, tt, tt, tt, tt, tt, tt, tt, tt, tt, tt, tt, tt, tt, tt, tt, tt, tt, tt, tt, tt, tt, tt, tt, tt, ff, ff] ?_
      refine Dkl [(41, 53)] 17 false 29 rfl [tt, tt, tt, tt, tt, tt, tt, tt, tt, tt, tt, tt, tt, tt, tt, tt, tt, tt, tt, tt, tt, tt, tt, tt, tt, tt, tt, tt, tt, tt, tt, tt, tt, tt, tt, tt, tt, tt, tt, tt, tt, tt, ff] ?_
      refine Dtl 42 54 4 _ [tt, tt, tt, tt, tt, tt, tt, tt, tt, tt, tt, tt, tt, tt, tt, tt, tt, tt, tt, tt, tt, tt, tt, tt, tt, tt, tt, tt, tt, tt, tt, tt, tt, tt, tt, tt, tt, tt, tt, tt, tt, tt, tt] (fun _ hq => p1 29 (.const (.bool true)) (.tmp 53) (.bool true) rfl) ?_
      obtain rfl := some_inj h81
      have hs82 : HS w0 F0 w76 F5 [] := hs77.drop 0
      exact DWP.done (by kernel_rfl) ⟨F5, hs82, (le66.trans le78), e8, e9, e10, e11, e12, rfl⟩
     ·have h83 := cond_f h74 hb80
      refine Dgl 13 25 0 (.pointer (some ⟨b41, 2, none⟩)) [tt, tt, tt, tt, tt, tt, tt, tt, tt, tt, tt, tt, tt, tt, ff, ff, ff, ff, ff, ff, ff, ff, ff, ff, ff, ff, ff, ff, ff, ff, ff, ff, ff, ff, ff, ff, ff, ff, ff, ff, ff, ff, ff] 12 false 24 hb80 (fun _ hq => fa 40 4 2 2 1 b41 0 2) ?_
      refine Dgl 14 26 3 _ [tt, tt, tt, tt, tt, tt, tt, tt, tt, tt, tt, tt, tt, tt, tt, ff, ff, ff, ff, ff, ff, ff, ff, ff, ff, ff, ff, ff, ff, ff, ff, ff, ff, ff, ff, ff, ff, ff, ff, ff, ff, ff, ff] 12 false 24 hb80 (fun _ hq => ld 3 25 b41 2 false 1 (vi x27.Hi) (hq.1.2 0 _ _ rfl)) ?_
      refine Dgl 15 27 4 (.bool (decide (x27.Hi > 10000000))) [tt, tt, tt, tt, tt, tt, tt, tt, tt, tt, tt, tt, tt, tt, tt, tt, ff, ff, ff, ff, ff, ff, ff, ff, ff, ff, ff, ff, ff, ff, ff, ff, ff, ff, ff, ff, ff, ff, ff, ff, ff, ff, ff] 12 false 24 hb80 (fun _ hq => run_gtr (t := 3) (t' := 3) (x := (.tmp 26)) (y := (.const (vi 10000000))) (k := .i64) (a := x27.Hi) (b := 10000000) rfl rfl) ?_
      refine Dtl 16 28 4 _ [tt, tt, tt, tt, tt, tt, tt, tt, tt, tt, tt, tt, tt, tt, tt, tt, tt, ff, ff, ff, ff, ff, ff, ff, ff, ff, ff, ff, ff, ff, ff, ff, ff, ff, ff, ff, ff, ff, ff, ff, ff, ff, ff] (fun _ hq => p0 24 (.const (.bool true)) (.tmp 27) (.bool (decide (x27.Hi > 10000000))) hb80) ?_
      refine Dtl 17 29 4 _ [tt, tt, tt, tt, tt, tt, tt, tt, tt, tt, tt, tt, tt, tt, tt, tt, tt, tt, ff, ff, ff, ff, ff, ff, ff, ff, ff, ff, ff, ff, ff, ff, ff, ff, ff, ff, ff, ff, ff, ff, ff, ff, ff] (fun _ hq => mv 28 (.bool (decide (x27.Hi > 10000000)))) ?_
      refine DWP.split (decide (x27.Hi > 10000000)) (fun hb84 => ?_) (fun hb84 => ?_)
      ·have h85 := cond_t h83 hb84
       refine Dkl [(18, 30), (19, 31), (20, 32)] 17 false 29 hb84 [tt, tt, tt, tt, tt, tt, tt, tt, tt, tt, tt, tt, tt, tt, tt, tt, tt, tt, tt, tt, tt, ff, ff, ff, ff, ff, ff, ff, ff, ff, ff, ff, ff, ff, ff, ff, ff, ff, ff, ff, ff, ff, ff] ?_
       refine Dul [(21, 33), (22, 34), (23, 35), (24, 36), (25, 37), (26, 38)] 20 true 32 [tt, tt, tt, tt, tt, tt, tt, tt, tt, tt, tt, tt, tt, tt, tt, tt, tt, tt, tt, tt, tt, tt, tt, tt, tt, tt, tt, ff, ff, ff, ff, ff, ff, ff, ff, ff, ff, ff, ff, ff, ff, ff, ff] ?_
       refine Dul [(27, 39), (28, 40), (29, 41), (30, 42)] 20 true 32 [tt, tt, tt, tt, tt, tt, tt, tt, tt, tt, tt, tt, tt, tt, tt, tt, tt, tt, tt, tt, tt, tt, tt, tt, tt, tt, tt, tt, tt, tt, tt, ff, ff, ff, ff, ff, ff, ff, ff, ff, ff, ff, ff] ?_
       refine Dul [(31, 43), (32, 44), (33, 45), (34, 46), (35, 47), (36, 48)] 30 false 42 [tt, tt, tt, tt, tt, tt, tt, tt, tt, tt, tt, tt, tt, tt, tt, tt, tt, tt, tt, tt, tt, tt, tt, tt, tt, tt, tt, tt, tt, tt, tt, tt, tt, tt, tt, tt, tt, ff, ff, ff, ff, ff, ff] ?_
       refine Dul [(37, 49), (38, 50), (39, 51)] 30 false 42 [tt, tt, tt, tt, tt, tt, tt, tt, tt, tt, tt, tt, tt, tt, tt, tt, tt, tt, tt, tt, tt, tt, tt, tt, tt, tt, tt, tt, tt, tt, tt, tt, tt, tt, tt, tt, tt, tt, tt, tt, ff, ff, ff] ?_
       refine Dul [(40, 52)] 20 true 32 [tt, tt, tt, tt, tt, tt, tt, tt, tt, tt, tt, tt, tt, tt, tt, tt, tt, tt, tt, tt, tt, tt, tt, tt, tt, tt, tt, tt, tt, tt, tt, tt, tt, tt, tt, tt, tt, tt, tt, tt, tt, ff, ff] ?_
       refine Dkl [(41, 53)] 17 false 29 hb84 [tt, tt, tt, tt, tt, tt, tt, tt, tt, tt, tt, tt, tt, tt, tt, tt, tt, tt, tt, tt, tt, tt, tt, tt, tt, tt, tt, tt, tt, tt, tt, tt, tt, tt, tt, tt, tt, tt, tt, tt, tt, tt, ff] ?_
       refine Dtl 42 54 4 _ [tt, tt, tt, tt, tt, tt, tt, tt, tt, tt, tt, tt, tt, tt, tt, tt, tt, tt, tt, tt, tt, tt, tt, tt, tt, tt, tt, tt, tt, tt, tt, tt, tt, tt, tt, tt, tt, tt, tt, tt, tt, tt, tt] (fun _ hq => p1 29 (.const (.bool true)) (.tmp 53) (.bool true) hb84) ?_
       obtain rfl := some_inj h85
       have hs86 : HS w0 F0 w76 F5 [] := hs77.drop 0
       exact DWP.done (by kernel_rfl) ⟨F5, hs86, (le66.trans le78), e8, e9, e10, e11, e12, rfl⟩
      ·have h87 := cond_f h83 hb84
       refine Dgl 18 30 3 _ [tt, tt, tt, tt, tt, tt, tt, tt, tt, tt, tt, tt, tt, tt, tt, tt, tt, tt, tt, ff, ff, ff, ff, ff, ff, ff, ff, ff, ff, ff, ff, ff, ff, ff, ff, ff, ff, ff, ff, ff, ff, ff, ff] 17 false 29 hb84 (fun _ hq => mv 3 (vi s4)) ?_
       refine Dgl 19 31 4 (.bool (decide (s4 > 0))) [tt, tt, tt, tt, tt, tt, tt, tt, tt, tt, tt, tt, tt, tt, tt, tt, tt, tt, tt, tt, ff, ff, ff, ff, ff, ff, ff, ff, ff, ff, ff, ff, ff, ff, ff, ff, ff, ff, ff, ff, ff, ff, ff] 17 false 29 hb84 (fun _ hq => run_gtr (t := 3) (t' := 3) (x := (.tmp 30)) (y := (.const (vi 0))) (k := .i64) (a := s4) (b := 0) rfl rfl) ?_
       refine Dgl 20 32 4 _ [tt, tt, tt, tt, tt, tt, tt, tt, tt, tt, tt, tt, tt, tt, tt, tt, tt, tt, tt, tt, tt, ff, ff, ff, ff, ff, ff, ff, ff, ff, ff, ff, ff, ff, ff, ff, ff, ff, ff, ff, ff, ff, ff] 17 false 29 hb84 (fun _ hq => mv 31 (.bool (decide (s4 > 0)))) ?_
       refine DWP.split (decide (s4 > 0)) (fun hb88 => ?_) (fun hb88 => ?_)
       ·have h89 := cond_t h87 hb88
        refine Dgl 21 33 0 (.pointer (some ⟨b41, 0, none⟩)) [tt, tt, tt, tt, tt, tt, tt, tt, tt, tt, tt, tt, tt, tt, tt, tt, tt, tt, tt, tt, tt, tt, ff, ff, ff, ff, ff, ff, ff, ff, ff, ff, ff, ff, ff, ff, ff, ff, ff, ff, ff, ff, ff] 20 true 32 hb88 (fun _ hq => fa 40 4 0 0 1 b41 0 0) ?_
        refine Dgl 22 34 3 _ [tt, tt, tt, tt, tt, tt, tt, tt, tt, tt, tt, tt, tt, tt, tt, tt, tt, tt, tt, tt, tt, tt, tt, ff, ff, ff, ff, ff, ff, ff, ff, ff, ff, ff, ff, ff, ff, ff, ff, ff, ff, ff, ff] 20 true 32 hb88 (fun _ hq => ld 3 33 b41 0 false 1 (vi x27.ID) (hq.1.2 0 _ _ rfl)) ?_
        refine Dgl 23 35 32 _ [tt, tt, tt, tt, tt, tt, tt, tt, tt, tt, tt, tt, tt, tt, tt, tt, tt, tt, tt, tt, tt, tt, tt, tt, ff, ff, ff, ff, ff, ff, ff, ff, ff, ff, ff, ff, ff, ff, ff, ff, ff, ff, ff] 20 true 32 hb88 (fun _ hq => mv 0 (.slice (some ⟨b31, o32, none⟩) x0.length n0_0) e9) ?_
        refine Dgl 24 36 3 _ [tt, tt, tt, tt, tt, tt, tt, tt, tt, tt, tt, tt, tt, tt, tt, tt, tt, tt, tt, tt, tt, tt, tt, tt, tt, ff, ff, ff, ff, ff, ff, ff, ff, ff, ff, ff, ff, ff, ff, ff, ff, ff, ff] 20 true 32 hb88 (fun _ hq => mv 3 (vi s4)) ?_
        refine Dgl 25 37 3 (vi (W64 (s4 - 1))) [tt, tt, tt, tt, tt, tt, tt, tt, tt, tt, tt, tt, tt, tt, tt, tt, tt, tt, tt, tt, tt, tt, tt, tt, tt, tt, ff, ff, ff, ff, ff, ff, ff, ff, ff, ff, ff, ff, ff, ff, ff, ff, ff] 20 true 32 hb88 (fun _ hq => run_sub (t := 3) (t' := 3) (x := (.tmp 36)) (y := (.const (vi 1))) (k := .i64) (a := s4) (b := 1) rfl rfl) ?_
        obtain ⟨x90, hx91, h93⟩ := bind_some h89
        obtain ⟨hi92, hx91'⟩ := idx_spec hx91
        have hc95 := hE38 _ _ hx91'
        refine Dgl 26 38 0 (.pointer (some ⟨b31, (o32 + ((W64 (s4 - 1)) : Int).toNat * 3), none⟩)) [tt, tt, tt, tt, tt, tt, tt, tt, tt, tt, tt, tt, tt, tt, tt, tt, tt, tt, tt, tt, tt, tt, tt, tt, tt, tt, tt, ff, ff, ff, ff, ff, ff, ff, ff, ff, ff, ff, ff, ff, ff, ff, ff] 20 true 32 hb88 (fun _ hq => ix 32 35 37 b31 o32 40 3 24 hi92) ?_
        refine Dgl 27 39 0 (.pointer (some ⟨b31, (o32 + ((W64 (s4 - 1)) : Int).toNat * 3), none⟩)) [tt, tt, tt, tt, tt, tt, tt, tt, tt, tt, tt, tt, tt, tt, tt, tt, tt, tt, tt, tt, tt, tt, tt, tt, tt, tt, tt, tt, ff, ff, ff, ff, ff, ff, ff, ff, ff, ff, ff, ff, ff, ff, ff] 20 true 32 hb88 (fun _ hq => fa 40 38 0 0 1 b31 (o32 + ((W64 (s4 - 1)) : Int).toNat * 3) (o32 + ((W64 (s4 - 1)) : Int).toNat * 3)) ?_
        refine Dgl 28 40 3 _ [tt, tt, tt, tt, tt, tt, tt, tt, tt, tt, tt, tt, tt, tt, tt, tt, tt, tt, tt, tt, tt, tt, tt, tt, tt, tt, tt, tt, tt, ff, ff, ff, ff, ff, ff, ff, ff, ff, ff, ff, ff, ff, ff] 20 true 32 hb88 (fun _ hq => lx 3 39 0 3 false 1 (vi x90.ID) (hq.1.1 _ _ hF37) hc95) ?_
        refine Dgl 29 41 4 (.bool (decide (x27.ID ≤ x90.ID))) [tt, tt, tt, tt, tt, tt, tt, tt, tt, tt, tt, tt, tt, tt, tt, tt, tt, tt, tt, tt, tt, tt, tt, tt, tt, tt, tt, tt, tt, tt, ff, ff, ff, ff, ff, ff, ff, ff, ff, ff, ff, ff, ff] 20 true 32 hb88 (fun _ hq => run_leq (t := 3) (t' := 3) (x := (.tmp 34)) (y := (.tmp 40)) (k := .i64) (a := x27.ID) (b := x90.ID) rfl rfl) ?_
        refine Dgl 30 42 4 _ [tt, tt, tt, tt, tt, tt, tt, tt, tt, tt, tt, tt, tt, tt, tt, tt, tt, tt, tt, tt, tt, tt, tt, tt, tt, tt, tt, tt, tt, tt, tt, ff, ff, ff, ff, ff, ff, ff, ff, ff, ff, ff, ff] 20 true 32 hb88 (fun _ hq => mv 41 (.bool (decide (x27.ID ≤ x90.ID)))) ?_
        refine DWP.split (decide (x27.ID ≤ x90.ID)) (fun hb96 => ?_) (fun hb96 => ?_)
        ·have h97 := cond_t h93 hb96
         refine Dkl [(31, 43), (32, 44), (33, 45), (34, 46), (35, 47), (36, 48)] 30 false 42 hb96 [tt, tt, tt, tt, tt, tt, tt, tt, tt, tt, tt, tt, tt, tt, tt, tt, tt, tt, tt, tt, tt, tt, tt, tt, tt, tt, tt, tt, tt, tt, tt, tt, tt, tt, tt, tt, tt, ff, ff, ff, ff, ff, ff] ?_
         refine Dkl [(37, 49), (38, 50), (39, 51)] 30 false 42 hb96 [tt, tt, tt, tt, tt, tt, tt, tt, tt, tt, tt, tt, tt, tt, tt, tt, tt, tt, tt, tt, tt, tt, tt, tt, tt, tt, tt, tt, tt, tt, tt, tt, tt, tt, tt, tt, tt, tt, tt, tt, ff, ff, ff] ?_
         refine Dgl 40 52 4 _ [tt, tt, tt, tt, tt, tt, tt, tt, tt, tt, tt, tt, tt, tt, tt, tt, tt, tt, tt, tt, tt, tt, tt, tt, tt, tt, tt, tt, tt, tt, tt, tt, tt, tt, tt, tt, tt, tt, tt, tt, tt, ff, ff] 20 true 32 hb88 (fun _ hq => p1 42 (.const (.bool true)) (.tmp 51) (.bool true) hb96) ?_
         refine Dgl 41 53 4 _ [tt, tt, tt, tt, tt, tt, tt, tt, tt, tt, tt, tt, tt, tt, tt, tt, tt, tt, tt, tt, tt, tt, tt, tt, tt, tt, tt, tt, tt, tt, tt, tt, tt, tt, tt, tt, tt, tt, tt, tt, tt, tt, ff] 17 false 29 hb84 (fun _ hq => p1 32 (.tmp 52) (.const (.bool false)) (.bool true) hb88) ?_
         refine Dtl 42 54 4 _ [tt, tt, tt, tt, tt, tt, tt, tt, tt, tt, tt, tt, tt, tt, tt, tt, tt, tt, tt, tt, tt, tt, tt, tt, tt, tt, tt, tt, tt, tt, tt, tt, tt, tt, tt, tt, tt, tt, tt, tt, tt, tt, tt] (fun _ hq => p0 29 (.const (.bool true)) (.tmp 53) (.bool true) hb84) ?_
         obtain rfl := some_inj h97
         have hs98 : HS w0 F0 w76 F5 [] := hs77.drop 0
         exact DWP.done (by kernel_rfl) ⟨F5, hs98, (le66.trans le78), e8, e9, e10, e11, e12, rfl⟩
        ·have h99 := cond_f h93 hb96
         refine Dgl 31 43 0 (.pointer (some ⟨b41, 1, none⟩)) [tt, tt, tt, tt, tt, tt, tt, tt, tt, tt, tt, tt, tt, tt, tt, tt, tt, tt, tt, tt, tt, tt, tt, tt, tt, tt, tt, tt, tt, tt, tt, tt, ff, ff, ff, ff, ff, ff, ff, ff, ff, ff, ff] 30 false 42 hb96 (fun _ hq => fa 40 4 1 1 1 b41 0 1) ?_
         refine Dgl 32 44 3 _ [tt, tt, tt, tt, tt, tt, tt, tt, tt, tt, tt, tt, tt, tt, tt, tt, tt, tt, tt, tt, tt, tt, tt, tt, tt, tt, tt, tt, tt, tt, tt, tt, tt, ff, ff, ff, ff, ff, ff, ff, ff, ff, ff] 30 false 42 hb96 (fun _ hq => ld 3 43 b41 1 false 1 (vi x27.Lo) (hq.1.2 0 _ _ rfl)) ?_
         refine Dgl 33 45 32 _ [tt, tt, tt, tt, tt, tt, tt, tt, tt, tt, tt, tt, tt, tt, tt, tt, tt, tt, tt, tt, tt, tt, tt, tt, tt, tt, tt, tt, tt, tt, tt, tt, tt, tt, ff, ff, ff, ff, ff, ff, ff, ff, ff] 30 false 42 hb96 (fun _ hq => mv 0 (.slice (some ⟨b31, o32, none⟩) x0.length n0_0) e9) ?_
         refine Dgl 34 46 3 _ [tt, tt, tt, tt, tt, tt, tt, tt, tt, tt, tt, tt, tt, tt, tt, tt, tt, tt, tt, tt, tt, tt, tt, tt, tt, tt, tt, tt, tt, tt, tt, tt, tt, tt, tt, ff, ff, ff, ff, ff, ff, ff, ff] 30 false 42 hb96 (fun _ hq => mv 3 (vi s4)) ?_
         refine Dgl 35 47 3 (vi (W64 (s4 - 1))) [tt, tt, tt, tt, tt, tt, tt, tt, tt, tt, tt, tt, tt, tt, tt, tt, tt, tt, tt, tt, tt, tt, tt, tt, tt, tt, tt, tt, tt, tt, tt, tt, tt, tt, tt, tt, ff, ff, ff, ff, ff, ff, ff] 30 false 42 hb96 (fun _ hq => run_sub (t := 3) (t' := 3) (x := (.tmp 46)) (y := (.const (vi 1))) (k := .i64) (a := s4) (b := 1) rfl rfl) ?_
         obtain ⟨x100, hx101, h103⟩ := bind_some h99
         obtain ⟨hi102, hx101'⟩ := idx_spec hx101
         have hc105 := hE38 _ _ hx101'
         refine Dgl 36 48 0 (.pointer (some ⟨b31, (o32 + ((W64 (s4 - 1)) : Int).toNat * 3), none⟩)) [tt, tt, tt, tt, tt, tt, tt, tt, tt, tt, tt, tt, tt, tt, tt, tt, tt, tt, tt, tt, tt, tt, tt, tt, tt, tt, tt, tt, tt, tt, tt, tt, tt, tt, tt, tt, tt, ff, ff, ff, ff, ff, ff] 30 false 42 hb96 (fun _ hq => ix 32 45 47 b31 o32 40 3 24 hi102) ?_
         refine Dgl 37 49 0 (.pointer (some ⟨b31, ((o32 + ((W64 (s4 - 1)) : Int).toNat * 3) + 2), none⟩)) [tt, tt, tt, tt, tt, tt, tt, tt, tt, tt, tt, tt, tt, tt, tt, tt, tt, tt, tt, tt, tt, tt, tt, tt, tt, tt, tt, tt, tt, tt, tt, tt, tt, tt, tt, tt, tt, tt, ff, ff, ff, ff, ff] 30 false 42 hb96 (fun _ hq => fa 40 48 2 2 1 b31 (o32 + ((W64 (s4 - 1)) : Int).toNat * 3) ((o32 + ((W64 (s4 - 1)) : Int).toNat * 3) + 2)) ?_
         refine Dgl 38 50 3 _ [tt, tt, tt, tt, tt, tt, tt, tt, tt, tt, tt, tt, tt, tt, tt, tt, tt, tt, tt, tt, tt, tt, tt, tt, tt, tt, tt, tt, tt, tt, tt, tt, tt, tt, tt, tt, tt, tt, tt, ff, ff, ff, ff] 30 false 42 hb96 (fun _ hq => lx 3 49 2 3 false 1 (vi x100.Hi) (hq.1.1 _ _ hF37) hc105) ?_
         refine Dgl 39 51 4 (.bool (decide (x27.Lo ≤ x100.Hi))) [tt, tt, tt, tt, tt, tt, tt, tt, tt, tt, tt, tt, tt, tt, tt, tt, tt, tt, tt, tt, tt, tt, tt, tt, tt, tt, tt, tt, tt, tt, tt, tt, tt, tt, tt, tt, tt, tt, tt, tt, ff, ff, ff] 30 false 42 hb96 (fun _ hq => run_leq (t := 3) (t' := 3) (x := (.tmp 44)) (y := (.tmp 50)) (k := .i64) (a := x27.Lo) (b := x100.Hi) rfl rfl) ?_
         refine Dgl 40 52 4 _ [tt, tt, tt, tt, tt, tt, tt, tt, tt, tt, tt, tt, tt, tt, tt, tt, tt, tt, tt, tt, tt, tt, tt, tt, tt, tt, tt, tt, tt, tt, tt, tt, tt, tt, tt, tt, tt, tt, tt, tt, tt, ff, ff] 20 true 32 hb88 (fun _ hq => p0 42 (.const (.bool true)) (.tmp 51) (.bool (decide (x27.Lo ≤ x100.Hi))) hb96) ?_
         refine Dgl 41 53 4 _ [tt, tt, tt, tt, tt, tt, tt, tt, tt, tt, tt, tt, tt, tt, tt, tt, tt, tt, tt, tt, tt, tt, tt, tt, tt, tt, tt, tt, tt, tt, tt, tt, tt, tt, tt, tt, tt, tt, tt, tt, tt, tt, ff] 17 false 29 hb84 (fun _ hq => p1 32 (.tmp 52) (.const (.bool false)) (.bool (decide (x27.Lo ≤ x100.Hi))) hb88) ?_
         refine Dtl 42 54 4 _ [tt, tt, tt, tt, tt, tt, tt, tt, tt, tt, tt, tt, tt, tt, tt, tt, tt, tt, tt, tt, tt, tt, tt, tt, tt, tt, tt, tt, tt, tt, tt, tt, tt, tt, tt, tt, tt, tt, tt, tt, tt, tt, tt] (fun _ hq => p0 29 (.const (.bool true)) (.tmp 53) (.bool (decide (x27.Lo ≤ x100.Hi))) hb84) ?_
         obtain rfl := some_inj h103
         have hs106 : HS w0 F0 w76 F5 [] := hs77.drop 0
         exact DWP.done (by kernel_rfl) ⟨F5, hs106, (le66.trans le78), e8, e9, e10, e11, e12, rfl⟩
       ·have h107 := cond_f h87 hb88
        refine Dkl [(21, 33), (22, 34), (23, 35), (24, 36), (25, 37), (26, 38)] 20 true 32 hb88 [tt, tt, tt, tt, tt, tt, tt, tt, tt, tt, tt, tt, tt, tt, tt, tt, tt, tt, tt, tt, tt, tt, tt, tt, tt, tt, tt, ff, ff, ff, ff, ff, ff, ff, ff, ff, ff, ff, ff, ff, ff, ff, ff] ?_
        refine Dkl [(27, 39), (28, 40), (29, 41), (30, 42)] 20 true 32 hb88 [tt, tt, tt, tt, tt, tt, tt, tt, tt, tt, tt, tt, tt, tt, tt, tt, tt, tt, tt, tt, tt, tt, tt, tt, tt, tt, tt, tt, tt, tt, tt, ff, ff, ff, ff, ff, ff, ff, ff, ff, ff, ff, ff] ?_
        refine Dul [(31, 43), (32, 44), (33, 45), (34, 46), (35, 47), (36, 48)] 30 false 42 [tt, tt, tt, tt, tt, tt, tt, tt, tt, tt, tt, tt, tt, tt, tt, tt, tt, tt, tt, tt, tt, tt, tt, tt, tt, tt, tt, tt, tt, tt, tt, tt, tt, tt, tt, tt, tt, ff, ff, ff, ff, ff, ff] ?_
        refine Dul [(37, 49), (38, 50), (39, 51)] 30 false 42 [tt, tt, tt, tt, tt, tt, tt, tt, tt, tt, tt, tt, tt, tt, tt, tt, tt, tt, tt, tt, tt, tt, tt, tt, tt, tt, tt, tt, tt, tt, tt, tt, tt, tt, tt, tt, tt, tt, tt, tt, ff, ff, ff] ?_
        refine Dkl [(40, 52)] 20 true 32 hb88 [tt, tt, tt, tt, tt, tt, tt, tt, tt, tt, tt, tt, tt, tt, tt, tt, tt, tt, tt, tt, tt, tt, tt, tt, tt, tt, tt, tt, tt, tt, tt, tt, tt, tt, tt, tt, tt, tt, tt, tt, tt, ff, ff] ?_
        refine Dgl 41 53 4 _ [tt, tt, tt, tt, tt, tt, tt, tt, tt, tt, tt, tt, tt, tt, tt, tt, tt, tt, tt, tt, tt, tt, tt, tt, tt, tt, tt, tt, tt, tt, tt, tt, tt, tt, tt, tt, tt, tt, tt, tt, tt, tt, ff] 17 false 29 hb84 (fun _ hq => p0 32 (.tmp 52) (.const (.bool false)) (.bool false) hb88) ?_
        refine Dtl 42 54 4 _ [tt, tt, tt, tt, tt, tt, tt, tt, tt, tt, tt, tt, tt, tt, tt, tt, tt, tt, tt, tt, tt, tt, tt, tt, tt, tt, tt, tt, tt, tt, tt, tt, tt, tt, tt, tt, tt, tt, tt, tt, tt, tt, tt] (fun _ hq => p0 29 (.const (.bool true)) (.tmp 53) (.bool false) hb84) ?_
        obtain rfl := some_inj h107
        have hs108 : HS w0 F0 w76 F5 [] := hs77.drop 0
        exact DWP.done (by kernel_rfl) ⟨F5, hs108, (le66.trans le78), e8, e9, e10, e11, e12, rfl⟩
   ·rintro f w48 ⟨F3, hs49, le50, e52, e53, e54, e55, e56, e57⟩
    refine thenQ_nrm ?_
    refine CWP.cond (t := j51) (by kernel_rfl) e57 (fun hb109 => ?_) (fun hb109 => ?_)
    ·have h110 := cond_t h59 hb109
     refine Sq (Rg [0] ?_)
     refine V 2 4 (mc (.bool false) (.bool false)) ?_
     refine Nt ?_
     refine CWP.ret (by kernel_rfl) ?_
     refine blockQ_ret ?_
     refine thenQ_ret ?_
     refine thenQ_ret ?_
     refine blockQ_ret ?_
     have hret := iter_ret h110 hnx24
     subst hret
     refine .inr ?_
     refine thenQ_ret ?_
     have hfin := some_inj h3
     subst hfin
     exact ⟨e52, (.bool false), res_of (l := [.tmp 2]) (by kernel_rfl) (vs := [(.bool false)]) ⟨rfl, trivial⟩, (.bool false), F3, rfl, hs49.clear, rfl⟩
    ·have h111 := cond_f h59 hb109
     refine Sc ?_
     refine blockQ_nrm ?_
     refine thenQ_nrm ?_
     refine Rg [0, 1] ?_
     refine V 55 3 (run_add (t := 3) (t' := 3) (x := (.tmp 7)) (y := (.const (vi 1))) (k := .i64) (a := s4) (b := 1) e56 rfl) ?_
     refine V 7 3 (mv 55 (vi (W64 (s4 + 1)))) ?_
     refine RWP.nil ?_
     have hn112 := iter_next h111 hnx24
     exact ⟨m21, Nat.lt_succ_self _, (W64 (s4 + 1)), F3, hn112, hs49, (le7.trans le50), e52, e53, e54, e55, rfl⟩
  ·have h113 := cond_f hb23 hb25
   refine CWP.exit (by kernel_rfl) ?_
   refine thenQ_ex ?_
   refine thenQ_ex ?_
   refine blockQ_hit rfl ?_
   have ho114 := iter_done h113 hnx24
   exact .inl ⟨rfl, s4, F1, ho114, hs6, le7, e8, e9⟩
 ·rintro f w14 ⟨s13, F2, rfl, hs15, le16, e17, e18⟩
  have h115 := k_done h3
  refine thenQ_nrm ?_
  refine Sq (Rg [0, 1, 2, 3] ?_)
  refine V 56 32 (mv 0 (.slice a0_0 x0.length n0_0) e18) ?_
  refine V 57 3 (ln 56 32 a0_0 x0.length n0_0 40 3 24) ?_
  refine V 58 4 (run_leq (t := 3) (t' := 3) (x := (.tmp 57)) (y := (.const (vi 16))) (k := .i64) (a := (x0.length : Int)) (b := 16) rfl rfl) ?_
  refine V 2 4 (ma 58 (.bool (decide ((x0.length : Int) ≤ 16)))) ?_
  refine Nt ?_
  refine CWP.ret (by kernel_rfl) ?_
  have hfin := some_inj h115
  subst hfin
  exact ⟨e17, (.bool (decide ((x0.length : Int) ≤ 16))), res_of (l := [.tmp 2]) (by kernel_rfl) (vs := [(.bool (decide ((x0.length : Int) ≤ 16)))]) ⟨rfl, trivial⟩, (.bool (decide ((x0.length : Int) ≤ 16))), F2, rfl, hs15.clear, rfl⟩
end Go.Proofs.YtlddakefmfcblaaGreatDoor
namespace Go.Proofs.YtlddakefmfcblaaGreatDoor
open Go.Proofs
def air_wrongBands (N : Nat) (x0 : (List Band)) (x1 : Int) : Option Int :=
 ((air_ValidBands N x0).bind fun r1 => (bif (!r1) then some 11 else ((air_within N x1 1 10000000).bind fun r12 => (bif (!r12) then some 1 else some 0))))
theorem co_air_wrongBands : CallOk Tryz.prog 68 := fun _ _ => by kernel_rfl
set_option maxHeartbeats 4000000 in
set_option maxRecDepth 100000 in
theorem c_air_wrongBands (N : Nat) (w0 : World) (F0 : Mem) (hF : ∀ b o, F0 b = some o → w0.heap[b]? = some o) (x0 : (List Band)) (a0_0 : Option Addr) (n0_0 : Nat) (hb0_0 : LC x0.length n0_0) (hs0_0 : SlA tBand F0 a0_0 x0) (x1 : Int) (r : Int) (h : air_wrongBands N x0 x1 = some r) :
  Calls Tryz.prog 68 ([(.slice a0_0 x0.length n0_0), (vi x1)] : List Value).toArray w0 (FRet w0 F0 fun F' v => v = (vi r)) := by
 have hs0 := HS.start hF
 refine calls_of (n := 13) (c := bodyOf Tryz.f68) Tryz.func68 (by kernel_rfl) (by kernel_rfl) (by kernel_rfl) ?_
 refine Sq (Rg [0] ?_)
 refine V 4 23 (mc (vi 0) (vi 0)) ?_
 refine Nss ?_
 refine Bk ?_
 refine Sq (Rg [0, 1, 2, 3] ?_)
 refine V 6 32 (mv 0 (.slice a0_0 x0.length n0_0)) ?_
 obtain ⟨r1, hr2, h3⟩ := bind_some h
 refine Cl 7 4 26 #[(.tmp 6)] #[32] co_air_ValidBands hs0 (c_air_ValidBands N w0 F0 hs0.pers (x0) a0_0 n0_0 hb0_0 hs0_0 _ hr2) ?_
 intro v4 F1 w5 hs6 le7 hp8
 obtain rfl := hp8
 refine V 8 4 (run_not (t := 4) (x := (.tmp 7)) (a := r1) rfl) ?_
 refine V 5 4 (ma 8 (.bool (!r1))) ?_
 refine Nt ?_
 refine CWP.cond (t := (!r1)) (by kernel_rfl) rfl (fun hb9 => ?_) (fun hb9 => ?_)
 ·have h10 := cond_t h3 hb9
  refine Sq (Rg [0] ?_)
  refine V 4 23 (mc (vi 11) (vi 11)) ?_
  refine Nt ?_
  refine CWP.ret (by kernel_rfl) ?_
  refine blockQ_ret ?_
  refine thenQ_ret ?_
  have hfin := some_inj h10
  subst hfin
  exact ⟨rfl, (vi 11), res_of (l := [.tmp 4]) (by kernel_rfl) (vs := [(vi 11)]) ⟨rfl, trivial⟩, (vi 11), F1, rfl, hs6.clear, rfl⟩
 ·have h11 := cond_f h3 hb9
  refine Sq (Rg [0, 1, 2, 3] ?_)
  refine V 10 3 (mv 1 (vi x1)) ?_
  obtain ⟨r12, hr13, h14⟩ := bind_some h11
  refine Cl 11 4 73 #[(.tmp 10), (.const (vi 1)), (.const (vi 10000000))] #[3, 3, 3] co_air_within hs6 (c_air_within N w5 F1 hs6.pers (x1) (1) (10000000) _ hr13) ?_
  intro v15 F2 w16 hs17 le18 hp19
  obtain rfl := hp19
  refine V 12 4 (run_not (t := 4) (x := (.tmp 11)) (a := r12) rfl) ?_
  refine V 9 4 (ma 12 (.bool (!r12))) ?_
  refine Nt ?_
  refine CWP.cond (t := (!r12)) (by kernel_rfl) rfl (fun hb20 => ?_) (fun hb20 => ?_)
  ·have h21 := cond_t h14 hb20
   refine Sq (Rg [0] ?_)
   refine V 4 23 (mc (vi 1) (vi 1)) ?_
   refine Nt ?_
   refine CWP.ret (by kernel_rfl) ?_
   refine blockQ_ret ?_
   refine thenQ_ret ?_
   have hfin := some_inj h21
   subst hfin
   exact ⟨rfl, (vi 1), res_of (l := [.tmp 4]) (by kernel_rfl) (vs := [(vi 1)]) ⟨rfl, trivial⟩, (vi 1), F2, rfl, hs17.clear, rfl⟩
  ·have h22 := cond_f h14 hb20
   refine Sc ?_
   refine blockQ_nrm ?_
   refine thenQ_nrm ?_
   refine Sq (Rg [0] ?_)
   refine V 4 23 (mc (vi 0) (vi 0)) ?_
   refine Nt ?_
   refine CWP.ret (by kernel_rfl) ?_
   have hfin := some_inj h22
   subst hfin
   exact ⟨rfl, (vi 0), res_of (l := [.tmp 4]) (by kernel_rfl) (vs := [(vi 0)]) ⟨rfl, trivial⟩, (vi 0), F2, rfl, hs17.clear, rfl⟩
end Go.Proofs.YtlddakefmfcblaaGreatDoor
namespace Go.Proofs.YtlddakefmfcblaaGreatDoor
open Go.Proofs
def air_Nearest_1 (N : Nat) (x0 : Band) (z0 : Int) : Option Int :=
 some (max (max 0 (W64 (x0.Lo - z0))) (W64 (z0 - x0.Hi)))
theorem co_air_Nearest_1 : CallOk Tryz.prog 69 := fun _ _ => by kernel_rfl
set_option maxHeartbeats 4000000 in
set_option maxRecDepth 100000 in
theorem c_air_Nearest_1 (N : Nat) (w0 : World) (F0 : Mem) (hF : ∀ b o, F0 b = some o → w0.heap[b]? = some o) (x0 : Band) (bz0 : Nat) (z0 : Int) (hz0 : F0 bz0 = some (oc #[(vi z0)] 3)) (r : Int) (h : air_Nearest_1 N x0 z0 = some r) :
  Calls Tryz.prog 69 ([(.agg (kBand x0)), (.pointer (some ⟨bz0, 0, none⟩))] : List Value).toArray w0 (FRet w0 F0 fun F' v => v = (vi r)) := by
 have hs0 := HS.start hF
 refine calls_of (n := 13) (c := bodyOf Tryz.f69) Tryz.func69 (by kernel_rfl) (by kernel_rfl) (by kernel_rfl) ?_
 refine Sq (Rg [0, 1] ?_)
 refine Bx 2 0 0 40 (kBand x0) hs0 (fun b1 w2 (hs3 : HS w0 F0 w2 F0 [(sb b1 (kBand x0) 40)]) => ?_)
 refine V 3 3 (mc (vi 0) (vi 0)) ?_
 refine Nss (Rg [0, 1, 2, 3, 4, 5, 6, 7, 8, 9] ?_)
 refine V 4 0 (fa 40 2 1 1 1 b1 0 1) ?_
 refine V 5 3 (ld 3 4 b1 1 false 1 (vi x0.Lo) (hs3.ownAt (k := 0) rfl)) ?_
 refine V 6 3 (ld 3 1 bz0 0 false 1 (vi z0) (hs3.pers _ _ hz0)) ?_
 refine V 7 3 (run_sub (t := 3) (t' := 3) (x := (.tmp 5)) (y := (.tmp 6)) (k := .i64) (a := x0.Lo) (b := z0) rfl rfl) ?_
 refine V 8 3 (ld 3 1 bz0 0 false 1 (vi z0) (hs3.pers _ _ hz0)) ?_
 refine V 9 0 (fa 40 2 2 2 1 b1 0 2) ?_
 refine V 10 3 (ld 3 9 b1 2 false 1 (vi x0.Hi) (hs3.ownAt (k := 0) rfl)) ?_
 refine V 11 3 (run_sub (t := 3) (t' := 3) (x := (.tmp 8)) (y := (.tmp 10)) (k := .i64) (a := z0) (b := x0.Hi) rfl rfl) ?_
 refine V 12 3 (run_max3 (x := (.const (vi 0))) (y := (.tmp 7)) (z := (.tmp 11)) (ats := #[3, 3, 3]) (a := 0) (b := (W64 (x0.Lo - z0))) (c := (W64 (z0 - x0.Hi))) rfl rfl rfl) ?_
 refine V 3 3 (ma 12 (vi (max (max 0 (W64 (x0.Lo - z0))) (W64 (z0 - x0.Hi))))) ?_
 refine Nt ?_
 refine CWP.ret (by kernel_rfl) ?_
 have hfin := some_inj h
 subst hfin
 exact ⟨rfl, (vi (max (max 0 (W64 (x0.Lo - z0))) (W64 (z0 - x0.Hi)))), res_of (l := [.tmp 3]) (by kernel_rfl) (vs := [(vi (max (max 0 (W64 (x0.Lo - z0))) (W64 (z0 - x0.Hi))))]) ⟨rfl, trivial⟩, (vi (max (max 0 (W64 (x0.Lo - z0))) (W64 (z0 - x0.Hi)))), F0, rfl, hs3.clear, rfl⟩
end Go.Proofs.YtlddakefmfcblaaGreatDoor
namespace Go.Proofs.YtlddakefmfcblaaGreatDoor
open Go.Proofs
def slices_MinFunc_api_Band_api_Band_L0 (N : Nat) (x0 : (List Band)) (x1 : (Band → Band → Option Int)) (x7 : Band) : (Int × Int × Int × Int) → Option (Flow Band (Int × Int × Int × Int)) := fun s29 =>
 (bif (decide (s29.1 < (x0.length : Int))) then (((idx x0 s29.1).bind fun x69 => ((x1 x69 ({ ID := s29.2.1, Lo := s29.2.2.1, Hi := s29.2.2.2 } : Band)).bind fun r75 => some (decide (r75 < 0)))).bind fun j59 => ((bif j59 then ((idx x0 s29.1).bind fun x97 => some (x97.ID, x97.Lo, x97.Hi)) else some (s29.2.1, s29.2.2.1, s29.2.2.2)).bind fun j86 => some (.next ((W64 (s29.1 + 1)), j86.1, j86.2.1, j86.2.2)))) else some (.done (s29.1, s29.2.1, s29.2.2.1, s29.2.2.2)))
def slices_MinFunc_api_Band_api_Band (N : Nat) (x0 : (List Band)) (x1 : (Band → Band → Option Int)) : Option Band :=
 (bif (decide ((x0.length : Int) < 1)) then none else ((idx x0 0).bind fun x7 => ((iter (slices_MinFunc_api_Band_api_Band_L0 N x0 x1 x7) N (1, x7.ID, x7.Lo, x7.Hi)).bind fun o => o.k (fun r => some r) (fun s39 => some ({ ID := s39.2.1, Lo := s39.2.2.1, Hi := s39.2.2.2 } : Band)))))
theorem co_slices_MinFunc_api_Band_api_Band : CallOk Tryz.prog 70 := fun _ _ => by kernel_rfl
set_option maxHeartbeats 4000000 in
set_option maxRecDepth 100000 in
theorem c_slices_MinFunc_api_Band_api_Band (N : Nat) (w0 : World) (F0 : Mem) (hF : ∀ b o, F0 b = some o → w0.heap[b]? = some o) (x0 : (List Band)) (a0_0 : Option Addr) (n0_0 : Nat) (hb0_0 : LC x0.length n0_0) (hs0_0 : SlA tBand F0 a0_0 x0) (gx1 : FuncId) (fx1 kx1 : List Value) (x1 : Band → Band → Option Int) (hox1 : CallOk Tryz.prog gx1) (hpx1 : Fn93 F0 gx1 fx1 kx1 x1) (r : Band) (h : slices_MinFunc_api_Band_api_Band N x0 x1 = some r) :
  Calls Tryz.prog 70 ([(.slice a0_0 x0.length n0_0), (.func (.func gx1) fx1.toArray kx1.toArray)] : List Value).toArray w0 (FRet w0 F0 fun F' v => v = (.agg (kBand r))) := by
 have hs0 := HS.start hF
 refine calls_of (n := 33) (c := bodyOf Tryz.f70) Tryz.func70 (by kernel_rfl) (by kernel_rfl) (by kernel_rfl) ?_
 refine Sq (Rg [0] ?_)
 refine Al 4 0 40 #[(vi 0), (vi 0), (vi 0)] hs0 (fun b1 w2 (hs3 : HS w0 F0 w2 F0 [(sb b1 #[(vi 0), (vi 0), (vi 0)] 40)]) => ?_)
 refine Nss ?_
 refine Sq (Rg [0, 1, 2] ?_)
 refine V 7 32 (mv 0 (.slice a0_0 x0.length n0_0)) ?_
 refine V 8 3 (ln 7 32 a0_0 x0.length n0_0 40 3 24) ?_
 refine V 9 4 (run_lss (t := 3) (t' := 3) (x := (.tmp 8)) (y := (.const (vi 1))) (k := .i64) (a := (x0.length : Int)) (b := 1) rfl rfl) ?_
 refine Nt ?_
 refine CWP.cond (t := (decide ((x0.length : Int) < 1))) (by kernel_rfl) rfl (fun hb4 => ?_) (fun hb4 => ?_)
 ·have h5 := cond_t h hb4
  refine Rg [0, 1] ?_
  refine V 10 20 (run_mkIface' (t := 9) (x := (.const (.string ⟨([115, 108, 105, 99, 101, 115, 46, 77, 105, 110, 70, 117, 110, 99, 58, 32, 101, 109, 112, 116, 121, 32, 108, 105, 115, 116] : List UInt8).toArray⟩))) (v := (.string ⟨(([115, 108, 105, 99, 101, 115, 46, 77, 105, 110, 70, 117, 110, 99, 58, 32, 101, 109, 112, 116, 121, 32, 108, 105, 115, 116] : List UInt8)).toArray⟩)) rfl (by kernel_rfl)) ?_
  cases h5
 ·have h6 := cond_f h hb4
  refine Sc ?_
  refine thenQ_nrm ?_
  refine Sq (Rg [0, 1, 2, 3, 4] ?_)
  refine V 11 32 (mv 0 (.slice a0_0 x0.length n0_0)) ?_
  obtain ⟨x7, hx8, h10⟩ := bind_some h6
  obtain ⟨hi9, hx8'⟩ := idx_spec hx8
  obtain ⟨b11, o12, C13, E14, fz15, rfl, hF17, hE18⟩ := SlA.open hs0_0 hx8'
  have hc20 := hE18 _ _ hx8'
  refine V 12 0 (run_index (t := 32) (x := (.tmp 11)) (y := (.const (vi 0))) (b := b11) (o := o12) (E := 40) (s := 3) (by_ := 24) rfl rfl (by kernel_rfl) hi9) ?_
  refine V 13 40 (lx 40 12 0 3 true 3 (.agg (kBand x7)) (hs3.pers _ _ hF17) hc20) ?_
  refine Al 5 0 40 #[(vi 0), (vi 0), (vi 0)] hs3 (fun b21 w22 (hs23 : HS w0 F0 w22 F0 [(sb b21 #[(vi 0), (vi 0), (vi 0)] 40), (sb b1 #[(vi 0), (vi 0), (vi 0)] 40)]) => ?_)
  refine RWP.store (ty := 0) (g := none) (by kernel_rfl) rfl (x := (.tmp 5)) (y := (.tmp 13)) (t := 40) (gg := true) (s := 3) (v := (.agg (kBand x7))) (b := b21) (o := 0) (C := #[(vi 0), (vi 0), (vi 0)]) rfl rfl (by kernel_rfl) hs23 (k := 0) rfl rfl rfl rfl (C' := (kBand x7)) rfl (fun w24 (hs25 : HS w0 F0 w24 F0 [(sb b21 (kBand x7) 40), (sb b1 #[(vi 0), (vi 0), (vi 0)] 40)]) => ?_)
  refine Nss ?_
  refine Sq (Rg [0] ?_)
  refine V 6 3 (mc (vi 1) (vi 1)) ?_
  refine Nt ?_
  obtain ⟨o26, ho27, h28⟩ := bind_some h10
  refine CWP.cut (fun f w => ∃ (s39 : (Int × Int × Int × Int)) (F2 : Mem), o26 = .done s39 ∧ HS w0 F0 w F2 [(sb b21 #[(vi s39.2.1), (vi s39.2.2.1), (vi s39.2.2.2)] 40), (sb b1 #[(vi 0), (vi 0), (vi 0)] 40)] ∧ Mem.le F0 F2 ∧ f.d = [] ∧ f 4 = (.pointer (some ⟨b1, 0, none⟩)) ∧ f 5 = (.pointer (some ⟨b21, 0, none⟩))) ?_ ?_
  ·refine Bk ?_
   refine CWP.loop (by kernel_rfl) (fun m f w => ∃ (s29 : (Int × Int × Int × Int)) (F1 : Mem), iter (slices_MinFunc_api_Band_api_Band_L0 N x0 x1 x7) m s29 = some o26 ∧ HS w0 F0 w F1 [(sb b21 #[(vi s29.2.1), (vi s29.2.2.1), (vi s29.2.2.2)] 40), (sb b1 #[(vi 0), (vi 0), (vi 0)] 40)] ∧ Mem.le F0 F1 ∧ f.d = [] ∧ f 0 = (.slice (some ⟨b11, o12, none⟩) x0.length n0_0) ∧ f 1 = (.func (.func gx1) fx1.toArray kx1.toArray) ∧ f 4 = (.pointer (some ⟨b1, 0, none⟩)) ∧ f 5 = (.pointer (some ⟨b21, 0, none⟩)) ∧ f 6 = (vi s29.1)) N ⟨(1, x7.ID, x7.Lo, x7.Hi), F0, ho27, hs25, (Mem.le.refl _), rfl, rfl, rfl, rfl, rfl, rfl⟩ ?_
   rintro m46 f w30 ⟨s29, F1, hit47, hs31, le32, e33, e34, e35, e36, e37, e38⟩
   obtain ⟨m48, fl49, rfl, hb50, hnx51⟩ := iter_step hit47
   refine Sq ?_
   refine Sq (Rg [0, 1, 2, 3] ?_)
   refine V 14 3 (mv 6 (vi s29.1) e38) ?_
   refine V 15 32 (mv 0 (.slice (some ⟨b11, o12, none⟩) x0.length n0_0) e34) ?_
   refine V 16 3 (ln 15 32 (some ⟨b11, o12, none⟩) x0.length n0_0 40 3 24) ?_
   refine V 17 4 (run_lss (t := 3) (t' := 3) (x := (.tmp 14)) (y := (.tmp 16)) (k := .i64) (a := s29.1) (b := (x0.length : Int)) rfl rfl) ?_
   refine Nt ?_
   refine CWP.cond (t := (decide (s29.1 < (x0.length : Int)))) (by kernel_rfl) rfl (fun hb52 => ?_) (fun hb52 => ?_)
   ·have h53 := cond_t hb50 hb52
    refine Sc ?_
    refine thenQ_nrm ?_
    refine Sq ?_
    refine Bk ?_
    refine Sq ?_
    obtain ⟨j59, hj67, h68⟩ := bind_some h53
    refine CWP.regionD (by kernel_rfl) (by kernel_rfl) (by kernel_rfl) (by kernel_rfl) (z := 8) (F := F1) (Lc := [(sb b21 #[(vi s29.2.1), (vi s29.2.2.1), (vi s29.2.2.2)] 40), (sb b1 #[(vi 0), (vi 0), (vi 0)] 40)]) (Lz := []) (l := [false, false, false, false, false, false, false, false]) (fuel := 8) (by kernel_rfl) (by kernel_rfl) hs31 (by simp) (by simp) (fun f w => ∃ (F3 : Mem), HS w0 F0 w F3 [(sb b21 #[(vi s29.2.1), (vi s29.2.2.1), (vi s29.2.2.2)] 40), (sb b1 #[(vi 0), (vi 0), (vi 0)] 40)] ∧ Mem.le F1 F3 ∧ f.d = [] ∧ f 0 = (.slice (some ⟨b11, o12, none⟩) x0.length n0_0) ∧ f 1 = (.func (.func gx1) fx1.toArray kx1.toArray) ∧ f 4 = (.pointer (some ⟨b1, 0, none⟩)) ∧ f 5 = (.pointer (some ⟨b21, 0, none⟩)) ∧ f 6 = (vi s29.1) ∧ f 27 = (.bool j59)) (fun wd54 hw55 => ?_) ?_
    ·refine Dt 0 20 93 _ (fun _ hq => mv 1 (.func (.func gx1) fx1.toArray kx1.toArray) e35) ?_
     refine Dt 1 21 32 _ (fun _ hq => mv 0 (.slice (some ⟨b11, o12, none⟩) x0.length n0_0) e34) ?_
     refine Dt 2 22 3 _ (fun _ hq => mv 6 (vi s29.1) e38) ?_
     obtain ⟨x69, hx70, h72⟩ := bind_some hj67
     obtain ⟨hi71, hx70'⟩ := idx_spec hx70
     have hc74 := hE18 _ _ hx70'
     refine Dt 3 23 0 (.pointer (some ⟨b11, (o12 + (s29.1 : Int).toNat * 3), none⟩)) (fun _ hq => ix 32 21 22 b11 o12 40 3 24 hi71) ?_
     refine Dt 4 24 40 _ (fun _ hq => lx 40 23 0 3 true 3 (.agg (kBand x69)) (hq.1.1 _ _ (le32 _ _ hF17)) hc74) ?_
     refine Dt 5 25 40 _ (fun _ hq => ld 40 5 b21 0 true 3 (.agg #[(vi s29.2.1), (vi s29.2.2.1), (vi s29.2.2.2)]) (hq.1.2 0 _ _ rfl) e37) ?_
     refine DWP.one (i := 6) (by kernel_rfl) ?_
     obtain ⟨r75, hr76, h77⟩ := bind_some h72
     refine DStep.call (l' := [true, true, true, true, true, true, true, false]) (zd := true) (by kernel_rfl) (by kernel_rfl) (by kernel_rfl) (dst := (some 26)) (ty := 3) (g := none) (by kernel_rfl) rfl (f0 := (.tmp 20)) (aos := #[(.tmp 24), (.tmp 25)]) (ats := #[40, 40]) (fid := gx1) (first := fx1.toArray) (cap := kx1.toArray) (args := (fx1 ++ (([(.agg (kBand x69)), (.agg #[(vi s29.2.1), (vi s29.2.2.1), (vi s29.2.2.2)])] : List Value) ++ kx1))) rfl hox1 (app_args2 (l := [(.agg (kBand x69)), (.agg #[(vi s29.2.1), (vi s29.2.2.1), (vi s29.2.2.2)])]) (fi := fx1) (k := kx1) (rfl)) hw55 (hpx1 wd54 F1 (x69) (({ ID := s29.2.1, Lo := s29.2.2.1, Hi := s29.2.2.2 } : Band)) _ le32 hw55.pers hr76) ?_
     intro v78 F4 w79 hs80 le81 hp82
     obtain rfl := hp82
     refine Dt 7 27 4 (.bool (decide (r75 < 0))) (fun _ hq => run_lss (t := 3) (t' := 3) (x := (.tmp 26)) (y := (.const (vi 0))) (k := .i64) (a := r75) (b := 0) rfl rfl) ?_
     obtain rfl := some_inj h77
     exact DWP.done (by kernel_rfl) ⟨F4, hs80, le81, e33, e34, e35, e36, e37, e38, rfl⟩
    ·rintro f w56 ⟨F3, hs57, le58, e60, e61, e62, e63, e64, e65, e66⟩
     refine thenQ_nrm ?_
     obtain ⟨j86, hj93, h94⟩ := bind_some h68
     refine CWP.cut (fun f w => ∃ (F5 : Mem), HS w0 F0 w F5 [(sb b21 #[(vi j86.1), (vi j86.2.1), (vi j86.2.2)] 40), (sb b1 #[(vi 0), (vi 0), (vi 0)] 40)] ∧ Mem.le F3 F5 ∧ f.d = [] ∧ f 0 = (.slice (some ⟨b11, o12, none⟩) x0.length n0_0) ∧ f 1 = (.func (.func gx1) fx1.toArray kx1.toArray) ∧ f 4 = (.pointer (some ⟨b1, 0, none⟩)) ∧ f 5 = (.pointer (some ⟨b21, 0, none⟩)) ∧ f 6 = (vi s29.1)) ?_ ?_
     ·refine CWP.cond (t := j59) (by kernel_rfl) e66 (fun hb95 => ?_) (fun hb95 => ?_)
      ·have h96 := cond_t hj93 hb95
       refine Rg [0, 1, 2, 3, 4] ?_
       refine V 28 32 (mv 0 (.slice (some ⟨b11, o12, none⟩) x0.length n0_0) e61) ?_
       refine V 29 3 (mv 6 (vi s29.1) e65) ?_
       obtain ⟨x97, hx98, h100⟩ := bind_some h96
       obtain ⟨hi99, hx98'⟩ := idx_spec hx98
       have hc102 := hE18 _ _ hx98'
       refine V 30 0 (ix 32 28 29 b11 o12 40 3 24 hi99) ?_
       refine V 31 40 (lx 40 30 0 3 true 3 (.agg (kBand x97)) (hs57.pers _ _ ((le32.trans le58) _ _ hF17)) hc102) ?_
       refine RWP.store (ty := 0) (g := none) (by kernel_rfl) rfl (x := (.tmp 5)) (y := (.tmp 31)) (t := 40) (gg := true) (s := 3) (v := (.agg (kBand x97))) (b := b21) (o := 0) (C := #[(vi s29.2.1), (vi s29.2.2.1), (vi s29.2.2.2)]) e64 rfl (by kernel_rfl) hs57 (k := 0) rfl rfl rfl rfl (C' := (kBand x97)) rfl (fun w103 (hs104 : HS w0 F0 w103 F3 [(sb b21 (kBand x97) 40), (sb b1 #[(vi 0), (vi 0), (vi 0)] 40)]) => ?_)
       refine RWP.nil ?_
       obtain rfl := some_inj h100
       exact .inl ⟨rfl, F3, hs104, (Mem.le.refl _), e60, e61, e62, e63, e64, e65⟩
      ·have h105 := cond_f hj93 hb95
       refine Sc ?_
       obtain rfl := some_inj h105
       exact .inl ⟨rfl, F3, hs57, (Mem.le.refl _), e60, e61, e62, e63, e64, e65⟩
     ·rintro f w83 ⟨F5, hs84, le85, e87, e88, e89, e90, e91, e92⟩
      refine blockQ_nrm ?_
      refine thenQ_nrm ?_
      refine Rg [0, 1, 2] ?_
      refine V 18 3 (mv 6 (vi s29.1) e92) ?_
      refine V 19 3 (run_add (t := 3) (t' := 3) (x := (.tmp 18)) (y := (.const (vi 1))) (k := .i64) (a := s29.1) (b := 1) rfl rfl) ?_
      refine V 6 3 (ma 19 (vi (W64 (s29.1 + 1)))) ?_
      refine RWP.nil ?_
      have hn106 := iter_next h94 hnx51
      exact ⟨m48, Nat.lt_succ_self _, ((W64 (s29.1 + 1)), j86.1, j86.2.1, j86.2.2), F5, hn106, hs84, ((le32.trans le58).trans le85), e87, e88, e89, e90, e91, rfl⟩
   ·have h107 := cond_f hb50 hb52
    refine CWP.exit (by kernel_rfl) ?_
    refine thenQ_ex ?_
    refine thenQ_ex ?_
    refine blockQ_hit rfl ?_
    have ho108 := iter_done h107 hnx51
    exact .inl ⟨rfl, (s29.1, s29.2.1, s29.2.2.1, s29.2.2.2), F1, ho108, hs31, le32, e33, e36, e37⟩
  ·rintro f w40 ⟨s39, F2, rfl, hs41, le42, e43, e44, e45⟩
   have h109 := k_done h28
   refine thenQ_nrm ?_
   refine Sq (Rg [0, 1] ?_)
   refine V 32 40 (ld 40 5 b21 0 true 3 (.agg #[(vi s39.2.1), (vi s39.2.2.1), (vi s39.2.2.2)]) (hs41.ownAt (k := 0) rfl) e45) ?_
   refine RWP.store (ty := 0) (g := none) (by kernel_rfl) rfl (x := (.tmp 4)) (y := (.tmp 32)) (t := 40) (gg := true) (s := 3) (v := (.agg #[(vi s39.2.1), (vi s39.2.2.1), (vi s39.2.2.2)])) (b := b1) (o := 0) (C := #[(vi 0), (vi 0), (vi 0)]) e44 rfl (by kernel_rfl) hs41 (k := 1) rfl rfl rfl rfl (C' := #[(vi s39.2.1), (vi s39.2.2.1), (vi s39.2.2.2)]) rfl (fun w110 (hs111 : HS w0 F0 w110 F2 [(sb b21 #[(vi s39.2.1), (vi s39.2.2.1), (vi s39.2.2.2)] 40), (sb b1 #[(vi s39.2.1), (vi s39.2.2.1), (vi s39.2.2.2)] 40)]) => ?_)
   refine Nt ?_
   refine CWP.ret (by kernel_rfl) ?_
   have hfin := some_inj h109
   subst hfin
   exact ⟨e43, (.agg #[(vi s39.2.1), (vi s39.2.2.1), (vi s39.2.2.2)]), res_of (l := [.cell 4 40]) (by kernel_rfl) (vs := [(.agg #[(vi s39.2.1), (vi s39.2.2.1), (vi s39.2.2.2)])]) ⟨b1, 0, e44, run_loadVar' (t := 40) (g := true) (s := 3) (by kernel_rfl) (hs111.ownAt (k := 1) rfl) rfl (by decide), trivial⟩, (.agg #[(vi s39.2.1), (vi s39.2.2.1), (vi s39.2.2.2)]), F2, rfl, hs111.clear, rfl⟩
end Go.Proofs.YtlddakefmfcblaaGreatDoor
namespace Go.Proofs.YtlddakefmfcblaaGreatDoor
open Go.Proofs
def cmp_isNaN_int (N : Nat) (x0 : Int) : Option Bool :=
 some (x0 != x0)
theorem co_cmp_isNaN_int : CallOk Tryz.prog 108 := fun _ _ => by kernel_rfl
set_option maxHeartbeats 4000000 in
set_option maxRecDepth 100000 in
theorem c_cmp_isNaN_int (N : Nat) (w0 : World) (F0 : Mem) (hF : ∀ b o, F0 b = some o → w0.heap[b]? = some o) (x0 : Int) (r : Bool) (h : cmp_isNaN_int N x0 = some r) :
  Calls Tryz.prog 108 ([(vi x0)] : List Value).toArray w0 (FRet w0 F0 fun F' v => v = (.bool r)) := by
 have hs0 := HS.start hF
 refine calls_of (n := 6) (c := bodyOf Tryz.f108) Tryz.func108 (by kernel_rfl) (by kernel_rfl) (by kernel_rfl) ?_
 refine Sq (Rg [0] ?_)
 refine V 2 4 (mc (.bool false) (.bool false)) ?_
 refine Nss (Rg [0, 1, 2, 3] ?_)
 refine V 3 3 (mv 0 (vi x0)) ?_
 refine V 4 3 (mv 0 (vi x0)) ?_
 refine V 5 4 (run_neq (t := 3) (t' := 3) (x := (.tmp 3)) (y := (.tmp 4)) (k := .i64) (a := x0) (b := x0) rfl rfl) ?_
 refine V 2 4 (ma 5 (.bool (x0 != x0))) ?_
 refine Nt ?_
 refine CWP.ret (by kernel_rfl) ?_
 have hfin := some_inj h
 subst hfin
 exact ⟨rfl, (.bool (x0 != x0)), res_of (l := [.tmp 2]) (by kernel_rfl) (vs := [(.bool (x0 != x0))]) ⟨rfl, trivial⟩, (.bool (x0 != x0)), F0, rfl, hs0.clear, rfl⟩
end Go.Proofs.YtlddakefmfcblaaGreatDoor
namespace Go.Proofs.YtlddakefmfcblaaGreatDoor
open Go.Proofs
def cmp_Compare_int (N : Nat) (x0 : Int) (x1 : Int) : Option Int :=
 ((cmp_isNaN_int N x0).bind fun r1 => ((cmp_isNaN_int N x1).bind fun r9 => (bif r1 then (bif r9 then some 0 else some (-1)) else (bif r9 then some 1 else (bif (decide (x0 < x1)) then some (-1) else (bif (decide (x0 > x1)) then some 1 else some 0))))))
theorem co_cmp_Compare_int : CallOk Tryz.prog 72 := fun _ _ => by kernel_rfl
set_option maxHeartbeats 4000000 in
set_option maxRecDepth 100000 in
theorem c_cmp_Compare_int (N : Nat) (w0 : World) (F0 : Mem) (hF : ∀ b o, F0 b = some o → w0.heap[b]? = some o) (x0 : Int) (x1 : Int) (r : Int) (h : cmp_Compare_int N x0 x1 = some r) :
  Calls Tryz.prog 72 ([(vi x0), (vi x1)] : List Value).toArray w0 (FRet w0 F0 fun F' v => v = (vi r)) := by
 have hs0 := HS.start hF
 refine calls_of (n := 20) (c := bodyOf Tryz.f72) Tryz.func72 (by kernel_rfl) (by kernel_rfl) (by kernel_rfl) ?_
 refine Sq (Rg [0] ?_)
 refine V 4 3 (mc (vi 0) (vi 0)) ?_
 refine Nss (Rg [0, 1, 2] ?_)
 refine V 7 3 (mv 0 (vi x0)) ?_
 obtain ⟨r1, hr2, h3⟩ := bind_some h
 refine Cl 8 4 108 #[(.tmp 7)] #[3] co_cmp_isNaN_int hs0 (c_cmp_isNaN_int N w0 F0 hs0.pers (x0) _ hr2) ?_
 intro v4 F1 w5 hs6 le7 hp8
 obtain rfl := hp8
 refine V 5 4 (ma 8 (.bool r1)) ?_
 refine Nss (Rg [0, 1, 2] ?_)
 refine V 9 3 (mv 1 (vi x1)) ?_
 obtain ⟨r9, hr10, h11⟩ := bind_some h3
 refine Cl 10 4 108 #[(.tmp 9)] #[3] co_cmp_isNaN_int hs6 (c_cmp_isNaN_int N w5 F1 hs6.pers (x1) _ hr10) ?_
 intro v12 F2 w13 hs14 le15 hp16
 obtain rfl := hp16
 refine V 6 4 (ma 10 (.bool r9)) ?_
 refine Nss ?_
 refine Sq (Rg [0] ?_)
 refine V 11 4 (mv 5 (.bool r1)) ?_
 refine Nt ?_
 refine CWP.cond (t := r1) (by kernel_rfl) rfl (fun hb17 => ?_) (fun hb17 => ?_)
 ·have h18 := cond_t h11 hb17
  refine Sq ?_
  refine Sq (Rg [0] ?_)
  refine V 12 4 (mv 6 (.bool r9)) ?_
  refine Nt ?_
  refine CWP.cond (t := r9) (by kernel_rfl) rfl (fun hb19 => ?_) (fun hb19 => ?_)
  ·have h20 := cond_t h18 hb19
   refine Sq (Rg [0] ?_)
   refine V 4 3 (mc (vi 0) (vi 0)) ?_
   refine Nt ?_
   refine CWP.ret (by kernel_rfl) ?_
   refine thenQ_ret ?_
   refine thenQ_ret ?_
   have hfin := some_inj h20
   subst hfin
   exact ⟨rfl, (vi 0), res_of (l := [.tmp 4]) (by kernel_rfl) (vs := [(vi 0)]) ⟨rfl, trivial⟩, (vi 0), F2, rfl, hs14.clear, rfl⟩
  ·have h21 := cond_f h18 hb19
   refine Sc ?_
   refine thenQ_nrm ?_
   refine Sq (Rg [0] ?_)
   refine V 4 3 (mc (vi (-1)) (vi (-1))) ?_
   refine Nt ?_
   refine CWP.ret (by kernel_rfl) ?_
   refine thenQ_ret ?_
   have hfin := some_inj h21
   subst hfin
   exact ⟨rfl, (vi (-1)), res_of (l := [.tmp 4]) (by kernel_rfl) (vs := [(vi (-1))]) ⟨rfl, trivial⟩, (vi (-1)), F2, rfl, hs14.clear, rfl⟩
 ·have h22 := cond_f h11 hb17
  refine Sc ?_
  refine thenQ_nrm ?_
  refine Sq ?_
  refine Sq (Rg [0] ?_)
  refine V 13 4 (mv 6 (.bool r9)) ?_
  refine Nt ?_
  refine CWP.cond (t := r9) (by kernel_rfl) rfl (fun hb23 => ?_) (fun hb23 => ?_)
  ·have h24 := cond_t h22 hb23
   refine Sq (Rg [0] ?_)
   refine V 4 3 (mc (vi 1) (vi 1)) ?_
   refine Nt ?_
   refine CWP.ret (by kernel_rfl) ?_
   refine thenQ_ret ?_
   have hfin := some_inj h24
   subst hfin
   exact ⟨rfl, (vi 1), res_of (l := [.tmp 4]) (by kernel_rfl) (vs := [(vi 1)]) ⟨rfl, trivial⟩, (vi 1), F2, rfl, hs14.clear, rfl⟩
  ·have h25 := cond_f h22 hb23
   refine Sc ?_
   refine thenQ_nrm ?_
   refine Sq ?_
   refine Sq (Rg [0, 1, 2] ?_)
   refine V 14 3 (mv 0 (vi x0)) ?_
   refine V 15 3 (mv 1 (vi x1)) ?_
   refine V 16 4 (run_lss (t := 3) (t' := 3) (x := (.tmp 14)) (y := (.tmp 15)) (k := .i64) (a := x0) (b := x1) rfl rfl) ?_
   refine Nt ?_
   refine CWP.cond (t := (decide (x0 < x1))) (by kernel_rfl) rfl (fun hb26 => ?_) (fun hb26 => ?_)
   ·have h27 := cond_t h25 hb26
    refine Sq (Rg [0] ?_)
    refine V 4 3 (mc (vi (-1)) (vi (-1))) ?_
    refine Nt ?_
    refine CWP.ret (by kernel_rfl) ?_
    refine thenQ_ret ?_
    have hfin := some_inj h27
    subst hfin
    exact ⟨rfl, (vi (-1)), res_of (l := [.tmp 4]) (by kernel_rfl) (vs := [(vi (-1))]) ⟨rfl, trivial⟩, (vi (-1)), F2, rfl, hs14.clear, rfl⟩
   ·have h28 := cond_f h25 hb26
    refine Sc ?_
    refine thenQ_nrm ?_
    refine Sq ?_
    refine Sq (Rg [0, 1, 2] ?_)
    refine V 17 3 (mv 0 (vi x0)) ?_
    refine V 18 3 (mv 1 (vi x1)) ?_
    refine V 19 4 (run_gtr (t := 3) (t' := 3) (x := (.tmp 17)) (y := (.tmp 18)) (k := .i64) (a := x0) (b := x1) rfl rfl) ?_
    refine Nt ?_
    refine CWP.cond (t := (decide (x0 > x1))) (by kernel_rfl) rfl (fun hb29 => ?_) (fun hb29 => ?_)
    ·have h30 := cond_t h28 hb29
     refine Sq (Rg [0] ?_)
     refine V 4 3 (mc (vi 1) (vi 1)) ?_
     refine Nt ?_
     refine CWP.ret (by kernel_rfl) ?_
     refine thenQ_ret ?_
     have hfin := some_inj h30
     subst hfin
     exact ⟨rfl, (vi 1), res_of (l := [.tmp 4]) (by kernel_rfl) (vs := [(vi 1)]) ⟨rfl, trivial⟩, (vi 1), F2, rfl, hs14.clear, rfl⟩
    ·have h31 := cond_f h28 hb29
     refine Sc ?_
     refine thenQ_nrm ?_
     refine Sq (Rg [0] ?_)
     refine V 4 3 (mc (vi 0) (vi 0)) ?_
     refine Nt ?_
     refine CWP.ret (by kernel_rfl) ?_
     have hfin := some_inj h31
     subst hfin
     exact ⟨rfl, (vi 0), res_of (l := [.tmp 4]) (by kernel_rfl) (vs := [(vi 0)]) ⟨rfl, trivial⟩, (vi 0), F2, rfl, hs14.clear, rfl⟩
end Go.Proofs.YtlddakefmfcblaaGreatDoor
namespace Go.Proofs.YtlddakefmfcblaaGreatDoor
open Go.Proofs
def air_Nearest_2 (N : Nat) (x0 : Band) (x1 : Band) (z0 : (Band → Option Int)) : Option Int :=
 (((z0 x0).bind fun r17 => ((z0 x1).bind fun r25 => ((cmp_Compare_int N r17 r25).bind fun r33 => some r33))).bind fun j12 => some j12)
theorem co_air_Nearest_2 : CallOk Tryz.prog 71 := fun _ _ => by kernel_rfl
set_option maxHeartbeats 4000000 in
set_option maxRecDepth 100000 in
theorem c_air_Nearest_2 (N : Nat) (w0 : World) (F0 : Mem) (hF : ∀ b o, F0 b = some o → w0.heap[b]? = some o) (x0 : Band) (x1 : Band) (bz0 : Nat) (z0 : (Band → Option Int)) (gz0_0 : FuncId) (fz0_0 : List Value) (kz0_0 : List Value) (hoz0_0 : CallOk Tryz.prog gz0_0) (hpz0_0 : Fn90 F0 gz0_0 fz0_0 kz0_0 z0) (hz0 : F0 bz0 = some (oc #[(.func (.func gz0_0) fz0_0.toArray kz0_0.toArray)] 90)) (r : Int) (h : air_Nearest_2 N x0 x1 z0 = some r) :
  Calls Tryz.prog 71 ([(.agg (kBand x0)), (.agg (kBand x1)), (.pointer (some ⟨bz0, 0, none⟩))] : List Value).toArray w0 (FRet w0 F0 fun F' v => v = (vi r)) := by
 have hs0 := HS.start hF
 refine calls_of (n := 13) (c := bodyOf Tryz.f71) Tryz.func71 (by kernel_rfl) (by kernel_rfl) (by kernel_rfl) ?_
 refine Sq (Rg [0, 1, 2] ?_)
 refine Bx 3 0 0 40 (kBand x0) hs0 (fun b1 w2 (hs3 : HS w0 F0 w2 F0 [(sb b1 (kBand x0) 40)]) => ?_)
 refine Bx 4 0 1 40 (kBand x1) hs3 (fun b4 w5 (hs6 : HS w0 F0 w5 F0 [(sb b4 (kBand x1) 40), (sb b1 (kBand x0) 40)]) => ?_)
 refine V 5 3 (mc (vi 0) (vi 0)) ?_
 refine Nss ?_
 obtain ⟨j12, hj15, h16⟩ := bind_some h
 refine CWP.regionD (by kernel_rfl) (by kernel_rfl) (by kernel_rfl) (by kernel_rfl) (z := 8) (F := F0) (Lc := [(sb b4 (kBand x1) 40), (sb b1 (kBand x0) 40)]) (Lz := []) (l := [false, false, false, false, false, false, false, false]) (fuel := 8) (by kernel_rfl) (by kernel_rfl) hs6 (by simp) (by simp) (fun f w => ∃ (F1 : Mem), HS w0 F0 w F1 [] ∧ Mem.le F0 F1 ∧ f.d = [] ∧ f 5 = (vi j12)) (fun wd7 hw8 => ?_) ?_
 ·refine Dt 0 6 90 _ (fun _ hq => ld 90 2 bz0 0 false 1 (.func (.func gz0_0) fz0_0.toArray kz0_0.toArray) (hq.1.1 _ _ hz0)) ?_
  refine Dt 1 7 40 _ (fun _ hq => ld 40 3 b1 0 true 3 (.agg (kBand x0)) (hq.1.2 1 _ _ rfl)) ?_
  refine Dt 3 9 90 _ (fun _ hq => ld 90 2 bz0 0 false 1 (.func (.func gz0_0) fz0_0.toArray kz0_0.toArray) (hq.1.1 _ _ hz0)) ?_
  refine Dt 4 10 40 _ (fun _ hq => ld 40 4 b4 0 true 3 (.agg (kBand x1)) (hq.1.2 0 _ _ rfl)) ?_
  refine DWP.one (i := 2) (by kernel_rfl) ?_
  obtain ⟨r17, hr18, h19⟩ := bind_some hj15
  refine DStep.call (l' := [true, true, true, true, true, false, false, false]) (zd := true) (by kernel_rfl) (by kernel_rfl) (by kernel_rfl) (dst := (some 8)) (ty := 3) (g := none) (by kernel_rfl) rfl (f0 := (.tmp 6)) (aos := #[(.tmp 7)]) (ats := #[40]) (fid := gz0_0) (first := fz0_0.toArray) (cap := kz0_0.toArray) (args := (fz0_0 ++ (([(.agg (kBand x0))] : List Value) ++ kz0_0))) rfl hoz0_0 (app_args2 (l := [(.agg (kBand x0))]) (fi := fz0_0) (k := kz0_0) (rfl)) hw8 (hpz0_0 wd7 F0 (x0) _ (Mem.le.refl _) hw8.pers hr18) ?_
  intro v20 F2 w21 hs22 le23 hp24
  obtain rfl := hp24
  refine DWP.one (i := 5) (by kernel_rfl) ?_
  obtain ⟨r25, hr26, h27⟩ := bind_some h19
  refine DStep.call (l' := [true, true, true, true, true, true, false, false]) (zd := true) (by kernel_rfl) (by kernel_rfl) (by kernel_rfl) (dst := (some 11)) (ty := 3) (g := none) (by kernel_rfl) rfl (f0 := (.tmp 9)) (aos := #[(.tmp 10)]) (ats := #[40]) (fid := gz0_0) (first := fz0_0.toArray) (cap := kz0_0.toArray) (args := (fz0_0 ++ (([(.agg (kBand x1))] : List Value) ++ kz0_0))) rfl hoz0_0 (app_args2 (l := [(.agg (kBand x1))]) (fi := fz0_0) (k := kz0_0) (rfl)) hs22 (hpz0_0 w21 F2 (x1) _ le23 hs22.pers hr26) ?_
  intro v28 F3 w29 hs30 le31 hp32
  obtain rfl := hp32
  refine DWP.one (i := 6) (by kernel_rfl) ?_
  obtain ⟨r33, hr34, h35⟩ := bind_some h27
  refine DStep.call (l' := [true, true, true, true, true, true, true, false]) (zd := true) (by kernel_rfl) (by kernel_rfl) (by kernel_rfl) (dst := (some 12)) (ty := 3) (g := none) (by kernel_rfl) rfl (f0 := (.func 72)) (aos := #[(.tmp 8), (.tmp 11)]) (ats := #[3, 3]) (fid := 72) (first := #[]) (cap := #[]) (args := [(vi r17), (vi r25)]) rfl co_cmp_Compare_int (rfl) hs30 (c_cmp_Compare_int N w29 F3 hs30.pers (r17) (r25) _ hr34) ?_
  intro v36 F4 w37 hs38 le39 hp40
  obtain rfl := hp40
  refine Dt 7 5 3 _ (fun _ hq => ma 12 (vi r33)) ?_
  obtain rfl := some_inj h35
  have hs41 : HS w0 F0 w37 F4 [(sb b1 (kBand x0) 40)] := hs38.drop 0
  have hs42 : HS w0 F0 w37 F4 [] := hs41.drop 0
  exact DWP.done (by kernel_rfl) ⟨F4, hs42, ((le23.trans le31).trans le39), rfl, rfl⟩
 ·rintro f w9 ⟨F1, hs10, le11, e13, e14⟩
  refine thenQ_nrm ?_
  refine CWP.ret (by kernel_rfl) ?_
  have hfin := some_inj h16
  subst hfin
  exact ⟨e13, (vi j12), res_of (l := [.tmp 5]) (by kernel_rfl) (vs := [(vi j12)]) ⟨e14, trivial⟩, (vi j12), F1, rfl, hs10.clear, rfl⟩
end Go.Proofs.YtlddakefmfcblaaGreatDoor
namespace Go.Proofs.YtlddakefmfcblaaGreatDoor
open Go.Proofs
def air_Nearest (N : Nat) (x0 : (List Band)) (x1 : Int) : Option (Int × Int × Int) :=
 ((air_wrongBands N x0 x1).bind fun r4 => (bif (r4 != 0) then some (0, 0, r4) else (bif ((x0.length : Int) == 0) then some (0, 0, 3) else ((slices_MinFunc_api_Band_api_Band N x0 (fun y0 y1 => air_Nearest_2 N y0 y1 (fun y0 => air_Nearest_1 N y0 x1))).bind fun r29 => (((air_Nearest_1 N r29 x1).bind fun r54 => some r54).bind fun j47 => some (r29.ID, j47, 0))))))
theorem co_air_Nearest : CallOk Tryz.prog 24 := fun _ _ => by kernel_rfl
set_option maxHeartbeats 4000000 in
set_option maxRecDepth 100000 in
theorem c_air_Nearest (N : Nat) (w0 : World) (F0 : Mem) (hF : ∀ b o, F0 b = some o → w0.heap[b]? = some o) (x0 : (List Band)) (a0_0 : Option Addr) (n0_0 : Nat) (hb0_0 : LC x0.length n0_0) (hs0_0 : SlA tBand F0 a0_0 x0) (x1 : Int) (r : (Int × Int × Int)) (h : air_Nearest N x0 x1 = some r) :
  Calls Tryz.prog 24 ([(.slice a0_0 x0.length n0_0), (vi x1)] : List Value).toArray w0 (FRet w0 F0 fun F' v => v = (.tuple #[(vi r.1), (vi r.2.1), (vi r.2.2)])) := by
 have hs0 := HS.start hF
 refine calls_of (n := 28) (c := bodyOf Tryz.f24) Tryz.func24 (by kernel_rfl) (by kernel_rfl) (by kernel_rfl) ?_
 refine Sq (Rg [0, 1, 2, 3] ?_)
 refine Bx 3 0 1 3 #[(vi x1)] hs0 (fun b1 w2 (hs3 : HS w0 F0 w2 F0 [(sb b1 #[(vi x1)] 3)]) => ?_)
 refine V 4 3 (mc (vi 0) (vi 0)) ?_
 refine V 5 3 (mc (vi 0) (vi 0)) ?_
 refine V 6 23 (mc (vi 0) (vi 0)) ?_
 refine Nss ?_
 refine Sq (Rg [0, 1, 2, 3] ?_)
 refine V 10 32 (mv 0 (.slice a0_0 x0.length n0_0)) ?_
 refine V 11 3 (ld 3 3 b1 0 false 1 (vi x1) (hs3.ownAt (k := 0) rfl)) ?_
 obtain ⟨r4, hr5, h6⟩ := bind_some h
 refine Cl 12 23 68 #[(.tmp 10), (.tmp 11)] #[32, 3] co_air_wrongBands hs3 (c_air_wrongBands N w2 F0 hs3.pers (x0) a0_0 n0_0 hb0_0 hs0_0 (x1) _ hr5) ?_
 intro v7 F1 w8 hs9 le10 hp11
 obtain rfl := hp11
 refine V 7 23 (ma 12 (vi r4)) ?_
 refine Nss (Rg [0, 1] ?_)
 refine V 13 23 (mv 7 (vi r4)) ?_
 refine V 14 4 (run_neq (t := 23) (t' := 23) (x := (.tmp 13)) (y := (.const (vi 0))) (k := .i64) (a := r4) (b := 0) rfl rfl) ?_
 refine Nt ?_
 refine CWP.cond (t := (r4 != 0)) (by kernel_rfl) rfl (fun hb12 => ?_) (fun hb12 => ?_)
 ·have h13 := cond_t h6 hb12
  refine Sq (Rg [0, 1, 2, 3] ?_)
  refine V 15 23 (mv 7 (vi r4)) ?_
  refine V 4 3 (mc (vi 0) (vi 0)) ?_
  refine V 5 3 (mc (vi 0) (vi 0)) ?_
  refine V 6 23 (ma 15 (vi r4)) ?_
  refine Nt ?_
  refine CWP.ret (by kernel_rfl) ?_
  refine thenQ_ret ?_
  have hfin := some_inj h13
  subst hfin
  exact ⟨rfl, (.tuple #[(vi 0), (vi 0), (vi r4)]), res_of (l := [.tmp 4, .tmp 5, .tmp 6]) (by kernel_rfl) (vs := [(vi 0), (vi 0), (vi r4)]) ⟨rfl, ⟨rfl, ⟨rfl, trivial⟩⟩⟩, (.tuple #[(vi 0), (vi 0), (vi r4)]), F1, rfl, hs9.clear, rfl⟩
 ·have h14 := cond_f h6 hb12
  refine Sc ?_
  refine thenQ_nrm ?_
  refine Sq ?_
  refine Sq (Rg [0, 1, 2] ?_)
  refine V 16 32 (mv 0 (.slice a0_0 x0.length n0_0)) ?_
  refine V 17 3 (ln 16 32 a0_0 x0.length n0_0 40 3 24) ?_
  refine V 18 4 (run_eql (t := 3) (t' := 3) (x := (.tmp 17)) (y := (.const (vi 0))) (k := .i64) (a := (x0.length : Int)) (b := 0) rfl rfl) ?_
  refine Nt ?_
  refine CWP.cond (t := ((x0.length : Int) == 0)) (by kernel_rfl) rfl (fun hb15 => ?_) (fun hb15 => ?_)
  ·have h16 := cond_t h14 hb15
   refine Sq (Rg [0, 1, 2] ?_)
   refine V 4 3 (mc (vi 0) (vi 0)) ?_
   refine V 5 3 (mc (vi 0) (vi 0)) ?_
   refine V 6 23 (mc (vi 3) (vi 3)) ?_
   refine Nt ?_
   refine CWP.ret (by kernel_rfl) ?_
   refine thenQ_ret ?_
   have hfin := some_inj h16
   subst hfin
   exact ⟨rfl, (.tuple #[(vi 0), (vi 0), (vi 3)]), res_of (l := [.tmp 4, .tmp 5, .tmp 6]) (by kernel_rfl) (vs := [(vi 0), (vi 0), (vi 3)]) ⟨rfl, ⟨rfl, ⟨rfl, trivial⟩⟩⟩, (.tuple #[(vi 0), (vi 0), (vi 3)]), F1, rfl, hs9.clear, rfl⟩
  ·have h17 := cond_f h14 hb15
   refine Sc ?_
   refine thenQ_nrm ?_
   refine Sq (Rg [0, 1, 2] ?_)
   refine V 19 90 (run_makeFunc (fn := .func 69) (first := #[]) (cap := #[(.tmp 3)]) (fl := []) (cl := [(.pointer (some ⟨b1, 0, none⟩))]) rfl (rfl)) ?_
   refine RWP.alloc (dst := (some 8)) (ty := 0) (g := none) (by kernel_rfl) rfl (t := 90) (z := .nilFunc) (by kernel_rfl) (C := #[.nilFunc]) rfl hs9 (fun b18 w19 (hs20 : HS w0 F0 w19 F1 [(sb b18 #[.nilFunc] 90), (sb b1 #[(vi x1)] 3)]) => ?_)
   refine RWP.store (ty := 0) (g := none) (by kernel_rfl) rfl (x := (.tmp 8)) (y := (.tmp 19)) (t := 90) (gg := false) (s := 1) (v := (.func (.func 69) #[] #[(.pointer (some ⟨b1, 0, none⟩))])) (b := b18) (o := 0) (C := #[.nilFunc]) rfl rfl (by kernel_rfl) hs20 (k := 0) rfl rfl rfl rfl (C' := #[(.func (.func 69) #[] #[(.pointer (some ⟨b1, 0, none⟩))])]) rfl (fun w21 (hs22 : HS w0 F0 w21 F1 [(sb b18 #[(.func (.func 69) #[] #[(.pointer (some ⟨b1, 0, none⟩))])] 90), (sb b1 #[(vi x1)] 3)]) => ?_)
   refine Nss (Rg [0, 1, 2, 3, 4] ?_)
   refine V 20 32 (mv 0 (.slice a0_0 x0.length n0_0)) ?_
   refine V 21 93 (run_makeFunc (fn := .func 71) (first := #[]) (cap := #[(.tmp 8)]) (fl := []) (cl := [(.pointer (some ⟨b18, 0, none⟩))]) rfl (rfl)) ?_
   obtain ⟨F2, hs23, le24, hF25⟩ : ∃ Fq, HS w0 F0 w21 Fq [(sb b18 #[(.func (.func 69) #[] #[(.pointer (some ⟨b1, 0, none⟩))])] 90)] ∧ Mem.le F1 Fq ∧ Fq b1 = some (oc #[(vi x1)] 3) := HS.freezeC hs22 (k := 1) rfl
   obtain ⟨F3, hs26, le27, hF28⟩ : ∃ Fq, HS w0 F0 w21 Fq [] ∧ Mem.le F2 Fq ∧ Fq b18 = some (oc #[(.func (.func 69) #[] #[(.pointer (some ⟨b1, 0, none⟩))])] 90) := HS.freezeC hs23 (k := 0) rfl
   obtain ⟨r29, hr30, h31⟩ := bind_some h17
   refine Cl 22 40 70 #[(.tmp 20), (.tmp 21)] #[32, 93] co_slices_MinFunc_api_Band_api_Band hs26 (c_slices_MinFunc_api_Band_api_Band N w21 F3 hs26.pers (x0) a0_0 n0_0 hb0_0 (SlA.mono hs0_0 ((le10.trans le24).trans le27)) 71 [] [(.pointer (some ⟨b18, 0, none⟩))] (fun y0 y1 => air_Nearest_2 N y0 y1 (fun y0 => air_Nearest_1 N y0 x1)) co_air_Nearest_2 (fun w1 F1 y0 y1 r le1 pe1 hr1 => c_air_Nearest_2 N w1 F1 pe1  y0 y1 b18 (fun y0 => air_Nearest_1 N y0 x1) 69 [] [(.pointer (some ⟨b1, 0, none⟩))] co_air_Nearest_1 (Fn90.mono (fun w1 F1 y0 r le1 pe1 hr1 => c_air_Nearest_1 N w1 F1 pe1  y0 b1 x1 (le1 _ _ (le27 _ _ hF25)) r hr1) le1) (le1 _ _ hF28) r hr1) _ hr30) ?_
   intro v32 F4 w33 hs34 le35 hp36
   obtain rfl := hp36
   refine Al 9 0 40 #[(vi 0), (vi 0), (vi 0)] hs34 (fun b37 w38 (hs39 : HS w0 F0 w38 F4 [(sb b37 #[(vi 0), (vi 0), (vi 0)] 40)]) => ?_)
   refine RWP.store (ty := 0) (g := none) (by kernel_rfl) rfl (x := (.tmp 9)) (y := (.tmp 22)) (t := 40) (gg := true) (s := 3) (v := (.agg (kBand r29))) (b := b37) (o := 0) (C := #[(vi 0), (vi 0), (vi 0)]) rfl rfl (by kernel_rfl) hs39 (k := 0) rfl rfl rfl rfl (C' := (kBand r29)) rfl (fun w40 (hs41 : HS w0 F0 w40 F4 [(sb b37 (kBand r29) 40)]) => ?_)
   refine Nss ?_
   obtain ⟨j47, hj52, h53⟩ := bind_some h31
   refine CWP.regionD (by kernel_rfl) (by kernel_rfl) (by kernel_rfl) (by kernel_rfl) (z := 8) (F := F4) (Lc := [(sb b37 (kBand r29) 40)]) (Lz := []) (l := [false, false, false, false, false, false, false, false]) (fuel := 8) (by kernel_rfl) (by kernel_rfl) hs41 (by simp) (by simp) (fun f w => ∃ (F5 : Mem), HS w0 F0 w F5 [] ∧ Mem.le F4 F5 ∧ f.d = [] ∧ f 4 = (vi r29.ID) ∧ f 5 = (vi j47) ∧ f 6 = (vi 0)) (fun wd42 hw43 => ?_) ?_
   ·refine Dt 0 23 0 (.pointer (some ⟨b37, 0, none⟩)) (fun _ hq => fa 40 9 0 0 1 b37 0 0) ?_
    refine Dt 1 24 3 _ (fun _ hq => ld 3 23 b37 0 false 1 (vi r29.ID) (hq.1.2 0 _ _ rfl)) ?_
    refine Dt 2 25 90 _ (fun _ hq => ld 90 8 b18 0 false 1 (.func (.func 69) #[] #[(.pointer (some ⟨b1, 0, none⟩))]) (hq.1.1 _ _ (le35 _ _ hF28))) ?_
    refine Dt 3 26 40 _ (fun _ hq => ld 40 9 b37 0 true 3 (.agg (kBand r29)) (hq.1.2 0 _ _ rfl)) ?_
    refine DWP.one (i := 4) (by kernel_rfl) ?_
    obtain ⟨r54, hr55, h56⟩ := bind_some hj52
    refine DStep.call (l' := [true, true, true, true, true, false, false, false]) (zd := true) (by kernel_rfl) (by kernel_rfl) (by kernel_rfl) (dst := (some 27)) (ty := 3) (g := none) (by kernel_rfl) rfl (f0 := (.tmp 25)) (aos := #[(.tmp 26)]) (ats := #[40]) (fid := 69) (first := #[]) (cap := #[(.pointer (some ⟨b1, 0, none⟩))]) (args := [(.agg (kBand r29)), (.pointer (some ⟨b1, 0, none⟩))]) rfl co_air_Nearest_1 (rfl) hw43 (c_air_Nearest_1 N wd42 F4 hw43.pers (r29) b1 x1 ((le27.trans le35) _ _ hF25) _ hr55) ?_
    intro v57 F6 w58 hs59 le60 hp61
    obtain rfl := hp61
    refine Dt 5 4 3 _ (fun _ hq => ma 24 (vi r29.ID)) ?_
    refine Dt 6 5 3 _ (fun _ hq => ma 27 (vi r54)) ?_
    refine Dt 7 6 23 _ (fun _ hq => mc (vi 0) (vi 0)) ?_
    obtain rfl := some_inj h56
    have hs62 : HS w0 F0 w58 F6 [] := hs59.drop 0
    exact DWP.done (by kernel_rfl) ⟨F6, hs62, le60, rfl, rfl, rfl, rfl⟩
   ·rintro f w44 ⟨F5, hs45, le46, e48, e49, e50, e51⟩
    refine thenQ_nrm ?_
    refine CWP.ret (by kernel_rfl) ?_
    have hfin := some_inj h53
    subst hfin
    exact ⟨e48, (.tuple #[(vi r29.ID), (vi j47), (vi 0)]), res_of (l := [.tmp 4, .tmp 5, .tmp 6]) (by kernel_rfl) (vs := [(vi r29.ID), (vi j47), (vi 0)]) ⟨e49, ⟨e50, ⟨e51, trivial⟩⟩⟩, (.tuple #[(vi r29.ID), (vi j47), (vi 0)]), F5, rfl, hs45.clear, rfl⟩
end Go.Proofs.YtlddakefmfcblaaGreatDoor
namespace Go.Proofs.YtlddakefmfcblaaGreatDoor
open Go.Proofs
end Go.Proofs.YtlddakefmfcblaaGreatDoor
namespace Go.Proofs.YtlddakefmfcblaaGreatDoor
open Go.Proofs
end Go.Proofs.YtlddakefmfcblaaGreatDoor
namespace Go.Proofs.YtlddakefmfcblaaGreatDoor
open Go.Proofs
end Go.Proofs.YtlddakefmfcblaaGreatDoor
namespace Go.Proofs.YtlddakefmfcblaaGreatDoor
open Go.Proofs
end Go.Proofs.YtlddakefmfcblaaGreatDoor
namespace Go.Proofs.YtlddakefmfcblaaGreatDoor
theorem iter_check2 {ρ : Type} {body : Int → Option (Flow ρ Int)} {n : Nat} (ok : Nat → Bool) (bad : Nat → ρ)
  (hb : ∀ i, i < n → body (i : Int) = some (bif ok i then .next ((i + 1 : Nat) : Int) else .ret (bad i))) (he : body (n : Int) = some (.done (n : Int))) {N : Nat} (hN : n < N) :
  ((∀ i, i < n → ok i = true) ∧ iter body N 0 = some (.done (n : Int))) ∨ (∃ i, i < n ∧ ok i = false ∧ (∀ k, k < i → ok k = true) ∧ iter body N 0 = some (.ret (bad i))) := by
 obtain ⟨o, ho, hR⟩ := iter_ex (body := body) n (fun i s => s = (i : Int) ∧ ∀ k, k < i → ok k = true) (fun o => ((∀ i, i < n → ok i = true) ∧ o = .done (n : Int)) ∨ (∃ i, i < n ∧ ok i = false ∧ (∀ k, k < i → ok k = true) ∧ o = .ret (bad i))) (by
  rintro i s hi ⟨rfl, hk⟩
  by_cases h : i < n
  ·rw [hb i h]
   cases e : ok i with
   | true =>
    refine .inl ⟨_, rfl, ⟨rfl, fun k hk' => ?_⟩, h⟩
    by_cases hki : k = i
    ·subst hki; exact e
    ·exact hk k (by omega)
   | false => exact .inr ⟨_, rfl, (fun _ h => by cases h), .inr ⟨i, h, e, hk, rfl⟩⟩
  ·have : i = n := by omega
   subst this
   rw [he]
   exact .inr ⟨_, rfl, (fun _ h => by cases h), .inl ⟨hk, rfl⟩⟩) n N 0 0 (by omega) ⟨rfl, fun k hk => by omega⟩ hN
 rcases hR with ⟨h1, rfl⟩ | ⟨i, h1, h2, h3, rfl⟩
 ·exact .inl ⟨h1, ho⟩
 ·exact .inr ⟨i, h1, h2, h3, ho⟩
def bAt (l : List Band) (i : Nat) : Band := l.getD i { ID := 0, Lo := 0, Hi := 0 }
theorem idx_at {l : List Band} {i : Nat} (h : i < l.length) : idx l (i : Int) = some (bAt l i) := by
 rw [idx_nat h]; unfold bAt; rw [List.getD_eq_getElem?_getD, List.getElem?_eq_getElem h]; rfl
theorem bAt_mem {l : List Band} {i : Nat} (h : i < l.length) : bAt l i ∈ l := by
 unfold bAt; rw [List.getD_eq_getElem?_getD, List.getElem?_eq_getElem h]; exact List.getElem_mem h
theorem mem_bAt {l : List Band} {b : Band} (h : b ∈ l) : ∃ i, i < l.length ∧ b = bAt l i := by
 obtain ⟨i, hi, rfl⟩ := List.getElem_of_mem h
 exact ⟨i, hi, by unfold bAt; rw [List.getD_eq_getElem?_getD, List.getElem?_eq_getElem hi]; rfl⟩
def okBand (b : Band) : Bool := (decide (1 ≤ b.ID) && decide (b.ID ≤ 65535)) && ((decide (1 ≤ b.Lo) && decide (b.Lo ≤ b.Hi)) && decide (b.Hi ≤ 10000000))
def okNext (a b : Band) : Bool := decide (a.ID < b.ID) && decide (a.Hi < b.Lo)
def okAt (l : List Band) (i : Nat) : Bool := okBand (bAt l i) && (decide (i = 0) || okNext (bAt l (i - 1)) (bAt l i))
def vB (l : List Band) : Bool := allB l.length (okAt l) && decide (l.length ≤ 16)
theorem gt_dec (a b : Int) : decide (a > b) = !decide (a ≤ b) := by rw [← decide_not, decide_eq_decide]; omega
theorem lt_dec2 (a b : Int) : decide (a < b) = !decide (b ≤ a) := by rw [← decide_not, decide_eq_decide]; omega
theorem w64p (i : Nat) (h : i < 4611686018427387904) (h0 : 0 < i) : W64 ((i : Int) - 1) = ((i - 1 : Nat) : Int) := by
 rw [W64_id (by omega) (by omega)]; omega
section
variable {N : Nat} {l : List Band}
theorem s_ValidBands (hl : l.length < 4000000000) (hN : 4294967300 < N) : air_ValidBands N l = some (vB l) := by
 unfold air_ValidBands
 rw [iter_check' (n := l.length) (okAt l) false ?_ ?_ (by omega)]
 ·unfold vB
  have : decide ((l.length : Int) ≤ 16) = decide (l.length ≤ 16) := by rw [decide_eq_decide]; omega
  rw [this]
  cases allB l.length (okAt l) <;> rfl
 ·intro i hi
  unfold air_ValidBands_L0
  rw [lt_dec hi, cond_true, idx_at hi, Option.bind_some]
  simp only [m_within, Option.bind_some]
  unfold okAt okBand okNext
  rw [w64s i (by omega), gt_dec]
  by_cases h0 : i = 0
  ·subst h0
   rw [decide_eq_false (show ¬ (((0 : Nat) : Int) > 0) by decide), decide_eq_true (show 0 = 0 from rfl)]
   cases (decide (1 ≤ (bAt l 0).ID) && decide ((bAt l 0).ID ≤ 65535)) <;> cases (decide (1 ≤ (bAt l 0).Lo) && decide ((bAt l 0).Lo ≤ (bAt l 0).Hi)) <;> cases decide ((bAt l 0).Hi ≤ 10000000) <;> rfl
  ·rw [decide_eq_true (show (i : Int) > 0 by omega), decide_eq_false h0, w64p i (by omega) (by omega), idx_at (by omega)]
   simp only [Option.bind_some]
   rw [lt_dec2 (bAt l (i - 1)).ID, lt_dec2 (bAt l (i - 1)).Hi]
   cases (decide (1 ≤ (bAt l i).ID) && decide ((bAt l i).ID ≤ 65535)) <;> cases (decide (1 ≤ (bAt l i).Lo) && decide ((bAt l i).Lo ≤ (bAt l i).Hi)) <;> cases decide ((bAt l i).Hi ≤ 10000000) <;> cases decide ((bAt l i).ID ≤ (bAt l (i - 1)).ID) <;> cases decide ((bAt l i).Lo ≤ (bAt l (i - 1)).Hi) <;> rfl
 ·unfold air_ValidBands_L0
  rw [lt_dec', cond_false]
structure BandR (b : Band) : Prop where
 id1 : 1 ≤ b.ID
 id2 : b.ID ≤ 65535
 lo : 1 ≤ b.Lo
 le : b.Lo ≤ b.Hi
 hi : b.Hi ≤ 10000000
theorem okAt_ok {i : Nat} (h : okAt l i = true) : BandR (bAt l i) ∧ (0 < i → (bAt l (i - 1)).ID < (bAt l i).ID ∧ (bAt l (i - 1)).Hi < (bAt l i).Lo) := by
 unfold okAt okBand okNext at h
 simp only [Bool.and_eq_true, Bool.or_eq_true, decide_eq_true_eq] at h
 refine ⟨⟨h.1.1.1, h.1.1.2, h.1.2.1.1, h.1.2.1.2, h.1.2.2⟩, fun h0 => ?_⟩
 rcases h.2 with h2 | h2
 ·omega
 ·exact h2
theorem vB_ok (h : vB l = true) : l.length ≤ 16 ∧ (∀ b, b ∈ l → BandR b) ∧ ∀ j i, i < j → j < l.length → (bAt l i).ID < (bAt l j).ID ∧ (bAt l i).Hi < (bAt l j).Lo := by
 unfold vB at h
 simp only [Bool.and_eq_true, decide_eq_true_eq] at h
 have hall : ∀ i, i < l.length → BandR (bAt l i) := fun i hi => (okAt_ok (allB_t h.1 hi)).1
 refine ⟨h.2, ?_, ?_⟩
 ·intro b hb
  obtain ⟨i, hi, rfl⟩ := mem_bAt hb
  exact hall i hi
 ·intro j
  induction j with
  | zero => intro i hi; omega
  | succ j ih =>
   intro i hi hj
   have h1 := (okAt_ok (allB_t h.1 hj)).2 (by omega)
   rw [Nat.add_sub_cancel] at h1
   by_cases hij : i = j
   ·subst hij; exact h1
   ·have h2 := ih i (by omega) (by omega)
    have h3 := hall j (by omega)
    exact ⟨by omega, by have := h3.le; omega⟩
def dist (b : Band) (f : Int) : Int := max (max 0 (b.Lo - f)) (f - b.Hi)
def near (f : Int) (m b : Band) : Band := if dist b f < dist m f then b else m
def nearS (l : List Band) (f : Int) : Band := (List.range l.length).foldl (fun m i => near f m (bAt l i)) (bAt l 0)
theorem near_fold (f : Int) (l : List Band) (h0 : 0 < l.length) : ∀ n, n ≤ l.length → ((List.range n).foldl (fun m i => near f m (bAt l i)) (bAt l 0)) ∈ l ∧ ∀ i, i < n → dist ((List.range n).foldl (fun m i => near f m (bAt l i)) (bAt l 0)) f ≤ dist (bAt l i) f := by
 intro n
 induction n with
 | zero => intro _; exact ⟨bAt_mem h0, fun i hi => by omega⟩
 | succ n ih =>
  intro hn
  obtain ⟨h1, h2⟩ := ih (by omega)
  rw [List.range_succ, List.foldl_append]
  simp only [List.foldl_cons, List.foldl_nil]
  generalize (List.range n).foldl (fun m i => near f m (bAt l i)) (bAt l 0) = m at h1 h2 ⊢
  unfold near
  split
  ·rename_i hc
   refine ⟨bAt_mem (by omega), fun i hi => ?_⟩
   by_cases hin : i = n
   ·subst hin; exact Int.le_refl _
   ·have := h2 i (by omega); omega
  ·rename_i hc
   refine ⟨h1, fun i hi => ?_⟩
   by_cases hin : i = n
   ·subst hin; omega
   ·exact h2 i (by omega)
theorem nearS_mem (f : Int) (h0 : 0 < l.length) : nearS l f ∈ l := (near_fold f l h0 l.length (Nat.le_refl _)).1
theorem near_pos {f : Int} {m b : Band} (h : dist b f < dist m f) : near f m b = b := if_pos h
theorem near_neg {f : Int} {m b : Band} (h : ¬ dist b f < dist m f) : near f m b = m := if_neg h
theorem near_first (f : Int) (l : List Band) : near f (bAt l 0) (bAt l 0) = bAt l 0 := by unfold near; split <;> rfl
def wrongS (l : List Band) (f : Int) : Int := if vB l = true then (if 1 ≤ f ∧ f ≤ 10000000 then 0 else 1) else 11
theorem s_wrong (hl : l.length < 4000000000) (hN : 4294967300 < N) (f : Int) : air_wrongBands N l f = some (wrongS l f) := by
 unfold air_wrongBands wrongS
 rw [s_ValidBands hl hN, Option.bind_some, m_within]
 cases vB l with
 | false => rfl
 | true =>
  by_cases hf : 1 ≤ f ∧ f ≤ 10000000
  ·rw [if_pos rfl, if_pos hf, decide_eq_true hf.1, decide_eq_true hf.2]; rfl
  ·rw [if_pos rfl, if_neg hf]
   have : (decide (1 ≤ f) && decide (f ≤ 10000000)) = false := by rw [Bool.and_eq_false_iff, decide_eq_false_iff_not, decide_eq_false_iff_not]; omega
   rw [this]; rfl
def nearestS (l : List Band) (f : Int) : Int × Int × Int := if wrongS l f = 0 then (if l.length = 0 then (0, 0, 3) else ((nearS l f).ID, dist (nearS l f) f, 0)) else (0, 0, wrongS l f)
theorem wrong_ok {f : Int} (h : wrongS l f = 0) : vB l = true ∧ 1 ≤ f ∧ f ≤ 10000000 := by
 unfold wrongS at h
 split at h
 ·split at h
  ·exact ⟨by assumption, by omega, by omega⟩
  ·omega
 ·omega
theorem n1 {b : Band} {f : Int} (hb : BandR b) (h1 : 1 ≤ f) (h2 : f ≤ 10000000) : air_Nearest_1 N b f = some (dist b f) := by
 unfold air_Nearest_1 dist
 have := hb.lo; have := hb.le; have := hb.hi
 rw [W64_id (by omega) (by omega), W64_id (by omega) (by omega)]
theorem cmp_lt (a b : Int) : (cmp_Compare_int N a b).bind (fun r => some (decide (r < 0))) = some (decide (a < b)) := by
 unfold cmp_Compare_int cmp_isNaN_int
 rw [show (a != a) = false by simp, show (b != b) = false by simp]
 simp only [Option.bind_some, cond_false]
 by_cases h : a < b
 ·rw [decide_eq_true h]; rfl
 ·rw [decide_eq_false h, cond_false]
  cases decide (a > b) <;> rfl
theorem n2 {a b : Band} {f : Int} (ha : BandR a) (hb : BandR b) (h1 : 1 ≤ f) (h2 : f ≤ 10000000) : (air_Nearest_2 N a b (fun y0 => air_Nearest_1 N y0 f)).bind (fun r => some (decide (r < 0))) = some (decide (dist a f < dist b f)) := by
 unfold air_Nearest_2
 simp only [n1 ha h1 h2, n1 hb h1 h2, Option.bind_some]
 rw [← cmp_lt (N := N) (dist a f) (dist b f)]
 cases cmp_Compare_int N (dist a f) (dist b f) <;> rfl
theorem s_Min {f : Int} (hv : vB l = true) (h0 : 0 < l.length) (h1 : 1 ≤ f) (h2 : f ≤ 10000000) (hN : 4294967300 < N) : slices_MinFunc_api_Band_api_Band N l (fun y0 y1 => air_Nearest_2 N y0 y1 (fun y0 => air_Nearest_1 N y0 f)) = some (nearS l f) := by
 obtain ⟨h16, hR, _⟩ := vB_ok hv
 unfold slices_MinFunc_api_Band_api_Band
 rw [decide_eq_false (by omega), cond_false, show (0 : Int) = ((0 : Nat) : Int) from rfl, idx_at h0, Option.bind_some]
 let enc : Nat → Band → Int × Int × Int × Int := fun i m => ((i : Int), m.ID, m.Lo, m.Hi)
 let fo : Nat → Band := fun n => (List.range n).foldl (fun m i => near f m (bAt l i)) (bAt l 0)
 obtain ⟨o, ho, rfl⟩ := iter_ex (body := slices_MinFunc_api_Band_api_Band_L0 N l (fun y0 y1 => air_Nearest_2 N y0 y1 (fun y0 => air_Nearest_1 N y0 f)) (bAt l 0)) l.length (fun i s => 1 ≤ i ∧ s = enc i (fo i)) (fun o => o = .done (enc l.length (fo l.length))) (by
  rintro i s hi ⟨hi1, rfl⟩
  by_cases h : i < l.length
  ·refine .inl ⟨enc (i + 1) (fo (i + 1)), ?_, ⟨by omega, rfl⟩, h⟩
   have hm := (near_fold f l h0 i hi).1
   have e1 : fo (i + 1) = near f (fo i) (bAt l i) := by show (List.range (i + 1)).foldl _ _ = _; rw [List.range_succ, List.foldl_append]; rfl
   rw [e1]
   unfold slices_MinFunc_api_Band_api_Band_L0
   show (bif decide ((i : Int) < (l.length : Int)) then _ else _) = _
   rw [lt_dec h, cond_true]
   show ((idx l (i : Int)).bind _).bind _ = _
   rw [idx_at h, Option.bind_some]
   show (((air_Nearest_2 N (bAt l i) (fo i) (fun y0 => air_Nearest_1 N y0 f)).bind fun r75 => some (decide (r75 < 0))).bind _) = _
   rw [n2 (hR _ (bAt_mem h)) (hR _ hm) h1 h2, Option.bind_some]
   by_cases hd : dist (bAt l i) f < dist (fo i) f
   ·rw [decide_eq_true hd, cond_true, near_pos hd]
    show some (Flow.next (W64 ((i : Int) + 1), _, _, _)) = _
    rw [w64s i (by omega)]
   ·rw [decide_eq_false hd, cond_false, near_neg hd]
    show some (Flow.next (W64 ((i : Int) + 1), _, _, _)) = _
    rw [w64s i (by omega)]
  ·have : i = l.length := by omega
   subst this
   refine .inr ⟨_, ?_, (fun _ h => by cases h), rfl⟩
   unfold slices_MinFunc_api_Band_api_Band_L0
   show (bif decide ((l.length : Int) < (l.length : Int)) then _ else _) = _
   rw [lt_dec', cond_false]) (l.length - 1) N 1 (enc 1 (fo 1)) (by omega) ⟨Nat.le_refl _, rfl⟩ (by omega)
 have e1 : fo 1 = bAt l 0 := near_first f l
 have ho' := ho
 rw [e1] at ho'
 have : iter (slices_MinFunc_api_Band_api_Band_L0 N l (fun y0 y1 => air_Nearest_2 N y0 y1 (fun y0 => air_Nearest_1 N y0 f)) (bAt l 0)) N (1, (bAt l 0).ID, (bAt l 0).Lo, (bAt l 0).Hi) = some (.done (enc l.length (fo l.length))) := ho'
 rw [this]
 rfl
theorem s_Nearest (hl : l.length < 4000000000) (hN : 4294967300 < N) (f : Int) : air_Nearest N l f = some (nearestS l f) := by
 unfold air_Nearest nearestS
 rw [s_wrong hl hN, Option.bind_some]
 by_cases hw : wrongS l f = 0
 ·rw [if_pos hw, hw, show ((0 : Int) != 0) = false from rfl, cond_false]
  obtain ⟨hv, h1, h2⟩ := wrong_ok hw
  by_cases h0 : l.length = 0
  ·rw [if_pos h0, show ((l.length : Int) == 0) = true by simp [h0]]; rfl
  ·rw [if_neg h0, show ((l.length : Int) == 0) = false by simp; intro h; rw [h] at h0; exact h0 rfl, cond_false, s_Min hv (by omega) h1 h2 hN, Option.bind_some]
   rw [n1 ((vB_ok hv).2.1 _ (nearS_mem f (by omega))) h1 h2]
   rfl
 ·rw [if_neg hw, show (wrongS l f != 0) = true by simpa using hw, cond_true]
end
end Go.Proofs.YtlddakefmfcblaaGreatDoor
namespace Go.Proofs.YtlddakefmfcblaaGreatDoor
open Go.Proofs
def slices_IndexFunc_api_Prefix_api_Prefix_L0 (N : Nat) (x0 : (List Prefix)) (x1 : (Prefix → Option Bool)) : Int → Option (Flow Int Int) := fun s4 =>
 (bif (decide (s4 < (x0.length : Int))) then ((idx x0 s4).bind fun x26 => ((x1 x26).bind fun r40 => (bif r40 then some (.ret s4) else some (.next (W64 (s4 + 1)))))) else some (.done s4))
def slices_IndexFunc_api_Prefix_api_Prefix (N : Nat) (x0 : (List Prefix)) (x1 : (Prefix → Option Bool)) : Option Int :=
 ((iter (slices_IndexFunc_api_Prefix_api_Prefix_L0 N x0 x1) N 0).bind fun o => o.k (fun r => some r) (fun s13 => some (-1)))
theorem co_slices_IndexFunc_api_Prefix_api_Prefix : CallOk Tryz.prog 154 := fun _ _ => by kernel_rfl
set_option maxHeartbeats 4000000 in
set_option maxRecDepth 100000 in
theorem c_slices_IndexFunc_api_Prefix_api_Prefix (N : Nat) (w0 : World) (F0 : Mem) (hF : ∀ b o, F0 b = some o → w0.heap[b]? = some o) (x0 : (List Prefix)) (a0_0 : Option Addr) (n0_0 : Nat) (hb0_0 : LC x0.length n0_0) (hs0_0 : SlA tPrefix F0 a0_0 x0) (gx1 : FuncId) (fx1 kx1 : List Value) (x1 : Prefix → Option Bool) (hox1 : CallOk Tryz.prog gx1) (hpx1 : Fn151 F0 gx1 fx1 kx1 x1) (r : Int) (h : slices_IndexFunc_api_Prefix_api_Prefix N x0 x1 = some r) :
  Calls Tryz.prog 154 ([(.slice a0_0 x0.length n0_0), (.func (.func gx1) fx1.toArray kx1.toArray)] : List Value).toArray w0 (FRet w0 F0 fun F' v => v = (vi r)) := by
 have hs0 := HS.start hF
 refine calls_of (n := 19) (c := bodyOf Tryz.f154) Tryz.func154 (by kernel_rfl) (by kernel_rfl) (by kernel_rfl) ?_
 refine Sq (Rg [0] ?_)
 refine V 4 3 (mc (vi 0) (vi 0)) ?_
 refine Nss ?_
 refine Sq (Rg [0, 1, 2] ?_)
 refine V 6 61 (mv 0 (.slice a0_0 x0.length n0_0)) ?_
 refine V 7 3 (ln 6 61 a0_0 x0.length n0_0 71 7 64) ?_
 refine V 8 3 (run_move (x := (.const (vi 0))) (v := (vi 0)) rfl) ?_
 refine Nt ?_
 obtain ⟨o1, ho2, h3⟩ := bind_some h
 refine CWP.cut (fun f w => ∃ (s13 : Int) (F2 : Mem), o1 = .done s13 ∧ HS w0 F0 w F2 [] ∧ Mem.le F0 F2 ∧ f.d = []) ?_ ?_
 ·refine Bk ?_
  refine CWP.loop (by kernel_rfl) (fun m f w => ∃ (s4 : Int) (F1 : Mem), iter (slices_IndexFunc_api_Prefix_api_Prefix_L0 N x0 x1) m s4 = some o1 ∧ HS w0 F0 w F1 [] ∧ Mem.le F0 F1 ∧ f.d = [] ∧ f 0 = (.slice a0_0 x0.length n0_0) ∧ f 1 = (.func (.func gx1) fx1.toArray kx1.toArray) ∧ f 7 = (vi (x0.length : Int)) ∧ f 8 = (vi s4)) N ⟨0, F0, ho2, hs0, (Mem.le.refl _), rfl, rfl, rfl, rfl, rfl⟩ ?_
  rintro m18 f w5 ⟨s4, F1, hit19, hs6, le7, e8, e9, e10, e11, e12⟩
  obtain ⟨m20, fl21, rfl, hb22, hnx23⟩ := iter_step hit19
  refine Sq (Rg [0] ?_)
  refine V 9 0 (run_lss (t := 3) (t' := 3) (x := (.tmp 8)) (y := (.tmp 7)) (k := .i64) (a := s4) (b := (x0.length : Int)) e12 e11) ?_
  refine Nss ?_
  refine CWP.cond (t := (decide (s4 < (x0.length : Int)))) (by kernel_rfl) rfl (fun hb24 => ?_) (fun hb24 => ?_)
  ·have h25 := cond_t hb22 hb24
   refine Sc ?_
   refine thenQ_nrm ?_
   refine Sq ?_
   refine Bk ?_
   refine Sq (Rg [0, 1] ?_)
   refine V 10 3 (mv 8 (vi s4) e12) ?_
   refine V 5 3 (ma 10 (vi s4)) ?_
   refine Nss (Rg [0, 1, 2, 3, 4, 5] ?_)
   refine V 11 151 (mv 1 (.func (.func gx1) fx1.toArray kx1.toArray) e10) ?_
   refine V 12 61 (mv 0 (.slice a0_0 x0.length n0_0) e9) ?_
   refine V 13 3 (mv 5 (vi s4)) ?_
   obtain ⟨x26, hx27, h29⟩ := bind_some h25
   obtain ⟨hi28, hx27'⟩ := idx_spec hx27
   obtain ⟨b30, o31, C32, E33, fz34, rfl, hF36, hE37⟩ := SlA.open (SlA.mono hs0_0 le7) hx27'
   have hc39 := hE37 _ _ hx27'
   refine V 14 0 (ix 61 12 13 b30 o31 71 7 64 hi28) ?_
   refine V 15 71 (lx 71 14 0 7 true 7 (.agg #[(.string ⟨(x26.Text).toArray⟩), (vi x26.Country), (vi x26.Zone), (vi x26.Continent), (vi x26.From), (vi x26.To), (.bool x26.Whole)]) (hs6.pers _ _ hF36) hc39) ?_
   obtain ⟨r40, hr41, h42⟩ := bind_some h29
   refine RWP.call (dst := (some 16)) (ty := 4) (g := none) (by kernel_rfl) rfl (f0 := (.tmp 11)) (aos := #[(.tmp 15)]) (ats := #[71]) (fid := gx1) (first := fx1.toArray) (cap := kx1.toArray) (args := (fx1 ++ (([(.agg #[(.string ⟨(x26.Text).toArray⟩), (vi x26.Country), (vi x26.Zone), (vi x26.Continent), (vi x26.From), (vi x26.To), (.bool x26.Whole)])] : List Value) ++ kx1))) rfl hox1 (app_args2 (l := [(.agg #[(.string ⟨(x26.Text).toArray⟩), (vi x26.Country), (vi x26.Zone), (vi x26.Continent), (vi x26.From), (vi x26.To), (.bool x26.Whole)])]) (fi := fx1) (k := kx1) (rfl)) hs6 (hpx1 w5 F1 (x26) _ le7 hs6.pers hr41) ?_
   intro v43 F3 w44 hs45 le46 hp47
   obtain rfl := hp47
   refine Nt ?_
   refine CWP.cond (t := r40) (by kernel_rfl) rfl (fun hb48 => ?_) (fun hb48 => ?_)
   ·have h49 := cond_t h42 hb48
    refine Sq (Rg [0, 1] ?_)
    refine V 17 3 (mv 5 (vi s4)) ?_
    refine V 4 3 (ma 17 (vi s4)) ?_
    refine Nt ?_
    refine CWP.ret (by kernel_rfl) ?_
    refine blockQ_ret ?_
    refine thenQ_ret ?_
    refine thenQ_ret ?_
    refine blockQ_ret ?_
    have hret := iter_ret h49 hnx23
    subst hret
    refine .inr ?_
    refine thenQ_ret ?_
    have hfin := some_inj h3
    subst hfin
    exact ⟨e8, (vi s4), res_of (l := [.tmp 4]) (by kernel_rfl) (vs := [(vi s4)]) ⟨rfl, trivial⟩, (vi s4), F3, rfl, hs45.clear, rfl⟩
   ·have h50 := cond_f h42 hb48
    refine Sc ?_
    refine blockQ_nrm ?_
    refine thenQ_nrm ?_
    refine Rg [0, 1] ?_
    refine V 18 3 (run_add (t := 3) (t' := 3) (x := (.tmp 8)) (y := (.const (vi 1))) (k := .i64) (a := s4) (b := 1) e12 rfl) ?_
    refine V 8 3 (mv 18 (vi (W64 (s4 + 1)))) ?_
    refine RWP.nil ?_
    have hn51 := iter_next h50 hnx23
    exact ⟨m20, Nat.lt_succ_self _, (W64 (s4 + 1)), F3, hn51, hs45, (le7.trans le46), e8, e9, e10, e11, rfl⟩
  ·have h52 := cond_f hb22 hb24
   refine CWP.exit (by kernel_rfl) ?_
   refine thenQ_ex ?_
   refine thenQ_ex ?_
   refine blockQ_hit rfl ?_
   have ho53 := iter_done h52 hnx23
   exact .inl ⟨rfl, s4, F1, ho53, hs6, le7, e8⟩
 ·rintro f w14 ⟨s13, F2, rfl, hs15, le16, e17⟩
  have h54 := k_done h3
  refine thenQ_nrm ?_
  refine Sq (Rg [0] ?_)
  refine V 4 3 (mc (vi (-1)) (vi (-1))) ?_
  refine Nt ?_
  refine CWP.ret (by kernel_rfl) ?_
  have hfin := some_inj h54
  subst hfin
  exact ⟨e17, (vi (-1)), res_of (l := [.tmp 4]) (by kernel_rfl) (vs := [(vi (-1))]) ⟨rfl, trivial⟩, (vi (-1)), F2, rfl, hs15.clear, rfl⟩
end Go.Proofs.YtlddakefmfcblaaGreatDoor
namespace Go.Proofs.YtlddakefmfcblaaGreatDoor
open Go.Proofs
def slices_ContainsFunc_api_Prefix_api_Prefix (N : Nat) (x0 : (List Prefix)) (x1 : (Prefix → Option Bool)) : Option Bool :=
 ((slices_IndexFunc_api_Prefix_api_Prefix N x0 x1).bind fun r1 => some (decide (r1 ≥ 0)))
theorem co_slices_ContainsFunc_api_Prefix_api_Prefix : CallOk Tryz.prog 122 := fun _ _ => by kernel_rfl
set_option maxHeartbeats 4000000 in
set_option maxRecDepth 100000 in
theorem c_slices_ContainsFunc_api_Prefix_api_Prefix (N : Nat) (w0 : World) (F0 : Mem) (hF : ∀ b o, F0 b = some o → w0.heap[b]? = some o) (x0 : (List Prefix)) (a0_0 : Option Addr) (n0_0 : Nat) (hb0_0 : LC x0.length n0_0) (hs0_0 : SlA tPrefix F0 a0_0 x0) (gx1 : FuncId) (fx1 kx1 : List Value) (x1 : Prefix → Option Bool) (hox1 : CallOk Tryz.prog gx1) (hpx1 : Fn151 F0 gx1 fx1 kx1 x1) (r : Bool) (h : slices_ContainsFunc_api_Prefix_api_Prefix N x0 x1 = some r) :
  Calls Tryz.prog 122 ([(.slice a0_0 x0.length n0_0), (.func (.func gx1) fx1.toArray kx1.toArray)] : List Value).toArray w0 (FRet w0 F0 fun F' v => v = (.bool r)) := by
 have hs0 := HS.start hF
 refine calls_of (n := 9) (c := bodyOf Tryz.f122) Tryz.func122 (by kernel_rfl) (by kernel_rfl) (by kernel_rfl) ?_
 refine Sq (Rg [0] ?_)
 refine V 4 4 (mc (.bool false) (.bool false)) ?_
 refine Nss (Rg [0, 1, 2, 3, 4] ?_)
 refine V 5 61 (mv 0 (.slice a0_0 x0.length n0_0)) ?_
 refine V 6 151 (mv 1 (.func (.func gx1) fx1.toArray kx1.toArray)) ?_
 obtain ⟨r1, hr2, h3⟩ := bind_some h
 refine Cl 7 3 154 #[(.tmp 5), (.tmp 6)] #[61, 151] co_slices_IndexFunc_api_Prefix_api_Prefix hs0 (c_slices_IndexFunc_api_Prefix_api_Prefix N w0 F0 hs0.pers (x0) a0_0 n0_0 hb0_0 hs0_0 gx1 fx1 kx1 x1 hox1 (fun w1 F1 y0 r le1 pe1 hr1 => hpx1 w1 F1 y0 r (le1) pe1 hr1) _ hr2) ?_
 intro v4 F1 w5 hs6 le7 hp8
 obtain rfl := hp8
 refine V 8 4 (run_geq (t := 3) (t' := 3) (x := (.tmp 7)) (y := (.const (vi 0))) (k := .i64) (a := r1) (b := 0) rfl rfl) ?_
 refine V 4 4 (ma 8 (.bool (decide (r1 ≥ 0)))) ?_
 refine Nt ?_
 refine CWP.ret (by kernel_rfl) ?_
 have hfin := some_inj h3
 subst hfin
 exact ⟨rfl, (.bool (decide (r1 ≥ 0))), res_of (l := [.tmp 4]) (by kernel_rfl) (vs := [(.bool (decide (r1 ≥ 0)))]) ⟨rfl, trivial⟩, (.bool (decide (r1 ≥ 0))), F1, rfl, hs6.clear, rfl⟩
end Go.Proofs.YtlddakefmfcblaaGreatDoor
namespace Go.Proofs.YtlddakefmfcblaaGreatDoor
open Go.Proofs
def air_validRow_1 (N : Nat) (x0 : Int) (z0 : Prefix) : Option Bool :=
 (((air_either N x0).bind fun r9 => (bif r9 then some true else (bif z0.Whole then some (x0 == 47) else some false))).bind fun j4 => some j4)
theorem co_air_validRow_1 : CallOk Tryz.prog 155 := fun _ _ => by kernel_rfl
set_option maxHeartbeats 4000000 in
set_option maxRecDepth 100000 in
theorem c_air_validRow_1 (N : Nat) (w0 : World) (F0 : Mem) (hF : ∀ b o, F0 b = some o → w0.heap[b]? = some o) (x0 : Int) (bz0 : Nat) (z0 : Prefix) (hz0 : F0 bz0 = some (oc #[(.string ⟨(z0.Text).toArray⟩), (vi z0.Country), (vi z0.Zone), (vi z0.Continent), (vi z0.From), (vi z0.To), (.bool z0.Whole)] 71)) (r : Bool) (h : air_validRow_1 N x0 z0 = some r) :
  Calls Tryz.prog 155 ([(.int .i32 x0), (.pointer (some ⟨bz0, 0, none⟩))] : List Value).toArray w0 (FRet w0 F0 fun F' v => v = (.bool r)) := by
 have hs0 := HS.start hF
 refine calls_of (n := 14) (c := bodyOf Tryz.f155) Tryz.func155 (by kernel_rfl) (by kernel_rfl) (by kernel_rfl) ?_
 refine Sq (Rg [0] ?_)
 refine V 3 4 (mc (.bool false) (.bool false)) ?_
 refine Nss (Rg [0, 1, 2, 3, 4, 5, 6, 7, 8, 9, 10] ?_)
 obtain ⟨j4, hj7, h8⟩ := bind_some h
 refine RWP.cut (fun f w => ∃ (F1 : Mem), HS w0 F0 w F1 [] ∧ Mem.le F0 F1 ∧ f.d = [] ∧ f 3 = (.bool j4)) ?_ ?_
 ·refine V 4 21 (mv 0 (.int .i32 x0)) ?_
  obtain ⟨r9, hr10, h11⟩ := bind_some hj7
  refine Cl 5 4 156 #[(.tmp 4)] #[21] co_air_either hs0 (c_air_either N w0 F0 hs0.pers (x0) _ hr10) ?_
  intro v12 F2 w13 hs14 le15 hp16
  obtain rfl := hp16
  refine V 6 4 (mv 5 (.bool r9)) ?_
  refine RWP.split r9 (fun hb17 => ?_) (fun hb17 => ?_)
  ·have h18 := cond_t h11 hb17
   refine Sk [7, 8, 9] 2 false 6 hb17 ?_
   refine Su [10, 11] 5 true 9 ?_
   refine Sk [12] 2 false 6 hb17 ?_
   refine V 13 4 (p1 6 (.const (.bool true)) (.tmp 12) (.bool true) hb17) ?_
   refine V 3 4 (ma 13 (.bool true)) ?_
   obtain rfl := some_inj h18
   exact RWP.nil ⟨rfl, F2, hs14, le15, rfl, rfl⟩
  ·have h19 := cond_f h11 hb17
   refine Vg 7 0 2 false 6 hb17 (fa 71 1 6 6 1 bz0 0 6) ?_
   refine Vg 8 4 2 false 6 hb17 (ld 4 7 bz0 6 false 1 (.bool z0.Whole) (hs14.pers _ _ (le15 _ _ hz0))) ?_
   refine Vg 9 4 2 false 6 hb17 (mv 8 (.bool z0.Whole)) ?_
   refine RWP.split z0.Whole (fun hb20 => ?_) (fun hb20 => ?_)
   ·have h21 := cond_t h19 hb20
    refine Vg 10 21 5 true 9 hb20 (mv 0 (.int .i32 x0)) ?_
    refine Vg 11 4 5 true 9 hb20 (run_eql (t := 21) (t' := 21) (x := (.tmp 10)) (y := (.const (.int .i32 47))) (k := .i32) (a := x0) (b := 47) rfl rfl) ?_
    refine Vg 12 4 2 false 6 hb17 (p1 9 (.tmp 11) (.const (.bool false)) (.bool (x0 == 47)) hb20) ?_
    refine V 13 4 (p0 6 (.const (.bool true)) (.tmp 12) (.bool (x0 == 47)) hb17) ?_
    refine V 3 4 (ma 13 (.bool (x0 == 47))) ?_
    obtain rfl := some_inj h21
    exact RWP.nil ⟨rfl, F2, hs14, le15, rfl, rfl⟩
   ·have h22 := cond_f h19 hb20
    refine Sk [10, 11] 5 true 9 hb20 ?_
    refine Vg 12 4 2 false 6 hb17 (p0 9 (.tmp 11) (.const (.bool false)) (.bool false) hb20) ?_
    refine V 13 4 (p0 6 (.const (.bool true)) (.tmp 12) (.bool false) hb17) ?_
    refine V 3 4 (ma 13 (.bool false)) ?_
    obtain rfl := some_inj h22
    exact RWP.nil ⟨rfl, F2, hs14, le15, rfl, rfl⟩
 ·rintro f w1 ⟨F1, hs2, le3, e5, e6⟩
  refine thenQ_nrm ?_
  refine CWP.ret (by kernel_rfl) ?_
  have hfin := some_inj h8
  subst hfin
  exact ⟨e5, (.bool j4), res_of (l := [.tmp 3]) (by kernel_rfl) (vs := [(.bool j4)]) ⟨e6, trivial⟩, (.bool j4), F1, rfl, hs2.clear, rfl⟩
end Go.Proofs.YtlddakefmfcblaaGreatDoor
namespace Go.Proofs.YtlddakefmfcblaaGreatDoor
open Go.Proofs
def air_validRow (N : Nat) (x0 : Prefix) : Option Bool :=
 (((air_only N x0.Text 16 (fun y0 => air_validRow_1 N y0 x0)).bind fun r15 => (bif r15 then ((air_within N x0.Country 1 65535).bind fun r25 => (bif r25 then ((air_within N x0.Zone 1 99).bind fun r35 => (bif r35 then ((air_within N x0.Continent 1 7).bind fun r45 => (bif r45 then ((air_within N x0.From 0 x0.To).bind fun r55 => (bif r55 then some (decide (x0.To ≤ 99999)) else some false)) else some false)) else some false)) else some false)) else some false)).bind fun j7 => some j7)
theorem co_air_validRow : CallOk Tryz.prog 124 := fun _ _ => by kernel_rfl
set_option maxHeartbeats 4000000 in
set_option maxRecDepth 100000 in
theorem c_air_validRow (N : Nat) (w0 : World) (F0 : Mem) (hF : ∀ b o, F0 b = some o → w0.heap[b]? = some o) (x0 : Prefix) (r : Bool) (h : air_validRow N x0 = some r) :
  Calls Tryz.prog 124 ([(.agg #[(.string ⟨(x0.Text).toArray⟩), (vi x0.Country), (vi x0.Zone), (vi x0.Continent), (vi x0.From), (vi x0.To), (.bool x0.Whole)])] : List Value).toArray w0 (FRet w0 F0 fun F' v => v = (.bool r)) := by
 have hs0 := HS.start hF
 refine calls_of (n := 36) (c := bodyOf Tryz.f124) Tryz.func124 (by kernel_rfl) (by kernel_rfl) (by kernel_rfl) ?_
 refine Sq (Rg [0, 1] ?_)
 refine Bx 1 0 0 71 #[(.string ⟨(x0.Text).toArray⟩), (vi x0.Country), (vi x0.Zone), (vi x0.Continent), (vi x0.From), (vi x0.To), (.bool x0.Whole)] hs0 (fun b1 w2 (hs3 : HS w0 F0 w2 F0 [(sb b1 #[(.string ⟨(x0.Text).toArray⟩), (vi x0.Country), (vi x0.Zone), (vi x0.Continent), (vi x0.From), (vi x0.To), (.bool x0.Whole)] 71)]) => ?_)
 refine V 2 4 (mc (.bool false) (.bool false)) ?_
 refine Nss (Rg [0, 1] ?_)
 refine V 4 84 (run_makeFunc (fn := .func 155) (first := #[]) (cap := #[(.tmp 1)]) (fl := []) (cl := [(.pointer (some ⟨b1, 0, none⟩))]) rfl (rfl)) ?_
 refine V 3 84 (ma 4 (.func (.func 155) #[] #[(.pointer (some ⟨b1, 0, none⟩))])) ?_
 refine Nss (Rg [0, 1, 2, 3, 4, 5, 6, 7, 8, 9, 10, 11, 12, 13, 14, 15, 16, 17, 18, 19, 20, 21, 22, 23, 24, 25, 26, 27, 28, 29, 30, 31] ?_)
 obtain ⟨j7, hj10, h11⟩ := bind_some h
 refine RWP.cut (fun f w => ∃ (F1 : Mem), HS w0 F0 w F1 [] ∧ Mem.le F0 F1 ∧ f.d = [] ∧ f 2 = (.bool j7)) ?_ ?_
 ·refine V 5 0 (fa 71 1 0 0 1 b1 0 0) ?_
  refine V 6 9 (ld 9 5 b1 0 false 1 (.string ⟨(x0.Text).toArray⟩) (hs3.ownAt (k := 0) rfl)) ?_
  refine V 7 84 (mv 3 (.func (.func 155) #[] #[(.pointer (some ⟨b1, 0, none⟩))])) ?_
  obtain ⟨F2, hs12, le13, hF14⟩ : ∃ Fq, HS w0 F0 w2 Fq [] ∧ Mem.le F0 Fq ∧ Fq b1 = some (oc #[(.string ⟨(x0.Text).toArray⟩), (vi x0.Country), (vi x0.Zone), (vi x0.Continent), (vi x0.From), (vi x0.To), (.bool x0.Whole)] 71) := HS.freezeC hs3 (k := 0) rfl
  obtain ⟨r15, hr16, h17⟩ := bind_some hj10
  refine Cl 8 4 65 #[(.tmp 6), (.const (vi 16)), (.tmp 7)] #[9, 3, 84] co_air_only hs12 (c_air_only N w2 F2 hs12.pers (x0.Text) (16) 155 [] [(.pointer (some ⟨b1, 0, none⟩))] (fun y0 => air_validRow_1 N y0 x0) co_air_validRow_1 (fun w1 F1 y0 r le1 pe1 hr1 => c_air_validRow_1 N w1 F1 pe1  y0 b1 x0 (le1 _ _ hF14) r hr1) _ hr16) ?_
  intro v18 F3 w19 hs20 le21 hp22
  obtain rfl := hp22
  refine V 9 4 (mv 8 (.bool r15)) ?_
  refine RWP.split r15 (fun hb23 => ?_) (fun hb23 => ?_)
  ·have h24 := cond_t h17 hb23
   refine Vg 10 0 4 true 9 hb23 (fa 71 1 1 1 1 b1 0 1) ?_
   refine Vg 11 3 4 true 9 hb23 (ld 3 10 b1 1 false 1 (vi x0.Country) (hs20.pers _ _ (le21 _ _ hF14))) ?_
   obtain ⟨r25, hr26, h27⟩ := bind_some h24
   refine RWP.call (dst := (some 12)) (ty := 4) (g := (some (4, true))) (by kernel_rfl) (gd_y (d := 9) (by kernel_rfl) rfl hb23) (f0 := (.func 73)) (aos := #[(.tmp 11), (.const (vi 1)), (.const (vi 65535))]) (ats := #[3, 3, 3]) (fid := 73) (first := #[]) (cap := #[]) (args := [(vi x0.Country), (vi 1), (vi 65535)]) rfl co_air_within (rfl) hs20 (c_air_within N w19 F3 hs20.pers (x0.Country) (1) (65535) _ hr26) ?_
   intro v28 F4 w29 hs30 le31 hp32
   obtain rfl := hp32
   refine V 13 4 (p1 9 (.tmp 12) (.const (.bool false)) (.bool r25) hb23) ?_
   refine V 14 4 (mv 13 (.bool r25)) ?_
   refine RWP.split r25 (fun hb33 => ?_) (fun hb33 => ?_)
   ·have h34 := cond_t h27 hb33
    refine Vg 15 0 9 true 14 hb33 (fa 71 1 2 2 1 b1 0 2) ?_
    refine Vg 16 3 9 true 14 hb33 (ld 3 15 b1 2 false 1 (vi x0.Zone) (hs30.pers _ _ ((le21.trans le31) _ _ hF14))) ?_
    obtain ⟨r35, hr36, h37⟩ := bind_some h34
    refine RWP.call (dst := (some 17)) (ty := 4) (g := (some (9, true))) (by kernel_rfl) (gd_y (d := 14) (by kernel_rfl) rfl hb33) (f0 := (.func 73)) (aos := #[(.tmp 16), (.const (vi 1)), (.const (vi 99))]) (ats := #[3, 3, 3]) (fid := 73) (first := #[]) (cap := #[]) (args := [(vi x0.Zone), (vi 1), (vi 99)]) rfl co_air_within (rfl) hs30 (c_air_within N w29 F4 hs30.pers (x0.Zone) (1) (99) _ hr36) ?_
    intro v38 F5 w39 hs40 le41 hp42
    obtain rfl := hp42
    refine V 18 4 (p1 14 (.tmp 17) (.const (.bool false)) (.bool r35) hb33) ?_
    refine V 19 4 (mv 18 (.bool r35)) ?_
    refine RWP.split r35 (fun hb43 => ?_) (fun hb43 => ?_)
    ·have h44 := cond_t h37 hb43
     refine Vg 20 0 14 true 19 hb43 (fa 71 1 3 3 1 b1 0 3) ?_
     refine Vg 21 3 14 true 19 hb43 (ld 3 20 b1 3 false 1 (vi x0.Continent) (hs40.pers _ _ (((le21.trans le31).trans le41) _ _ hF14))) ?_
     obtain ⟨r45, hr46, h47⟩ := bind_some h44
     refine RWP.call (dst := (some 22)) (ty := 4) (g := (some (14, true))) (by kernel_rfl) (gd_y (d := 19) (by kernel_rfl) rfl hb43) (f0 := (.func 73)) (aos := #[(.tmp 21), (.const (vi 1)), (.const (vi 7))]) (ats := #[3, 3, 3]) (fid := 73) (first := #[]) (cap := #[]) (args := [(vi x0.Continent), (vi 1), (vi 7)]) rfl co_air_within (rfl) hs40 (c_air_within N w39 F5 hs40.pers (x0.Continent) (1) (7) _ hr46) ?_
     intro v48 F6 w49 hs50 le51 hp52
     obtain rfl := hp52
     refine V 23 4 (p1 19 (.tmp 22) (.const (.bool false)) (.bool r45) hb43) ?_
     refine V 24 4 (mv 23 (.bool r45)) ?_
     refine RWP.split r45 (fun hb53 => ?_) (fun hb53 => ?_)
     ·have h54 := cond_t h47 hb53
      refine Vg 25 0 19 true 24 hb53 (fa 71 1 4 4 1 b1 0 4) ?_
      refine Vg 26 3 19 true 24 hb53 (ld 3 25 b1 4 false 1 (vi x0.From) (hs50.pers _ _ ((((le21.trans le31).trans le41).trans le51) _ _ hF14))) ?_
      refine Vg 27 0 19 true 24 hb53 (fa 71 1 5 5 1 b1 0 5) ?_
      refine Vg 28 3 19 true 24 hb53 (ld 3 27 b1 5 false 1 (vi x0.To) (hs50.pers _ _ ((((le21.trans le31).trans le41).trans le51) _ _ hF14))) ?_
      obtain ⟨r55, hr56, h57⟩ := bind_some h54
      refine RWP.call (dst := (some 29)) (ty := 4) (g := (some (19, true))) (by kernel_rfl) (gd_y (d := 24) (by kernel_rfl) rfl hb53) (f0 := (.func 73)) (aos := #[(.tmp 26), (.const (vi 0)), (.tmp 28)]) (ats := #[3, 3, 3]) (fid := 73) (first := #[]) (cap := #[]) (args := [(vi x0.From), (vi 0), (vi x0.To)]) rfl co_air_within (rfl) hs50 (c_air_within N w49 F6 hs50.pers (x0.From) (0) (x0.To) _ hr56) ?_
      intro v58 F7 w59 hs60 le61 hp62
      obtain rfl := hp62
      refine V 30 4 (p1 24 (.tmp 29) (.const (.bool false)) (.bool r55) hb53) ?_
      refine V 31 4 (mv 30 (.bool r55)) ?_
      refine RWP.split r55 (fun hb63 => ?_) (fun hb63 => ?_)
      ·have h64 := cond_t h57 hb63
       refine Vg 32 0 26 true 31 hb63 (fa 71 1 5 5 1 b1 0 5) ?_
       refine Vg 33 3 26 true 31 hb63 (ld 3 32 b1 5 false 1 (vi x0.To) (hs60.pers _ _ (((((le21.trans le31).trans le41).trans le51).trans le61) _ _ hF14))) ?_
       refine Vg 34 4 26 true 31 hb63 (run_leq (t := 3) (t' := 3) (x := (.tmp 33)) (y := (.const (vi 99999))) (k := .i64) (a := x0.To) (b := 99999) rfl rfl) ?_
       refine V 35 4 (p1 31 (.tmp 34) (.const (.bool false)) (.bool (decide (x0.To ≤ 99999))) hb63) ?_
       refine V 2 4 (ma 35 (.bool (decide (x0.To ≤ 99999)))) ?_
       obtain rfl := some_inj h64
       exact RWP.nil ⟨rfl, F7, hs60, (((((le13.trans le21).trans le31).trans le41).trans le51).trans le61), rfl, rfl⟩
      ·have h65 := cond_f h57 hb63
       refine Sk [32, 33, 34] 26 true 31 hb63 ?_
       refine V 35 4 (p0 31 (.tmp 34) (.const (.bool false)) (.bool false) hb63) ?_
       refine V 2 4 (ma 35 (.bool false)) ?_
       obtain rfl := some_inj h65
       exact RWP.nil ⟨rfl, F7, hs60, (((((le13.trans le21).trans le31).trans le41).trans le51).trans le61), rfl, rfl⟩
     ·have h66 := cond_f h47 hb53
      refine Sk [25, 26, 27, 28, 29] 19 true 24 hb53 ?_
      refine V 30 4 (p0 24 (.tmp 29) (.const (.bool false)) (.bool false) hb53) ?_
      refine V 31 4 (mv 30 (.bool false)) ?_
      refine Sk [32, 33, 34] 26 true 31 rfl ?_
      refine V 35 4 (p0 31 (.tmp 34) (.const (.bool false)) (.bool false) rfl) ?_
      refine V 2 4 (ma 35 (.bool false)) ?_
      obtain rfl := some_inj h66
      exact RWP.nil ⟨rfl, F6, hs50, ((((le13.trans le21).trans le31).trans le41).trans le51), rfl, rfl⟩
    ·have h67 := cond_f h37 hb43
     refine Sk [20, 21, 22] 14 true 19 hb43 ?_
     refine V 23 4 (p0 19 (.tmp 22) (.const (.bool false)) (.bool false) hb43) ?_
     refine V 24 4 (mv 23 (.bool false)) ?_
     refine Sk [25, 26, 27, 28, 29] 19 true 24 rfl ?_
     refine V 30 4 (p0 24 (.tmp 29) (.const (.bool false)) (.bool false) rfl) ?_
     refine V 31 4 (mv 30 (.bool false)) ?_
     refine Sk [32, 33, 34] 26 true 31 rfl ?_
     refine V 35 4 (p0 31 (.tmp 34) (.const (.bool false)) (.bool false) rfl) ?_
     refine V 2 4 (ma 35 (.bool false)) ?_
     obtain rfl := some_inj h67
     exact RWP.nil ⟨rfl, F5, hs40, (((le13.trans le21).trans le31).trans le41), rfl, rfl⟩
   ·have h68 := cond_f h27 hb33
    refine Sk [15, 16, 17] 9 true 14 hb33 ?_
    refine V 18 4 (p0 14 (.tmp 17) (.const (.bool false)) (.bool false) hb33) ?_
    refine V 19 4 (mv 18 (.bool false)) ?_
    refine Sk [20, 21, 22] 14 true 19 rfl ?_
    refine V 23 4 (p0 19 (.tmp 22) (.const (.bool false)) (.bool false) rfl) ?_
    refine V 24 4 (mv 23 (.bool false)) ?_
    refine Sk [25, 26, 27, 28, 29] 19 true 24 rfl ?_
    refine V 30 4 (p0 24 (.tmp 29) (.const (.bool false)) (.bool false) rfl) ?_
    refine V 31 4 (mv 30 (.bool false)) ?_
    refine Sk [32, 33, 34] 26 true 31 rfl ?_
    refine V 35 4 (p0 31 (.tmp 34) (.const (.bool false)) (.bool false) rfl) ?_
    refine V 2 4 (ma 35 (.bool false)) ?_
    obtain rfl := some_inj h68
    exact RWP.nil ⟨rfl, F4, hs30, ((le13.trans le21).trans le31), rfl, rfl⟩
  ·have h69 := cond_f h17 hb23
   refine Sk [10, 11, 12] 4 true 9 hb23 ?_
   refine V 13 4 (p0 9 (.tmp 12) (.const (.bool false)) (.bool false) hb23) ?_
   refine V 14 4 (mv 13 (.bool false)) ?_
   refine Sk [15, 16, 17] 9 true 14 rfl ?_
   refine V 18 4 (p0 14 (.tmp 17) (.const (.bool false)) (.bool false) rfl) ?_
   refine V 19 4 (mv 18 (.bool false)) ?_
   refine Sk [20, 21, 22] 14 true 19 rfl ?_
   refine V 23 4 (p0 19 (.tmp 22) (.const (.bool false)) (.bool false) rfl) ?_
   refine V 24 4 (mv 23 (.bool false)) ?_
   refine Sk [25, 26, 27, 28, 29] 19 true 24 rfl ?_
   refine V 30 4 (p0 24 (.tmp 29) (.const (.bool false)) (.bool false) rfl) ?_
   refine V 31 4 (mv 30 (.bool false)) ?_
   refine Sk [32, 33, 34] 26 true 31 rfl ?_
   refine V 35 4 (p0 31 (.tmp 34) (.const (.bool false)) (.bool false) rfl) ?_
   refine V 2 4 (ma 35 (.bool false)) ?_
   obtain rfl := some_inj h69
   exact RWP.nil ⟨rfl, F3, hs20, (le13.trans le21), rfl, rfl⟩
 ·rintro f w4 ⟨F1, hs5, le6, e8, e9⟩
  refine thenQ_nrm ?_
  refine CWP.ret (by kernel_rfl) ?_
  have hfin := some_inj h11
  subst hfin
  exact ⟨e8, (.bool j7), res_of (l := [.tmp 2]) (by kernel_rfl) (vs := [(.bool j7)]) ⟨e9, trivial⟩, (.bool j7), F1, rfl, hs5.clear, rfl⟩
end Go.Proofs.YtlddakefmfcblaaGreatDoor
namespace Go.Proofs.YtlddakefmfcblaaGreatDoor
open Go.Proofs
def air_rows_1 (N : Nat) (x0 : Prefix) : Option Bool :=
 ((air_validRow N x0).bind fun r4 => some (!r4))
theorem co_air_rows_1 : CallOk Tryz.prog 123 := fun _ _ => by kernel_rfl
set_option maxHeartbeats 4000000 in
set_option maxRecDepth 100000 in
theorem c_air_rows_1 (N : Nat) (w0 : World) (F0 : Mem) (hF : ∀ b o, F0 b = some o → w0.heap[b]? = some o) (x0 : Prefix) (r : Bool) (h : air_rows_1 N x0 = some r) :
  Calls Tryz.prog 123 ([(.agg #[(.string ⟨(x0.Text).toArray⟩), (vi x0.Country), (vi x0.Zone), (vi x0.Continent), (vi x0.From), (vi x0.To), (.bool x0.Whole)])] : List Value).toArray w0 (FRet w0 F0 fun F' v => v = (.bool r)) := by
 have hs0 := HS.start hF
 refine calls_of (n := 6) (c := bodyOf Tryz.f123) Tryz.func123 (by kernel_rfl) (by kernel_rfl) (by kernel_rfl) ?_
 refine Sq (Rg [0, 1] ?_)
 refine Bx 1 0 0 71 #[(.string ⟨(x0.Text).toArray⟩), (vi x0.Country), (vi x0.Zone), (vi x0.Continent), (vi x0.From), (vi x0.To), (.bool x0.Whole)] hs0 (fun b1 w2 (hs3 : HS w0 F0 w2 F0 [(sb b1 #[(.string ⟨(x0.Text).toArray⟩), (vi x0.Country), (vi x0.Zone), (vi x0.Continent), (vi x0.From), (vi x0.To), (.bool x0.Whole)] 71)]) => ?_)
 refine V 2 4 (mc (.bool false) (.bool false)) ?_
 refine Nss (Rg [0, 1, 2, 3] ?_)
 refine V 3 71 (ld 71 1 b1 0 true 7 (.agg #[(.string ⟨(x0.Text).toArray⟩), (vi x0.Country), (vi x0.Zone), (vi x0.Continent), (vi x0.From), (vi x0.To), (.bool x0.Whole)]) (hs3.ownAt (k := 0) rfl)) ?_
 obtain ⟨r4, hr5, h6⟩ := bind_some h
 refine Cl 4 4 124 #[(.tmp 3)] #[71] co_air_validRow hs3 (c_air_validRow N w2 F0 hs3.pers (x0) _ hr5) ?_
 intro v7 F1 w8 hs9 le10 hp11
 obtain rfl := hp11
 refine V 5 4 (run_not (t := 4) (x := (.tmp 4)) (a := r4) rfl) ?_
 refine V 2 4 (ma 5 (.bool (!r4))) ?_
 refine Nt ?_
 refine CWP.ret (by kernel_rfl) ?_
 have hfin := some_inj h6
 subst hfin
 exact ⟨rfl, (.bool (!r4)), res_of (l := [.tmp 2]) (by kernel_rfl) (vs := [(.bool (!r4))]) ⟨rfl, trivial⟩, (.bool (!r4)), F1, rfl, hs9.clear, rfl⟩
end Go.Proofs.YtlddakefmfcblaaGreatDoor
namespace Go.Proofs.YtlddakefmfcblaaGreatDoor
open Go.Proofs
def air_rows (N : Nat) (x0 : (List Prefix)) : Option Bool :=
 ((bif (decide ((x0.length : Int) ≤ 400)) then ((slices_ContainsFunc_api_Prefix_api_Prefix N x0 (fun y0 => air_rows_1 N y0)).bind fun r11 => some (!r11)) else some false).bind fun j4 => some j4)
theorem co_air_rows : CallOk Tryz.prog 92 := fun _ _ => by kernel_rfl
set_option maxHeartbeats 4000000 in
set_option maxRecDepth 100000 in
theorem c_air_rows (N : Nat) (w0 : World) (F0 : Mem) (hF : ∀ b o, F0 b = some o → w0.heap[b]? = some o) (x0 : (List Prefix)) (a0_0 : Option Addr) (n0_0 : Nat) (hb0_0 : LC x0.length n0_0) (hs0_0 : SlA tPrefix F0 a0_0 x0) (r : Bool) (h : air_rows N x0 = some r) :
  Calls Tryz.prog 92 ([(.slice a0_0 x0.length n0_0)] : List Value).toArray w0 (FRet w0 F0 fun F' v => v = (.bool r)) := by
 have hs0 := HS.start hF
 refine calls_of (n := 11) (c := bodyOf Tryz.f92) Tryz.func92 (by kernel_rfl) (by kernel_rfl) (by kernel_rfl) ?_
 refine Sq (Rg [0] ?_)
 refine V 2 4 (mc (.bool false) (.bool false)) ?_
 refine Nss (Rg [0, 1, 2, 3, 4, 5, 6, 7, 8] ?_)
 obtain ⟨j4, hj7, h8⟩ := bind_some h
 refine RWP.cut (fun f w => ∃ (F1 : Mem), HS w0 F0 w F1 [] ∧ Mem.le F0 F1 ∧ f.d = [] ∧ f 2 = (.bool j4)) ?_ ?_
 ·refine V 3 61 (mv 0 (.slice a0_0 x0.length n0_0)) ?_
  refine V 4 3 (ln 3 61 a0_0 x0.length n0_0 71 7 64) ?_
  refine V 5 4 (run_leq (t := 3) (t' := 3) (x := (.tmp 4)) (y := (.const (vi 400))) (k := .i64) (a := (x0.length : Int)) (b := 400) rfl rfl) ?_
  refine V 6 4 (mv 5 (.bool (decide ((x0.length : Int) ≤ 400)))) ?_
  refine RWP.split (decide ((x0.length : Int) ≤ 400)) (fun hb9 => ?_) (fun hb9 => ?_)
  ·have h10 := cond_t hj7 hb9
   refine Vg 7 61 3 true 6 hb9 (mv 0 (.slice a0_0 x0.length n0_0)) ?_
   obtain ⟨r11, hr12, h13⟩ := bind_some h10
   refine RWP.call (dst := (some 8)) (ty := 4) (g := (some (3, true))) (by kernel_rfl) (gd_y (d := 6) (by kernel_rfl) rfl hb9) (f0 := (.func 122)) (aos := #[(.tmp 7), (.func 123)]) (ats := #[61, 151]) (fid := 122) (first := #[]) (cap := #[]) (args := [(.slice a0_0 x0.length n0_0), (.func (.func 123) #[] #[])]) rfl co_slices_ContainsFunc_api_Prefix_api_Prefix (rfl) hs0 (c_slices_ContainsFunc_api_Prefix_api_Prefix N w0 F0 hs0.pers (x0) a0_0 n0_0 hb0_0 hs0_0 123 [] [] (fun y0 => air_rows_1 N y0) co_air_rows_1 (fun w1 F1 y0 r le1 pe1 hr1 => c_air_rows_1 N w1 F1 pe1  y0  r hr1) _ hr12) ?_
   intro v14 F2 w15 hs16 le17 hp18
   obtain rfl := hp18
   refine Vg 9 4 3 true 6 hb9 (run_not (t := 4) (x := (.tmp 8)) (a := r11) rfl) ?_
   refine V 10 4 (p1 6 (.tmp 9) (.const (.bool false)) (.bool (!r11)) hb9) ?_
   refine V 2 4 (ma 10 (.bool (!r11))) ?_
   obtain rfl := some_inj h13
   exact RWP.nil ⟨rfl, F2, hs16, le17, rfl, rfl⟩
  ·have h19 := cond_f hj7 hb9
   refine Sk [7, 8, 9] 3 true 6 hb9 ?_
   refine V 10 4 (p0 6 (.tmp 9) (.const (.bool false)) (.bool false) hb9) ?_
   refine V 2 4 (ma 10 (.bool false)) ?_
   obtain rfl := some_inj h19
   exact RWP.nil ⟨rfl, F0, hs0, (Mem.le.refl _), rfl, rfl⟩
 ·rintro f w1 ⟨F1, hs2, le3, e5, e6⟩
  refine thenQ_nrm ?_
  refine CWP.ret (by kernel_rfl) ?_
  have hfin := some_inj h8
  subst hfin
  exact ⟨e5, (.bool j4), res_of (l := [.tmp 2]) (by kernel_rfl) (vs := [(.bool j4)]) ⟨e6, trivial⟩, (.bool j4), F1, rfl, hs2.clear, rfl⟩
end Go.Proofs.YtlddakefmfcblaaGreatDoor
namespace Go.Proofs.YtlddakefmfcblaaGreatDoor
open Go.Proofs
def air_keyOf (N : Nat) (x0 : Prefix) : Option air_key :=
 some ({ text_ := x0.Text, whole_ := x0.Whole } : air_key)
theorem co_air_keyOf : CallOk Tryz.prog 94 := fun _ _ => by kernel_rfl
set_option maxHeartbeats 4000000 in
set_option maxRecDepth 100000 in
theorem c_air_keyOf (N : Nat) (w0 : World) (F0 : Mem) (hF : ∀ b o, F0 b = some o → w0.heap[b]? = some o) (x0 : Prefix) (r : air_key) (h : air_keyOf N x0 = some r) :
  Calls Tryz.prog 94 ([(.agg #[(.string ⟨(x0.Text).toArray⟩), (vi x0.Country), (vi x0.Zone), (vi x0.Continent), (vi x0.From), (vi x0.To), (.bool x0.Whole)])] : List Value).toArray w0 (FRet w0 F0 fun F' v => v = (.agg #[(.string ⟨(r.text_).toArray⟩), (.bool r.whole_)])) := by
 have hs0 := HS.start hF
 refine calls_of (n := 8) (c := bodyOf Tryz.f94) Tryz.func94 (by kernel_rfl) (by kernel_rfl) (by kernel_rfl) ?_
 refine Sq (Rg [0, 1] ?_)
 refine Bx 1 0 0 71 #[(.string ⟨(x0.Text).toArray⟩), (vi x0.Country), (vi x0.Zone), (vi x0.Continent), (vi x0.From), (vi x0.To), (.bool x0.Whole)] hs0 (fun b1 w2 (hs3 : HS w0 F0 w2 F0 [(sb b1 #[(.string ⟨(x0.Text).toArray⟩), (vi x0.Country), (vi x0.Zone), (vi x0.Continent), (vi x0.From), (vi x0.To), (.bool x0.Whole)] 71)]) => ?_)
 refine Al 2 0 119 #[(.string ⟨(([] : List UInt8)).toArray⟩), (.bool false)] hs3 (fun b4 w5 (hs6 : HS w0 F0 w5 F0 [(sb b4 #[(.string ⟨(([] : List UInt8)).toArray⟩), (.bool false)] 119), (sb b1 #[(.string ⟨(x0.Text).toArray⟩), (vi x0.Country), (vi x0.Zone), (vi x0.Continent), (vi x0.From), (vi x0.To), (.bool x0.Whole)] 71)]) => ?_)
 refine Nss (Rg [0, 1, 2, 3, 4, 5] ?_)
 refine V 3 0 (fa 71 1 0 0 1 b1 0 0) ?_
 refine V 4 9 (ld 9 3 b1 0 false 1 (.string ⟨(x0.Text).toArray⟩) (hs6.ownAt (k := 1) rfl)) ?_
 refine V 5 0 (fa 71 1 6 6 1 b1 0 6) ?_
 refine V 6 4 (ld 4 5 b1 6 false 1 (.bool x0.Whole) (hs6.ownAt (k := 1) rfl)) ?_
 refine V 7 119 (run_build2 (t := 119) (parts := #[(0, (.tmp 4)), (1, (.tmp 6))]) (vs := [(0, (.string ⟨(x0.Text).toArray⟩)), (1, (.bool x0.Whole))]) (rfl) (cs := [(.string ⟨(x0.Text).toArray⟩), (.bool x0.Whole)]) (by kernel_rfl)) ?_
 refine RWP.store (ty := 0) (g := none) (by kernel_rfl) rfl (x := (.tmp 2)) (y := (.tmp 7)) (t := 119) (gg := true) (s := 2) (v := (.agg #[(.string ⟨(x0.Text).toArray⟩), (.bool x0.Whole)])) (b := b4) (o := 0) (C := #[(.string ⟨(([] : List UInt8)).toArray⟩), (.bool false)]) rfl rfl (by kernel_rfl) hs6 (k := 0) rfl rfl rfl rfl (C' := #[(.string ⟨(x0.Text).toArray⟩), (.bool x0.Whole)]) rfl (fun w7 (hs8 : HS w0 F0 w7 F0 [(sb b4 #[(.string ⟨(x0.Text).toArray⟩), (.bool x0.Whole)] 119), (sb b1 #[(.string ⟨(x0.Text).toArray⟩), (vi x0.Country), (vi x0.Zone), (vi x0.Continent), (vi x0.From), (vi x0.To), (.bool x0.Whole)] 71)]) => ?_)
 refine Nt ?_
 refine CWP.ret (by kernel_rfl) ?_
 have hfin := some_inj h
 subst hfin
 exact ⟨rfl, (.agg #[(.string ⟨(x0.Text).toArray⟩), (.bool x0.Whole)]), res_of (l := [.cell 2 119]) (by kernel_rfl) (vs := [(.agg #[(.string ⟨(x0.Text).toArray⟩), (.bool x0.Whole)])]) ⟨b4, 0, rfl, run_loadVar' (t := 119) (g := true) (s := 2) (by kernel_rfl) (hs8.ownAt (k := 0) rfl) rfl (by decide), trivial⟩, (.agg #[(.string ⟨(x0.Text).toArray⟩), (.bool x0.Whole)]), F0, rfl, hs8.clear, rfl⟩
end Go.Proofs.YtlddakefmfcblaaGreatDoor
namespace Go.Proofs.YtlddakefmfcblaaGreatDoor
open Go.Proofs
def air_tableOf_L0 (N : Nat) (x0 : (List Prefix)) : (Int × (List (air_key × List Int))) → Option (Flow (List (air_key × (List Int))) (Int × (List (air_key × List Int)))) := fun s12 =>
 (bif (decide (s12.1 < (x0.length : Int))) then ((idx x0 s12.1).bind fun x39 => (((air_keyOf N x39).bind fun r73 => ((air_keyOf N x39).bind fun r81 => ((apnd (mgetD s12.2 r81 []) [s12.1]).bind fun r108 => some (mput s12.2 r81 r108)))).bind fun j63 => some (.next ((W64 (s12.1 + 1)), j63)))) else some (.done (s12.1, s12.2)))
def air_tableOf (N : Nat) (x0 : (List Prefix)) : Option (List (air_key × (List Int))) :=
 ((iter (air_tableOf_L0 N x0) N (0, ([] : (List (air_key × List Int))))).bind fun o => o.k (fun r => some r) (fun s23 => some s23.2))
theorem co_air_tableOf : CallOk Tryz.prog 93 := fun _ _ => by kernel_rfl
set_option maxHeartbeats 4000000 in
set_option maxRecDepth 100000 in
theorem c_air_tableOf (N : Nat) (w0 : World) (F0 : Mem) (hF : ∀ b o, F0 b = some o → w0.heap[b]? = some o) (x0 : (List Prefix)) (a0_0 : Option Addr) (n0_0 : Nat) (hb0_0 : LC x0.length n0_0) (hs0_0 : SlA tPrefix F0 a0_0 x0) (r : (List (air_key × (List Int)))) (h : air_tableOf N x0 = some r) :
  Calls Tryz.prog 93 ([(.slice a0_0 x0.length n0_0)] : List Value).toArray w0 (FRet w0 F0 fun F' v => ∃ (oq0_0 : Option Nat), v = (.map oq0_0) ∧ MpA tair_key (tSl tInt) F' oq0_0 r) := by
 have hs0 := HS.start hF
 refine calls_of (n := 26) (c := bodyOf Tryz.f93) Tryz.func93 (by kernel_rfl) (by kernel_rfl) (by kernel_rfl) ?_
 refine Sq (Rg [0] ?_)
 refine V 2 116 (mc (.map none) (.map none)) ?_
 refine Nss (Rg [0, 1] ?_)
 refine RWP.makeMap (t := 116) (K := tair_key) (T := tRaw) (dst := (some 6)) (ty := 116) (g := none) (by kernel_rfl) rfl hs0 (fun b1 e2 w3 (hs4 : HS w0 F0 w3 F0 [e2]) hr5 => ?_)
 obtain ⟨Lf6, hs7, hJ8⟩ : ∃ Lq, HS w0 F0 w3 F0 Lq ∧ GrpJ tair_key tInt 3 b1 [] F0 Lq := ⟨_, hs4, GrpJ.new hr5⟩
 refine V 3 116 (ma 6 (.map (some b1))) ?_
 refine Nss ?_
 refine Sq (Rg [0, 1, 2] ?_)
 refine V 7 61 (mv 0 (.slice a0_0 x0.length n0_0)) ?_
 refine V 8 3 (ln 7 61 a0_0 x0.length n0_0 71 7 64) ?_
 refine V 9 3 (run_move (x := (.const (vi 0))) (v := (vi 0)) rfl) ?_
 refine Nt ?_
 obtain ⟨o9, ho10, h11⟩ := bind_some h
 refine CWP.cut (fun f w => ∃ (s23 : (Int × (List (air_key × List Int)))) (F2 : Mem) (Lf27 : Own), o9 = .done s23 ∧ HS w0 F0 w F2 Lf27 ∧ Mem.le F0 F2 ∧ f.d = [] ∧ f 3 = (.map (some b1)) ∧ GrpJ tair_key tInt 3 b1 s23.2 F2 Lf27) ?_ ?_
 ·refine Bk ?_
  refine CWP.loop (by kernel_rfl) (fun m f w => ∃ (s12 : (Int × (List (air_key × List Int)))) (F1 : Mem) (Lf16 : Own), iter (air_tableOf_L0 N x0) m s12 = some o9 ∧ HS w0 F0 w F1 Lf16 ∧ Mem.le F0 F1 ∧ f.d = [] ∧ f 3 = (.map (some b1)) ∧ f 7 = (.slice a0_0 x0.length n0_0) ∧ f 8 = (vi (x0.length : Int)) ∧ f 9 = (vi s12.1) ∧ GrpJ tair_key tInt 3 b1 s12.2 F1 Lf16) N ⟨(0, ([] : (List (air_key × List Int)))), F0, Lf6, ho10, hs7, (Mem.le.refl _), rfl, rfl, rfl, rfl, rfl, hJ8⟩ ?_
  rintro m31 f w13 ⟨s12, F1, Lf16, hit32, hs14, le15, e18, e19, e20, e21, e22, hJ17⟩
  obtain ⟨m33, fl34, rfl, hb35, hnx36⟩ := iter_step hit32
  refine Sq (Rg [0] ?_)
  refine V 10 0 (run_lss (t := 3) (t' := 3) (x := (.tmp 9)) (y := (.tmp 8)) (k := .i64) (a := s12.1) (b := (x0.length : Int)) e22 e21) ?_
  refine Nss ?_
  refine CWP.cond (t := (decide (s12.1 < (x0.length : Int)))) (by kernel_rfl) rfl (fun hb37 => ?_) (fun hb37 => ?_)
  ·have h38 := cond_t hb35 hb37
   refine Sc ?_
   refine thenQ_nrm ?_
   refine Sq ?_
   refine Bk ?_
   refine Sq (Rg [0, 1, 2, 3, 4, 5] ?_)
   refine V 11 3 (mv 9 (vi s12.1) e22) ?_
   obtain ⟨x39, hx40, h42⟩ := bind_some h38
   obtain ⟨hi41, hx40'⟩ := idx_spec hx40
   obtain ⟨b43, o44, C45, E46, fz47, rfl, hF49, hE50⟩ := SlA.open (SlA.mono hs0_0 le15) hx40'
   have hc52 := hE50 _ _ hx40'
   refine V 12 0 (run_index (t := 61) (x := (.tmp 7)) (y := (.tmp 9)) (b := b43) (o := o44) (E := 71) (s := 7) (by_ := 64) e20 e22 (by kernel_rfl) hi41) ?_
   refine V 13 71 (lx 71 12 0 7 true 7 (.agg #[(.string ⟨(x39.Text).toArray⟩), (vi x39.Country), (vi x39.Zone), (vi x39.Continent), (vi x39.From), (vi x39.To), (.bool x39.Whole)]) (hs14.pers _ _ hF49) hc52) ?_
   refine Al 5 0 71 #[(.string ⟨(([] : List UInt8)).toArray⟩), (vi 0), (vi 0), (vi 0), (vi 0), (vi 0), (.bool false)] hs14 (fun b53 w54 (hs55 : HS w0 F0 w54 F1 ((sb b53 #[(.string ⟨(([] : List UInt8)).toArray⟩), (vi 0), (vi 0), (vi 0), (vi 0), (vi 0), (.bool false)] 71) :: Lf16)) => ?_)
   refine V 4 3 (ma 11 (vi s12.1)) ?_
   refine RWP.store (ty := 0) (g := none) (by kernel_rfl) rfl (x := (.tmp 5)) (y := (.tmp 13)) (t := 71) (gg := true) (s := 7) (v := (.agg #[(.string ⟨(x39.Text).toArray⟩), (vi x39.Country), (vi x39.Zone), (vi x39.Continent), (vi x39.From), (vi x39.To), (.bool x39.Whole)])) (b := b53) (o := 0) (C := #[(.string ⟨(([] : List UInt8)).toArray⟩), (vi 0), (vi 0), (vi 0), (vi 0), (vi 0), (.bool false)]) rfl rfl (by kernel_rfl) hs55 (k := 0) rfl rfl rfl rfl (C' := #[(.string ⟨(x39.Text).toArray⟩), (vi x39.Country), (vi x39.Zone), (vi x39.Continent), (vi x39.From), (vi x39.To), (.bool x39.Whole)]) rfl (fun w56 (hs57 : HS w0 F0 w56 F1 ((sb b53 #[(.string ⟨(x39.Text).toArray⟩), (vi x39.Country), (vi x39.Zone), (vi x39.Continent), (vi x39.From), (vi x39.To), (.bool x39.Whole)] 71) :: Lf16)) => ?_)
   refine Nt ?_
   obtain ⟨j63, hj71, h72⟩ := bind_some h42
   refine CWP.regionD (by kernel_rfl) (by kernel_rfl) (by kernel_rfl) (by kernel_rfl) (z := 10) (F := F1) (Lc := [(sb b53 #[(.string ⟨(x39.Text).toArray⟩), (vi x39.Country), (vi x39.Zone), (vi x39.Continent), (vi x39.From), (vi x39.To), (.bool x39.Whole)] 71)]) (Lz := []) (l := [false, false, false, false, false, false, false, false, false, false, false]) (fuel := 11) (by kernel_rfl) (by kernel_rfl) hs57 (by simp) (by simp) (fun f w => ∃ (F3 : Mem) (Lf64 : Own), HS w0 F0 w F3 Lf64 ∧ Mem.le F1 F3 ∧ f.d = [] ∧ f 3 = (.map (some b1)) ∧ f 7 = (.slice (some ⟨b43, o44, none⟩) x0.length n0_0) ∧ f 8 = (vi (x0.length : Int)) ∧ f 9 = (vi s12.1) ∧ GrpJ tair_key tInt 3 b1 j63 F3 Lf64) (fun wd58 hw59 => ?_) ?_
   ·refine Df 0 14 116 _ (fun _ hq => mv 3 (.map (some b1)) e19) ?_
    refine Df 1 15 71 _ (fun _ hq => ld 71 5 b53 0 true 7 (.agg #[(.string ⟨(x39.Text).toArray⟩), (vi x39.Country), (vi x39.Zone), (vi x39.Continent), (vi x39.From), (vi x39.To), (.bool x39.Whole)]) (hq.1.2 0 _ _ rfl)) ?_
    refine Df 3 17 116 _ (fun _ hq => mv 3 (.map (some b1)) e19) ?_
    refine Df 4 18 71 _ (fun _ hq => ld 71 5 b53 0 true 7 (.agg #[(.string ⟨(x39.Text).toArray⟩), (vi x39.Country), (vi x39.Zone), (vi x39.Continent), (vi x39.From), (vi x39.To), (.bool x39.Whole)]) (hq.1.2 0 _ _ rfl)) ?_
    refine Df 7 21 3 _ (fun _ hq => mv 4 (vi s12.1)) ?_
    refine DWP.two (i := 2) (j := 8) (by kernel_rfl) ?_ ?_
    ·obtain ⟨r73, hr74, h75⟩ := bind_some hj71
     refine DStep.call (l' := [true, true, true, true, true, false, false, true, false, false, false]) (zd := false) (by kernel_rfl) (by kernel_rfl) (by kernel_rfl) (dst := (some 16)) (ty := 119) (g := none) (by kernel_rfl) rfl (f0 := (.func 94)) (aos := #[(.tmp 15)]) (ats := #[71]) (fid := 94) (first := #[]) (cap := #[]) (args := [(.agg #[(.string ⟨(x39.Text).toArray⟩), (vi x39.Country), (vi x39.Zone), (vi x39.Continent), (vi x39.From), (vi x39.To), (.bool x39.Whole)])]) rfl co_air_keyOf (rfl) hw59 (c_air_keyOf N wd58 F1 hw59.pers (x39) _ hr74) ?_
     intro v76 F4 w77 hs78 le79 hp80
     obtain rfl := hp80
     refine DWP.two (i := 5) (j := 8) (by kernel_rfl) ?_ ?_
     ·obtain ⟨r81, hr82, h83⟩ := bind_some h75
      refine DStep.call (l' := [true, true, true, true, true, true, false, true, false, false, false]) (zd := false) (by kernel_rfl) (by kernel_rfl) (by kernel_rfl) (dst := (some 19)) (ty := 119) (g := none) (by kernel_rfl) rfl (f0 := (.func 94)) (aos := #[(.tmp 18)]) (ats := #[71]) (fid := 94) (first := #[]) (cap := #[]) (args := [(.agg #[(.string ⟨(x39.Text).toArray⟩), (vi x39.Country), (vi x39.Zone), (vi x39.Continent), (vi x39.From), (vi x39.To), (.bool x39.Whole)])]) rfl co_air_keyOf (rfl) hs78 (c_air_keyOf N w77 F4 hs78.pers (x39) _ hr82) ?_
      intro v84 F5 w85 hs86 le87 hp88
      obtain rfl := hp88
      refine DWP.two (i := 6) (j := 8) (by kernel_rfl) ?_ ?_
      ·obtain ⟨l89, e90, Rs91, a92, n93, e94, q95, hs96, hm97, hv98, hq99, hrow100, hput101⟩ := GrpJ.look (X := [(sb b53 #[(.string ⟨(x39.Text).toArray⟩), (vi x39.Country), (vi x39.Zone), (vi x39.Continent), (vi x39.From), (vi x39.To), (.bool x39.Whole)] 71)]) (GrpJ.mono _ _ _ _ hJ17 (le79.trans le87)) hs86 r81
       have hs102 : HS w0 F0 w85 F5 ((sb b53 #[(.string ⟨(x39.Text).toArray⟩), (vi x39.Country), (vi x39.Zone), (vi x39.Continent), (vi x39.From), (vi x39.To), (.bool x39.Whole)] 71) :: e90 :: Rs91) := hs96
       refine DStep.val (l' := [true, true, true, true, true, true, true, true, false, false, false]) (zd := false) (by kernel_rfl) (by kernel_rfl) (dst := (some 20)) (ty := 77) (g := none) (by kernel_rfl) rfl (run_lookV1 (mt := 116) (k := 119) (vt := 77) (m := (.tmp 17)) (x := (.tmp 19)) (kv := (.agg #[(.string ⟨(r81.text_).toArray⟩), (.bool r81.whole_)])) (kx := r81) (z := .slice none 0 0) (zx := .slice none 0 0) (K := tair_key) (T := tRaw) kl119 rfl rfl ⟨_, rfl, rfl⟩ (by kernel_rfl) (by kernel_rfl) (tRaw_R _) (MapR.mpw hs102 (i := 1) rfl hm97) (fun h => (tRaw_V h).trans hv98)) (dz_of hs102 (le79.trans le87) (by simp) (fun _ => by simp)) ?_
       refine DWP.one (i := 8) (by kernel_rfl) ?_
       refine DStep.buildSlice (l' := [true, true, true, true, true, true, true, true, true, false, false]) (zd := false) (by kernel_rfl) (by kernel_rfl) (dst := (some 22)) (ty := 77) (g := none) (by kernel_rfl) rfl (t := 77) (len := 1) (parts := #[(0, (.tmp 21))]) (vs := [(0, (vi s12.1))]) (rfl) (E := 3) (cs := [(vi s12.1)]) (by kernel_rfl) hs102 (le79.trans le87) (by simp) (fun _ => by simp) (fun b103 w104 (hs105 : HS w0 F0 w104 F5 ((some b103, .cells ([(vi s12.1)] : List Value).toArray 3 (0, 0)) :: (sb b53 #[(.string ⟨(x39.Text).toArray⟩), (vi x39.Country), (vi x39.Zone), (vi x39.Continent), (vi x39.From), (vi x39.To), (.bool x39.Whole)] 71) :: e90 :: Rs91)) => ?_)
       have hr107 : RowR tInt 3 F5 (some ⟨b103, 0, none⟩) 1 [s12.1] (some b103, .cells ([(vi s12.1)] : List Value).toArray 3 (0, 0)) := RowR.lit ⟨rfl, rfl⟩ (by simp)
       refine DWP.one (i := 9) (by kernel_rfl) ?_
       obtain ⟨r108, hap109, h110⟩ := bind_some h83
       refine DStep.append (l' := [true, true, true, true, true, true, true, true, true, true, false]) (zd := false) (by kernel_rfl) (by kernel_rfl) (dst := (some 23)) (ty := 77) (g := none) (by kernel_rfl) rfl (x := (.tmp 20)) (y := (.tmp 22)) (t := 77) (t2 := 77) (by_ := 8) (z := (vi 0)) (a2 := (some ⟨b103, 0, none⟩)) (c2 := 1) (m := [s12.1]) (T := tInt) (E := 3) (a := a92) (cap := n93) (l := (mgetD s12.2 r81 [])) rfl rfl (by kernel_rfl) (by decide) (by kernel_rfl) (by kernel_rfl) rfl oInt hs105 (k := q95 + 3) hq99 hrow100 (RowR.rd hs105 (k := 0) rfl hr107) (r := r108) hap109 (le79.trans le87) (fun _ => by simp) (fun _ _ => by simp) (fun a111 n112 e113 w114 (hs115 : HS w0 F0 w114 F5 ((some b103, .cells ([(vi s12.1)] : List Value).toArray 3 (0, 0)) :: (sb b53 #[(.string ⟨(x39.Text).toArray⟩), (vi x39.Country), (vi x39.Zone), (vi x39.Continent), (vi x39.From), (vi x39.To), (.bool x39.Whole)] 71) :: e90 :: (Rs91.set q95 e113))) hr116 => ?_)
       refine DWP.one (i := 10) (by kernel_rfl) ?_
       refine DStep.mapPut (l' := [true, true, true, true, true, true, true, true, true, true, true]) (zd := true) (by kernel_rfl) (by kernel_rfl) kl119 (ty := 0) (g := none) (mt := 116) (k := 119) (vt := 77) (m := (.tmp 14)) (x := (.tmp 16)) (y := (.tmp 23)) (b := b1) (kx := r81) (u := (.slice a111 r108.length n112)) (kv := (.agg #[(.string ⟨(r73.text_).toArray⟩), (.bool r73.whole_)])) (v := (.slice a111 r108.length n112)) (K := tair_key) (T := tRaw) (by kernel_rfl) rfl rfl rfl rfl (Eq.mp (congrArg (tair_key.V _ (.agg #[(.string ⟨(r73.text_).toArray⟩), (.bool r73.whole_)])) (some_inj (hr74.symm.trans hr82))) ⟨_, rfl, rfl⟩) (tRaw_R _) (by kernel_rfl) hs115 (q := 2) rfl hm97 (le79.trans le87) (fun _ => by simp) (fun e => by cases e) (fun e117 w118 (hs119 : HS w0 F0 w118 F5 ((some b103, .cells ([(vi s12.1)] : List Value).toArray 3 (0, 0)) :: (sb b53 #[(.string ⟨(x39.Text).toArray⟩), (vi x39.Country), (vi x39.Zone), (vi x39.Continent), (vi x39.From), (vi x39.To), (.bool x39.Whole)] 71) :: e117 :: (Rs91.set q95 e113))) hr120 => ?_)
       have hJ121 : GrpJ tair_key tInt 3 b1 (mput s12.2 r81 r108) F5 (e117 :: (Rs91.set q95 e113)) := hput101 _ _ _ _ _ _ (Mem.le.refl _) hr116 hr120
       obtain rfl := some_inj h110
       have hs122 : HS w0 F0 w118 F5 ((sb b53 #[(.string ⟨(x39.Text).toArray⟩), (vi x39.Country), (vi x39.Zone), (vi x39.Continent), (vi x39.From), (vi x39.To), (.bool x39.Whole)] 71) :: (e117 :: (Rs91.set q95 e113))) := hs119.drop 0
       have hs123 : HS w0 F0 w118 F5 (e117 :: (Rs91.set q95 e113)) := hs122.drop 0
       exact DWP.done (by kernel_rfl) ⟨F5, (e117 :: (Rs91.set q95 e113)), hs123, (le79.trans le87), e18, e19, e20, e21, e22, hJ121⟩
      ·refine DStep.buildSlice (l' := [true, true, true, true, true, true, false, true, true, false, false]) (zd := false) (by kernel_rfl) (by kernel_rfl) (dst := (some 22)) (ty := 77) (g := none) (by kernel_rfl) rfl (t := 77) (len := 1) (parts := #[(0, (.tmp 21))]) (vs := [(0, (vi s12.1))]) (rfl) (E := 3) (cs := [(vi s12.1)]) (by kernel_rfl) hs86 (le79.trans le87) (by simp) (fun _ => by simp) (fun b124 w125 (hs126 : HS w0 F0 w125 F5 ((some b124, .cells ([(vi s12.1)] : List Value).toArray 3 (0, 0)) :: (sb b53 #[(.string ⟨(x39.Text).toArray⟩), (vi x39.Country), (vi x39.Zone), (vi x39.Continent), (vi x39.From), (vi x39.To), (.bool x39.Whole)] 71) :: Lf16)) => ?_)
       have hr128 : RowR tInt 3 F5 (some ⟨b124, 0, none⟩) 1 [s12.1] (some b124, .cells ([(vi s12.1)] : List Value).toArray 3 (0, 0)) := RowR.lit ⟨rfl, rfl⟩ (by simp)
       refine DWP.one (i := 6) (by kernel_rfl) ?_
       obtain ⟨l129, e130, Rs131, a132, n133, e134, q135, hs136, hm137, hv138, hq139, hrow140, hput141⟩ := GrpJ.look (X := [(some b124, .cells ([(vi s12.1)] : List Value).toArray 3 (0, 0)), (sb b53 #[(.string ⟨(x39.Text).toArray⟩), (vi x39.Country), (vi x39.Zone), (vi x39.Continent), (vi x39.From), (vi x39.To), (.bool x39.Whole)] 71)]) (GrpJ.mono _ _ _ _ hJ17 (le79.trans le87)) hs126 r81
       have hs142 : HS w0 F0 w125 F5 ((some b124, .cells ([(vi s12.1)] : List Value).toArray 3 (0, 0)) :: (sb b53 #[(.string ⟨(x39.Text).toArray⟩), (vi x39.Country), (vi x39.Zone), (vi x39.Continent), (vi x39.From), (vi x39.To), (.bool x39.Whole)] 71) :: e130 :: Rs131) := hs136
       refine DStep.val (l' := [true, true, true, true, true, true, true, true, true, false, false]) (zd := false) (by kernel_rfl) (by kernel_rfl) (dst := (some 20)) (ty := 77) (g := none) (by kernel_rfl) rfl (run_lookV1 (mt := 116) (k := 119) (vt := 77) (m := (.tmp 17)) (x := (.tmp 19)) (kv := (.agg #[(.string ⟨(r81.text_).toArray⟩), (.bool r81.whole_)])) (kx := r81) (z := .slice none 0 0) (zx := .slice none 0 0) (K := tair_key) (T := tRaw) kl119 rfl rfl ⟨_, rfl, rfl⟩ (by kernel_rfl) (by kernel_rfl) (tRaw_R _) (MapR.mpw hs142 (i := 2) rfl hm137) (fun h => (tRaw_V h).trans hv138)) (dz_of hs142 (le79.trans le87) (by simp) (fun _ => by simp)) ?_
       refine DWP.one (i := 9) (by kernel_rfl) ?_
       obtain ⟨r143, hap144, h145⟩ := bind_some h83
       refine DStep.append (l' := [true, true, true, true, true, true, true, true, true, true, false]) (zd := false) (by kernel_rfl) (by kernel_rfl) (dst := (some 23)) (ty := 77) (g := none) (by kernel_rfl) rfl (x := (.tmp 20)) (y := (.tmp 22)) (t := 77) (t2 := 77) (by_ := 8) (z := (vi 0)) (a2 := (some ⟨b124, 0, none⟩)) (c2 := 1) (m := [s12.1]) (T := tInt) (E := 3) (a := a132) (cap := n133) (l := (mgetD s12.2 r81 [])) rfl rfl (by kernel_rfl) (by decide) (by kernel_rfl) (by kernel_rfl) rfl oInt hs142 (k := q135 + 3) hq139 hrow140 (RowR.rd hs142 (k := 0) rfl hr128) (r := r143) hap144 (le79.trans le87) (fun _ => by simp) (fun _ _ => by simp) (fun a146 n147 e148 w149 (hs150 : HS w0 F0 w149 F5 ((some b124, .cells ([(vi s12.1)] : List Value).toArray 3 (0, 0)) :: (sb b53 #[(.string ⟨(x39.Text).toArray⟩), (vi x39.Country), (vi x39.Zone), (vi x39.Continent), (vi x39.From), (vi x39.To), (.bool x39.Whole)] 71) :: e130 :: (Rs131.set q135 e148))) hr151 => ?_)
       refine DWP.one (i := 10) (by kernel_rfl) ?_
       refine DStep.mapPut (l' := [true, true, true, true, true, true, true, true, true, true, true]) (zd := true) (by kernel_rfl) (by kernel_rfl) kl119 (ty := 0) (g := none) (mt := 116) (k := 119) (vt := 77) (m := (.tmp 14)) (x := (.tmp 16)) (y := (.tmp 23)) (b := b1) (kx := r81) (u := (.slice a146 r143.length n147)) (kv := (.agg #[(.string ⟨(r73.text_).toArray⟩), (.bool r73.whole_)])) (v := (.slice a146 r143.length n147)) (K := tair_key) (T := tRaw) (by kernel_rfl) rfl rfl rfl rfl (Eq.mp (congrArg (tair_key.V _ (.agg #[(.string ⟨(r73.text_).toArray⟩), (.bool r73.whole_)])) (some_inj (hr74.symm.trans hr82))) ⟨_, rfl, rfl⟩) (tRaw_R _) (by kernel_rfl) hs150 (q := 2) rfl hm137 (le79.trans le87) (fun _ => by simp) (fun e => by cases e) (fun e152 w153 (hs154 : HS w0 F0 w153 F5 ((some b124, .cells ([(vi s12.1)] : List Value).toArray 3 (0, 0)) :: (sb b53 #[(.string ⟨(x39.Text).toArray⟩), (vi x39.Country), (vi x39.Zone), (vi x39.Continent), (vi x39.From), (vi x39.To), (.bool x39.Whole)] 71) :: e152 :: (Rs131.set q135 e148))) hr155 => ?_)
       have hJ156 : GrpJ tair_key tInt 3 b1 (mput s12.2 r81 r143) F5 (e152 :: (Rs131.set q135 e148)) := hput141 _ _ _ _ _ _ (Mem.le.refl _) hr151 hr155
       obtain rfl := some_inj h145
       have hs157 : HS w0 F0 w153 F5 ((sb b53 #[(.string ⟨(x39.Text).toArray⟩), (vi x39.Country), (vi x39.Zone), (vi x39.Continent), (vi x39.From), (vi x39.To), (.bool x39.Whole)] 71) :: (e152 :: (Rs131.set q135 e148))) := hs154.drop 0
       have hs158 : HS w0 F0 w153 F5 (e152 :: (Rs131.set q135 e148)) := hs157.drop 0
       exact DWP.done (by kernel_rfl) ⟨F5, (e152 :: (Rs131.set q135 e148)), hs158, (le79.trans le87), e18, e19, e20, e21, e22, hJ156⟩
     ·refine DStep.buildSlice (l' := [true, true, true, true, true, false, false, true, true, false, false]) (zd := false) (by kernel_rfl) (by kernel_rfl) (dst := (some 22)) (ty := 77) (g := none) (by kernel_rfl) rfl (t := 77) (len := 1) (parts := #[(0, (.tmp 21))]) (vs := [(0, (vi s12.1))]) (rfl) (E := 3) (cs := [(vi s12.1)]) (by kernel_rfl) hs78 le79 (by simp) (fun _ => by simp) (fun b159 w160 (hs161 : HS w0 F0 w160 F4 ((some b159, .cells ([(vi s12.1)] : List Value).toArray 3 (0, 0)) :: (sb b53 #[(.string ⟨(x39.Text).toArray⟩), (vi x39.Country), (vi x39.Zone), (vi x39.Continent), (vi x39.From), (vi x39.To), (.bool x39.Whole)] 71) :: Lf16)) => ?_)
      have hr163 : RowR tInt 3 F4 (some ⟨b159, 0, none⟩) 1 [s12.1] (some b159, .cells ([(vi s12.1)] : List Value).toArray 3 (0, 0)) := RowR.lit ⟨rfl, rfl⟩ (by simp)
      refine DWP.one (i := 5) (by kernel_rfl) ?_
      obtain ⟨r164, hr165, h166⟩ := bind_some h75
      refine DStep.call (l' := [true, true, true, true, true, true, false, true, true, false, false]) (zd := false) (by kernel_rfl) (by kernel_rfl) (by kernel_rfl) (dst := (some 19)) (ty := 119) (g := none) (by kernel_rfl) rfl (f0 := (.func 94)) (aos := #[(.tmp 18)]) (ats := #[71]) (fid := 94) (first := #[]) (cap := #[]) (args := [(.agg #[(.string ⟨(x39.Text).toArray⟩), (vi x39.Country), (vi x39.Zone), (vi x39.Continent), (vi x39.From), (vi x39.To), (.bool x39.Whole)])]) rfl co_air_keyOf (rfl) hs161 (c_air_keyOf N w160 F4 hs161.pers (x39) _ hr165) ?_
      intro v167 F6 w168 hs169 le170 hp171
      obtain rfl := hp171
      refine DWP.one (i := 6) (by kernel_rfl) ?_
      obtain ⟨l172, e173, Rs174, a175, n176, e177, q178, hs179, hm180, hv181, hq182, hrow183, hput184⟩ := GrpJ.look (X := [(some b159, .cells ([(vi s12.1)] : List Value).toArray 3 (0, 0)), (sb b53 #[(.string ⟨(x39.Text).toArray⟩), (vi x39.Country), (vi x39.Zone), (vi x39.Continent), (vi x39.From), (vi x39.To), (.bool x39.Whole)] 71)]) (GrpJ.mono _ _ _ _ hJ17 (le79.trans le170)) hs169 r164
      have hs185 : HS w0 F0 w168 F6 ((some b159, .cells ([(vi s12.1)] : List Value).toArray 3 (0, 0)) :: (sb b53 #[(.string ⟨(x39.Text).toArray⟩), (vi x39.Country), (vi x39.Zone), (vi x39.Continent), (vi x39.From), (vi x39.To), (.bool x39.Whole)] 71) :: e173 :: Rs174) := hs179
      refine DStep.val (l' := [true, true, true, true, true, true, true, true, true, false, false]) (zd := false) (by kernel_rfl) (by kernel_rfl) (dst := (some 20)) (ty := 77) (g := none) (by kernel_rfl) rfl (run_lookV1 (mt := 116) (k := 119) (vt := 77) (m := (.tmp 17)) (x := (.tmp 19)) (kv := (.agg #[(.string ⟨(r164.text_).toArray⟩), (.bool r164.whole_)])) (kx := r164) (z := .slice none 0 0) (zx := .slice none 0 0) (K := tair_key) (T := tRaw) kl119 rfl rfl ⟨_, rfl, rfl⟩ (by kernel_rfl) (by kernel_rfl) (tRaw_R _) (MapR.mpw hs185 (i := 2) rfl hm180) (fun h => (tRaw_V h).trans hv181)) (dz_of hs185 (le79.trans le170) (by simp) (fun _ => by simp)) ?_
      refine DWP.one (i := 9) (by kernel_rfl) ?_
      obtain ⟨r186, hap187, h188⟩ := bind_some h166
      refine DStep.append (l' := [true, true, true, true, true, true, true, true, true, true, false]) (zd := false) (by kernel_rfl) (by kernel_rfl) (dst := (some 23)) (ty := 77) (g := none) (by kernel_rfl) rfl (x := (.tmp 20)) (y := (.tmp 22)) (t := 77) (t2 := 77) (by_ := 8) (z := (vi 0)) (a2 := (some ⟨b159, 0, none⟩)) (c2 := 1) (m := [s12.1]) (T := tInt) (E := 3) (a := a175) (cap := n176) (l := (mgetD s12.2 r164 [])) rfl rfl (by kernel_rfl) (by decide) (by kernel_rfl) (by kernel_rfl) rfl oInt hs185 (k := q178 + 3) hq182 hrow183 (RowR.rd hs185 (k := 0) rfl (hr163.mono le170)) (r := r186) hap187 (le79.trans le170) (fun _ => by simp) (fun _ _ => by simp) (fun a189 n190 e191 w192 (hs193 : HS w0 F0 w192 F6 ((some b159, .cells ([(vi s12.1)] : List Value).toArray 3 (0, 0)) :: (sb b53 #[(.string ⟨(x39.Text).toArray⟩), (vi x39.Country), (vi x39.Zone), (vi x39.Continent), (vi x39.From), (vi x39.To), (.bool x39.Whole)] 71) :: e173 :: (Rs174.set q178 e191))) hr194 => ?_)
      refine DWP.one (i := 10) (by kernel_rfl) ?_
      refine DStep.mapPut (l' := [true, true, true, true, true, true, true, true, true, true, true]) (zd := true) (by kernel_rfl) (by kernel_rfl) kl119 (ty := 0) (g := none) (mt := 116) (k := 119) (vt := 77) (m := (.tmp 14)) (x := (.tmp 16)) (y := (.tmp 23)) (b := b1) (kx := r164) (u := (.slice a189 r186.length n190)) (kv := (.agg #[(.string ⟨(r73.text_).toArray⟩), (.bool r73.whole_)])) (v := (.slice a189 r186.length n190)) (K := tair_key) (T := tRaw) (by kernel_rfl) rfl rfl rfl rfl (Eq.mp (congrArg (tair_key.V _ (.agg #[(.string ⟨(r73.text_).toArray⟩), (.bool r73.whole_)])) (some_inj (hr74.symm.trans hr165))) ⟨_, rfl, rfl⟩) (tRaw_R _) (by kernel_rfl) hs193 (q := 2) rfl hm180 (le79.trans le170) (fun _ => by simp) (fun e => by cases e) (fun e195 w196 (hs197 : HS w0 F0 w196 F6 ((some b159, .cells ([(vi s12.1)] : List Value).toArray 3 (0, 0)) :: (sb b53 #[(.string ⟨(x39.Text).toArray⟩), (vi x39.Country), (vi x39.Zone), (vi x39.Continent), (vi x39.From), (vi x39.To), (.bool x39.Whole)] 71) :: e195 :: (Rs174.set q178 e191))) hr198 => ?_)
      have hJ199 : GrpJ tair_key tInt 3 b1 (mput s12.2 r164 r186) F6 (e195 :: (Rs174.set q178 e191)) := hput184 _ _ _ _ _ _ (Mem.le.refl _) hr194 hr198
      obtain rfl := some_inj h188
      have hs200 : HS w0 F0 w196 F6 ((sb b53 #[(.string ⟨(x39.Text).toArray⟩), (vi x39.Country), (vi x39.Zone), (vi x39.Continent), (vi x39.From), (vi x39.To), (.bool x39.Whole)] 71) :: (e195 :: (Rs174.set q178 e191))) := hs197.drop 0
      have hs201 : HS w0 F0 w196 F6 (e195 :: (Rs174.set q178 e191)) := hs200.drop 0
      exact DWP.done (by kernel_rfl) ⟨F6, (e195 :: (Rs174.set q178 e191)), hs201, (le79.trans le170), e18, e19, e20, e21, e22, hJ199⟩
    ·refine DStep.buildSlice (l' := [true, true, false, true, true, false, false, true, true, false, false]) (zd := false) (by kernel_rfl) (by kernel_rfl) (dst := (some 22)) (ty := 77) (g := none) (by kernel_rfl) rfl (t := 77) (len := 1) (parts := #[(0, (.tmp 21))]) (vs := [(0, (vi s12.1))]) (rfl) (E := 3) (cs := [(vi s12.1)]) (by kernel_rfl) hw59 (Mem.le.refl _) (by simp) (fun _ => by simp) (fun b202 w203 (hs204 : HS w0 F0 w203 F1 ((some b202, .cells ([(vi s12.1)] : List Value).toArray 3 (0, 0)) :: (sb b53 #[(.string ⟨(x39.Text).toArray⟩), (vi x39.Country), (vi x39.Zone), (vi x39.Continent), (vi x39.From), (vi x39.To), (.bool x39.Whole)] 71) :: Lf16)) => ?_)
     have hr206 : RowR tInt 3 F1 (some ⟨b202, 0, none⟩) 1 [s12.1] (some b202, .cells ([(vi s12.1)] : List Value).toArray 3 (0, 0)) := RowR.lit ⟨rfl, rfl⟩ (by simp)
     refine DWP.one (i := 2) (by kernel_rfl) ?_
     obtain ⟨r207, hr208, h209⟩ := bind_some hj71
     refine DStep.call (l' := [true, true, true, true, true, false, false, true, true, false, false]) (zd := false) (by kernel_rfl) (by kernel_rfl) (by kernel_rfl) (dst := (some 16)) (ty := 119) (g := none) (by kernel_rfl) rfl (f0 := (.func 94)) (aos := #[(.tmp 15)]) (ats := #[71]) (fid := 94) (first := #[]) (cap := #[]) (args := [(.agg #[(.string ⟨(x39.Text).toArray⟩), (vi x39.Country), (vi x39.Zone), (vi x39.Continent), (vi x39.From), (vi x39.To), (.bool x39.Whole)])]) rfl co_air_keyOf (rfl) hs204 (c_air_keyOf N w203 F1 hs204.pers (x39) _ hr208) ?_
     intro v210 F7 w211 hs212 le213 hp214
     obtain rfl := hp214
     refine DWP.one (i := 5) (by kernel_rfl) ?_
     obtain ⟨r215, hr216, h217⟩ := bind_some h209
     refine DStep.call (l' := [true, true, true, true, true, true, false, true, true, false, false]) (zd := false) (by kernel_rfl) (by kernel_rfl) (by kernel_rfl) (dst := (some 19)) (ty := 119) (g := none) (by kernel_rfl) rfl (f0 := (.func 94)) (aos := #[(.tmp 18)]) (ats := #[71]) (fid := 94) (first := #[]) (cap := #[]) (args := [(.agg #[(.string ⟨(x39.Text).toArray⟩), (vi x39.Country), (vi x39.Zone), (vi x39.Continent), (vi x39.From), (vi x39.To), (.bool x39.Whole)])]) rfl co_air_keyOf (rfl) hs212 (c_air_keyOf N w211 F7 hs212.pers (x39) _ hr216) ?_
     intro v218 F8 w219 hs220 le221 hp222
     obtain rfl := hp222
     refine DWP.one (i := 6) (by kernel_rfl) ?_
     obtain ⟨l223, e224, Rs225, a226, n227, e228, q229, hs230, hm231, hv232, hq233, hrow234, hput235⟩ := GrpJ.look (X := [(some b202, .cells ([(vi s12.1)] : List Value).toArray 3 (0, 0)), (sb b53 #[(.string ⟨(x39.Text).toArray⟩), (vi x39.Country), (vi x39.Zone), (vi x39.Continent), (vi x39.From), (vi x39.To), (.bool x39.Whole)] 71)]) (GrpJ.mono _ _ _ _ hJ17 (le213.trans le221)) hs220 r215
     have hs236 : HS w0 F0 w219 F8 ((some b202, .cells ([(vi s12.1)] : List Value).toArray 3 (0, 0)) :: (sb b53 #[(.string ⟨(x39.Text).toArray⟩), (vi x39.Country), (vi x39.Zone), (vi x39.Continent), (vi x39.From), (vi x39.To), (.bool x39.Whole)] 71) :: e224 :: Rs225) := hs230
     refine DStep.val (l' := [true, true, true, true, true, true, true, true, true, false, false]) (zd := false) (by kernel_rfl) (by kernel_rfl) (dst := (some 20)) (ty := 77) (g := none) (by kernel_rfl) rfl (run_lookV1 (mt := 116) (k := 119) (vt := 77) (m := (.tmp 17)) (x := (.tmp 19)) (kv := (.agg #[(.string ⟨(r215.text_).toArray⟩), (.bool r215.whole_)])) (kx := r215) (z := .slice none 0 0) (zx := .slice none 0 0) (K := tair_key) (T := tRaw) kl119 rfl rfl ⟨_, rfl, rfl⟩ (by kernel_rfl) (by kernel_rfl) (tRaw_R _) (MapR.mpw hs236 (i := 2) rfl hm231) (fun h => (tRaw_V h).trans hv232)) (dz_of hs236 (le213.trans le221) (by simp) (fun _ => by simp)) ?_
     refine DWP.one (i := 9) (by kernel_rfl) ?_
     obtain ⟨r237, hap238, h239⟩ := bind_some h217
     refine DStep.append (l' := [true, true, true, true, true, true, true, true, true, true, false]) (zd := false) (by kernel_rfl) (by kernel_rfl) (dst := (some 23)) (ty := 77) (g := none) (by kernel_rfl) rfl (x := (.tmp 20)) (y := (.tmp 22)) (t := 77) (t2 := 77) (by_ := 8) (z := (vi 0)) (a2 := (some ⟨b202, 0, none⟩)) (c2 := 1) (m := [s12.1]) (T := tInt) (E := 3) (a := a226) (cap := n227) (l := (mgetD s12.2 r215 [])) rfl rfl (by kernel_rfl) (by decide) (by kernel_rfl) (by kernel_rfl) rfl oInt hs236 (k := q229 + 3) hq233 hrow234 (RowR.rd hs236 (k := 0) rfl (hr206.mono (le213.trans le221))) (r := r237) hap238 (le213.trans le221) (fun _ => by simp) (fun _ _ => by simp) (fun a240 n241 e242 w243 (hs244 : HS w0 F0 w243 F8 ((some b202, .cells ([(vi s12.1)] : List Value).toArray 3 (0, 0)) :: (sb b53 #[(.string ⟨(x39.Text).toArray⟩), (vi x39.Country), (vi x39.Zone), (vi x39.Continent), (vi x39.From), (vi x39.To), (.bool x39.Whole)] 71) :: e224 :: (Rs225.set q229 e242))) hr245 => ?_)
     refine DWP.one (i := 10) (by kernel_rfl) ?_
     refine DStep.mapPut (l' := [true, true, true, true, true, true, true, true, true, true, true]) (zd := true) (by kernel_rfl) (by kernel_rfl) kl119 (ty := 0) (g := none) (mt := 116) (k := 119) (vt := 77) (m := (.tmp 14)) (x := (.tmp 16)) (y := (.tmp 23)) (b := b1) (kx := r215) (u := (.slice a240 r237.length n241)) (kv := (.agg #[(.string ⟨(r207.text_).toArray⟩), (.bool r207.whole_)])) (v := (.slice a240 r237.length n241)) (K := tair_key) (T := tRaw) (by kernel_rfl) rfl rfl rfl rfl (Eq.mp (congrArg (tair_key.V _ (.agg #[(.string ⟨(r207.text_).toArray⟩), (.bool r207.whole_)])) (some_inj (hr208.symm.trans hr216))) ⟨_, rfl, rfl⟩) (tRaw_R _) (by kernel_rfl) hs244 (q := 2) rfl hm231 (le213.trans le221) (fun _ => by simp) (fun e => by cases e) (fun e246 w247 (hs248 : HS w0 F0 w247 F8 ((some b202, .cells ([(vi s12.1)] : List Value).toArray 3 (0, 0)) :: (sb b53 #[(.string ⟨(x39.Text).toArray⟩), (vi x39.Country), (vi x39.Zone), (vi x39.Continent), (vi x39.From), (vi x39.To), (.bool x39.Whole)] 71) :: e246 :: (Rs225.set q229 e242))) hr249 => ?_)
     have hJ250 : GrpJ tair_key tInt 3 b1 (mput s12.2 r215 r237) F8 (e246 :: (Rs225.set q229 e242)) := hput235 _ _ _ _ _ _ (Mem.le.refl _) hr245 hr249
     obtain rfl := some_inj h239
     have hs251 : HS w0 F0 w247 F8 ((sb b53 #[(.string ⟨(x39.Text).toArray⟩), (vi x39.Country), (vi x39.Zone), (vi x39.Continent), (vi x39.From), (vi x39.To), (.bool x39.Whole)] 71) :: (e246 :: (Rs225.set q229 e242))) := hs248.drop 0
     have hs252 : HS w0 F0 w247 F8 (e246 :: (Rs225.set q229 e242)) := hs251.drop 0
     exact DWP.done (by kernel_rfl) ⟨F8, (e246 :: (Rs225.set q229 e242)), hs252, (le213.trans le221), e18, e19, e20, e21, e22, hJ250⟩
   ·rintro f w60 ⟨F3, Lf64, hs61, le62, e66, e67, e68, e69, e70, hJ65⟩
    refine blockQ_nrm ?_
    refine thenQ_nrm ?_
    refine Rg [0, 1] ?_
    refine V 24 3 (run_add (t := 3) (t' := 3) (x := (.tmp 9)) (y := (.const (vi 1))) (k := .i64) (a := s12.1) (b := 1) e70 rfl) ?_
    refine V 9 3 (mv 24 (vi (W64 (s12.1 + 1)))) ?_
    refine RWP.nil ?_
    have hn253 := iter_next h72 hnx36
    exact ⟨m33, Nat.lt_succ_self _, ((W64 (s12.1 + 1)), j63), F3, Lf64, hn253, hs61, (le15.trans le62), e66, e67, e68, e69, rfl, hJ65⟩
  ·have h254 := cond_f hb35 hb37
   refine CWP.exit (by kernel_rfl) ?_
   refine thenQ_ex ?_
   refine thenQ_ex ?_
   refine blockQ_hit rfl ?_
   have ho255 := iter_done h254 hnx36
   exact .inl ⟨rfl, (s12.1, s12.2), F1, Lf16, ho255, hs14, le15, e18, e19, hJ17⟩
 ·rintro f w24 ⟨s23, F2, Lf27, rfl, hs25, le26, e29, e30, hJ28⟩
  have h256 := k_done h11
  refine thenQ_nrm ?_
  refine Sq (Rg [0, 1] ?_)
  refine V 25 116 (mv 3 (.map (some b1)) e30) ?_
  refine V 2 116 (ma 25 (.map (some b1))) ?_
  refine Nt ?_
  refine CWP.ret (by kernel_rfl) ?_
  obtain ⟨F9, hs257, le258, hm259⟩ : ∃ Fq, HS w0 F0 w24 Fq [] ∧ Mem.le F2 Fq ∧ MpA tair_key (tSl tInt) Fq (some b1) s23.2 := GrpJ.freeze hs25 hJ28
  have hfin := some_inj h256
  subst hfin
  exact ⟨e29, (.map (some b1)), res_of (l := [.tmp 2]) (by kernel_rfl) (vs := [(.map (some b1))]) ⟨rfl, trivial⟩, (.map (some b1)), F9, rfl, hs257.clear, ⟨(some b1), rfl, hm259⟩⟩
end Go.Proofs.YtlddakefmfcblaaGreatDoor
