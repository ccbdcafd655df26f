/- Lemmas of the claim ClocksTimes, printed by a program of the claimant and by hand. No statement of the seat is proved here. -/
import Derived.Test.YthbcnabeabcmlaaA3
set_option linter.unusedVariables false
set_option linter.unusedSimpArgs false
set_option linter.unusedSectionVars false
namespace Go.Proofs.Ythbcnabeabcmlaa
open Go.Proofs
def ref03_within (N : Nat) (x0 : Int) (x1 : Int) (x2 : Int) : Option Bool :=
 some ((decide (x1 ≤ x0)) && (decide (x0 ≤ x2)))
theorem co_ref03_within : CallOk Try.prog 83 := fun _ _ => by kernel_rfl
set_option maxHeartbeats 4000000 in
set_option maxRecDepth 100000 in
theorem c_ref03_within (N : Nat) (w0 : World) (F0 : Mem) (hF : ∀ b o, F0 b = some o → w0.heap[b]? = some o) (x0 : Int) (x1 : Int) (x2 : Int) (r : Bool) (h : ref03_within N x0 x1 x2 = some r) :
  Calls Try.prog 83 ([(vi x0), (vi x1), (vi x2)] : List Value).toArray w0 (FRet w0 F0 fun F' v => v = (.bool r)) := by
 have hs0 := HS.start hF
 refine calls_of (n := 15) (c := bodyOf Try.f83) Try.func83 (by kernel_rfl) (by kernel_rfl) (by kernel_rfl) ?_
 refine Sq (Rg [0] ?_)
 refine V 6 4 (mc (.bool false) (.bool false)) ?_
 refine Nss (Rg [0, 1, 2, 3, 4, 5, 6, 7, 8] ?_)
 refine RWP.cut (fun f w => ∃ (F1 : Mem), HS w0 F0 w F1 [] ∧ Mem.le F0 F1 ∧ f.d = [] ∧ f 6 = (.bool ((decide (x1 ≤ x0)) && (decide (x0 ≤ x2))))) ?_ ?_
 ·refine V 7 3 (mv 1 (vi x1)) ?_
  refine V 8 3 (mv 0 (vi x0)) ?_
  refine V 9 4 (run_leq (t := 3) (t' := 3) (x := (.tmp 7)) (y := (.tmp 8)) (k := .i64) (a := x1) (b := x0) rfl rfl) ?_
  refine V 10 4 (mv 9 (.bool (decide (x1 ≤ x0)))) ?_
  refine RWP.split (decide (x1 ≤ x0)) (fun hb6 => ?_) (fun hb6 => ?_)
  ·refine Vg 11 3 3 true 10 hb6 (mv 0 (vi x0)) ?_
   refine Vg 12 3 3 true 10 hb6 (mv 2 (vi x2)) ?_
   refine Vg 13 4 3 true 10 hb6 (run_leq (t := 3) (t' := 3) (x := (.tmp 11)) (y := (.tmp 12)) (k := .i64) (a := x0) (b := x2) rfl rfl) ?_
   refine V 14 4 (p1 10 (.tmp 13) (.const (.bool false)) (.bool (decide (x0 ≤ x2))) hb6) ?_
   refine V 6 4 (ma 14 (.bool (decide (x0 ≤ x2)))) ?_
   exact RWP.nil ⟨rfl, F0, hs0, (Mem.le.refl _), rfl, (congrArg Value.bool (and_t hb6 (rfl)))⟩
  ·refine Sk [11, 12, 13] 3 true 10 hb6 ?_
   refine V 14 4 (p0 10 (.tmp 13) (.const (.bool false)) (.bool false) hb6) ?_
   refine V 6 4 (ma 14 (.bool false)) ?_
   exact RWP.nil ⟨rfl, F0, hs0, (Mem.le.refl _), rfl, (congrArg Value.bool (and_f hb6 (rfl)))⟩
 ·rintro f w1 ⟨F1, hs2, le3, e4, e5⟩
  refine thenQ_nrm ?_
  refine CWP.ret (by kernel_rfl) ?_
  have hfin := some_inj h
  subst hfin
  exact ⟨e4, (.bool ((decide (x1 ≤ x0)) && (decide (x0 ≤ x2)))), res_of (l := [.tmp 6]) (by kernel_rfl) (vs := [(.bool ((decide (x1 ≤ x0)) && (decide (x0 ≤ x2))))]) ⟨e5, trivial⟩, (.bool ((decide (x1 ≤ x0)) && (decide (x0 ≤ x2)))), F1, rfl, hs2.clear, rfl⟩
end Go.Proofs.Ythbcnabeabcmlaa
namespace Go.Proofs.Ythbcnabeabcmlaa
open Go.Proofs
def ref03_ValidClock_L0 (N : Nat) (x0 : Clock) (j7 : (Bool)) : Int → Option (Flow Bool Int) := fun s41 =>
 (bif (decide (s41 < (x0.Jumps.length : Int))) then (((idx x0.Jumps s41).bind fun x73 => ((ref03_within N x73 0 20000).bind fun r87 => (bif (!r87) then some true else (bif (decide (s41 > 0)) then ((idx x0.Jumps s41).bind fun x100 => ((idx x0.Jumps (W64 (s41 - 1))).bind fun x106 => some (decide (x100 ≤ x106)))) else some false)))).bind fun j66 => (bif j66 then some (.ret false) else some (.next (W64 (s41 + 1))))) else some (.done s41))
def ref03_ValidClock (N : Nat) (x0 : Clock) : Option Bool :=
 (((ref03_within N x0.Slip 0 1440).bind fun r13 => (bif (!r13) then some true else ((ref03_within N x0.Drift 0 100).bind fun r24 => (bif (!r24) then some true else some (decide ((x0.Jumps.length : Int) > 16)))))).bind fun j7 => (bif j7 then some false else ((iter (ref03_ValidClock_L0 N x0 j7) N 0).bind fun o => o.k (fun r => some r) (fun s48 => some true))))
theorem co_ref03_ValidClock : CallOk Try.prog 37 := fun _ _ => by kernel_rfl
set_option maxHeartbeats 4000000 in
set_option maxRecDepth 100000 in
theorem c_ref03_ValidClock (N : Nat) (w0 : World) (F0 : Mem) (hF : ∀ b o, F0 b = some o → w0.heap[b]? = some o) (x0 : Clock) (a0_2 : Option Addr) (n0_2 : Nat) (hb0_2 : LC x0.Jumps.length n0_2) (hs0_2 : SlA tInt F0 a0_2 x0.Jumps) (r : Bool) (h : ref03_ValidClock N x0 = some r) :
  Calls Try.prog 37 ([(.agg (kClock x0 a0_2 n0_2))] : List Value).toArray w0 (FRet w0 F0 fun F' v => v = (.bool r)) := by
 have hs0 := HS.start hF
 refine calls_of (n := 52) (c := bodyOf Try.f37) Try.func37 (by kernel_rfl) (by kernel_rfl) (by kernel_rfl) ?_
 refine Sq (Rg [0, 1] ?_)
 refine Bx 1 0 0 52 (kClock x0 a0_2 n0_2) hs0 (fun b1 w2 (hs3 : HS w0 F0 w2 F0 [(sb b1 (kClock x0 a0_2 n0_2) 52)]) => ?_)
 refine V 2 4 (mc (.bool false) (.bool false)) ?_
 refine Nss ?_
 refine Sq (Rg [0, 1, 2, 3, 4, 5, 6, 7, 8, 9, 10, 11, 12, 13, 14, 15] ?_)
 obtain ⟨j7, hj11, h12⟩ := bind_some h
 refine RWP.cut (fun f w => ∃ (F1 : Mem), HS w0 F0 w F1 [(sb b1 (kClock x0 a0_2 n0_2) 52)] ∧ Mem.le F0 F1 ∧ f.d = [] ∧ f 1 = (.pointer (some ⟨b1, 0, none⟩)) ∧ f 19 = (.bool j7)) ?_ ?_
 ·refine V 4 0 (fa 52 1 0 0 1 b1 0 0) ?_
  refine V 5 3 (ld 3 4 b1 0 false 1 (vi x0.Slip) (hs3.ownAt (k := 0) rfl)) ?_
  obtain ⟨r13, hr14, h15⟩ := bind_some hj11
  refine Cl 6 4 83 #[(.tmp 5), (.const (vi 0)), (.const (vi 1440))] #[3, 3, 3] co_ref03_within hs3 (c_ref03_within N w2 F0 hs3.pers (x0.Slip) (0) (1440) _ hr14) ?_
  intro v16 F2 w17 hs18 le19 hp20
  obtain rfl := hp20
  refine V 7 4 (run_not (t := 4) (x := (.tmp 6)) (a := r13) rfl) ?_
  refine V 8 4 (mv 7 (.bool (!r13))) ?_
  refine RWP.split (!r13) (fun hb21 => ?_) (fun hb21 => ?_)
  ·have h22 := cond_t h15 hb21
   refine Sk [9, 10, 11, 12] 4 false 8 hb21 ?_
   refine V 13 4 (p1 8 (.const (.bool true)) (.tmp 12) (.bool true) hb21) ?_
   refine V 14 4 (mv 13 (.bool true)) ?_
   refine Sk [15, 16, 17, 18] 10 false 14 rfl ?_
   refine V 19 4 (p1 14 (.const (.bool true)) (.tmp 18) (.bool true) rfl) ?_
   obtain rfl := some_inj h22
   exact RWP.nil ⟨rfl, F2, hs18, le19, rfl, rfl, rfl⟩
  ·have h23 := cond_f h15 hb21
   refine Vg 9 0 4 false 8 hb21 (fa 52 1 1 1 1 b1 0 1) ?_
   refine Vg 10 3 4 false 8 hb21 (ld 3 9 b1 1 false 1 (vi x0.Drift) (hs18.ownAt (k := 0) rfl)) ?_
   obtain ⟨r24, hr25, h26⟩ := bind_some h23
   refine RWP.call (dst := (some 11)) (ty := 4) (g := (some (4, false))) (by kernel_rfl) (gd_y (d := 8) (by kernel_rfl) rfl hb21) (f0 := (.func 83)) (aos := #[(.tmp 10), (.const (vi 0)), (.const (vi 100))]) (ats := #[3, 3, 3]) (fid := 83) (first := #[]) (cap := #[]) (args := [(vi x0.Drift), (vi 0), (vi 100)]) rfl co_ref03_within (rfl) hs18 (c_ref03_within N w17 F2 hs18.pers (x0.Drift) (0) (100) _ hr25) ?_
   intro v27 F3 w28 hs29 le30 hp31
   obtain rfl := hp31
   refine Vg 12 4 4 false 8 hb21 (run_not (t := 4) (x := (.tmp 11)) (a := r24) rfl) ?_
   refine V 13 4 (p0 8 (.const (.bool true)) (.tmp 12) (.bool (!r24)) hb21) ?_
   refine V 14 4 (mv 13 (.bool (!r24))) ?_
   refine RWP.split (!r24) (fun hb32 => ?_) (fun hb32 => ?_)
   ·have h33 := cond_t h26 hb32
    refine Sk [15, 16, 17, 18] 10 false 14 hb32 ?_
    refine V 19 4 (p1 14 (.const (.bool true)) (.tmp 18) (.bool true) hb32) ?_
    obtain rfl := some_inj h33
    exact RWP.nil ⟨rfl, F3, hs29, (le19.trans le30), rfl, rfl, rfl⟩
   ·have h34 := cond_f h26 hb32
    refine Vg 15 0 10 false 14 hb32 (fa 52 1 2 2 1 b1 0 2) ?_
    refine Vg 16 50 10 false 14 hb32 (ld 50 15 b1 2 false 1 (.slice a0_2 x0.Jumps.length n0_2) (hs29.ownAt (k := 0) rfl)) ?_
    refine Vg 17 3 10 false 14 hb32 (ln 16 50 a0_2 x0.Jumps.length n0_2 3 1 8) ?_
    refine Vg 18 4 10 false 14 hb32 (run_gtr (t := 3) (t' := 3) (x := (.tmp 17)) (y := (.const (vi 16))) (k := .i64) (a := (x0.Jumps.length : Int)) (b := 16) rfl rfl) ?_
    refine V 19 4 (p0 14 (.const (.bool true)) (.tmp 18) (.bool (decide ((x0.Jumps.length : Int) > 16))) hb32) ?_
    obtain rfl := some_inj h34
    exact RWP.nil ⟨rfl, F3, hs29, (le19.trans le30), rfl, rfl, rfl⟩
 ·rintro f w4 ⟨F1, hs5, le6, e8, e9, e10⟩
  refine thenQ_nrm ?_
  refine CWP.cond (t := j7) (by kernel_rfl) e10 (fun hb35 => ?_) (fun hb35 => ?_)
  ·have h36 := cond_t h12 hb35
   refine Sq (Rg [0] ?_)
   refine V 2 4 (mc (.bool false) (.bool false)) ?_
   refine Nt ?_
   refine CWP.ret (by kernel_rfl) ?_
   refine thenQ_ret ?_
   have hfin := some_inj h36
   subst hfin
   exact ⟨e8, (.bool false), res_of (l := [.tmp 2]) (by kernel_rfl) (vs := [(.bool false)]) ⟨rfl, trivial⟩, (.bool false), F1, rfl, hs5.clear, rfl⟩
  ·have h37 := cond_f h12 hb35
   refine Sc ?_
   refine thenQ_nrm ?_
   refine Sq ?_
   refine Sq (Rg [0] ?_)
   refine V 3 3 (mc (vi 0) (vi 0)) ?_
   refine Nt ?_
   obtain ⟨o38, ho39, h40⟩ := bind_some h37
   refine CWP.cut (fun f w => ∃ (s48 : Int) (F5 : Mem), o38 = .done s48 ∧ HS w0 F0 w F5 [] ∧ Mem.le F1 F5 ∧ f.d = []) ?_ ?_
   ·refine Bk ?_
    refine CWP.loop (by kernel_rfl) (fun m f w => ∃ (s41 : Int) (F4 : Mem), iter (ref03_ValidClock_L0 N x0 j7) m s41 = some o38 ∧ HS w0 F0 w F4 [(sb b1 (kClock x0 a0_2 n0_2) 52)] ∧ Mem.le F1 F4 ∧ f.d = [] ∧ f 1 = (.pointer (some ⟨b1, 0, none⟩)) ∧ f 3 = (vi s41)) N ⟨0, F1, ho39, hs5, (Mem.le.refl _), e8, e9, rfl⟩ ?_
    rintro m53 f w42 ⟨s41, F4, hit54, hs43, le44, e45, e46, e47⟩
    obtain ⟨m55, fl56, rfl, hb57, hnx58⟩ := iter_step hit54
    refine Sq ?_
    refine Sq (Rg [0, 1, 2, 3, 4] ?_)
    refine V 20 3 (mv 3 (vi s41) e47) ?_
    refine V 21 0 (fa 52 1 2 2 1 b1 0 2 e46) ?_
    refine V 22 50 (ld 50 21 b1 2 false 1 (.slice a0_2 x0.Jumps.length n0_2) (hs43.ownAt (k := 0) rfl)) ?_
    refine V 23 3 (ln 22 50 a0_2 x0.Jumps.length n0_2 3 1 8) ?_
    refine V 24 4 (run_lss (t := 3) (t' := 3) (x := (.tmp 20)) (y := (.tmp 23)) (k := .i64) (a := s41) (b := (x0.Jumps.length : Int)) rfl rfl) ?_
    refine Nt ?_
    refine CWP.cond (t := (decide (s41 < (x0.Jumps.length : Int)))) (by kernel_rfl) rfl (fun hb59 => ?_) (fun hb59 => ?_)
    ·have h60 := cond_t hb57 hb59
     refine Sc ?_
     refine thenQ_nrm ?_
     refine Sq ?_
     refine Bk ?_
     refine Sq ?_
     obtain ⟨j66, hj71, h72⟩ := bind_some h60
     refine CWP.regionD (by kernel_rfl) (by kernel_rfl) (by kernel_rfl) (by kernel_rfl) (z := 25) (F := F4) (Lc := [(sb b1 (kClock x0 a0_2 n0_2) 52)]) (Lz := []) (l := [false, false, false, false, false, false, false, false, false, false, false, false, false, false, false, false, false, false, false, false, false, false, false, false, false]) (fuel := 25) (by kernel_rfl) (by kernel_rfl) hs43 (by simp) (by simp) (fun f w => ∃ (F6 : Mem), HS w0 F0 w F6 [(sb b1 (kClock x0 a0_2 n0_2) 52)] ∧ Mem.le F4 F6 ∧ f.d = [] ∧ f 1 = (.pointer (some ⟨b1, 0, none⟩)) ∧ f 3 = (vi s41) ∧ f 51 = (.bool j66)) (fun wd61 hw62 => ?_) ?_
     ·refine Dtl 0 27 0 (.pointer (some ⟨b1, 2, none⟩)) [tt, ff, ff, ff, ff, ff, ff, ff, ff, ff, ff, ff, ff, ff, ff, ff, ff, ff, ff, ff, ff, ff, ff, ff, ff] (fun _ hq => fa 52 1 2 2 1 b1 0 2 e46) ?_
      refine Dtl 1 28 50 _ [tt, tt, ff, ff, ff, ff, ff, ff, ff, ff, ff, ff, ff, ff, ff, ff, ff, ff, ff, ff, ff, ff, ff, ff, ff] (fun _ hq => ld 50 27 b1 2 false 1 (.slice a0_2 x0.Jumps.length n0_2) (hq.1.2 0 _ _ rfl)) ?_
      refine Dtl 2 29 3 _ [tt, tt, tt, ff, ff, ff, ff, ff, ff, ff, ff, ff, ff, ff, ff, ff, ff, ff, ff, ff, ff, ff, ff, ff, ff] (fun _ hq => mv 3 (vi s41) e47) ?_
      obtain ⟨x73, hx74, h76⟩ := bind_some hj71
      obtain ⟨hi75, hx74'⟩ := idx_spec hx74
      obtain ⟨b77, o78, C79, E80, fz81, rfl, hF83, hE84⟩ := SlA.open (SlA.mono hs0_2 (le6.trans le44)) hx74'
      have hc86 := hE84 _ _ hx74'
      refine Dtl 3 30 0 (.pointer (some ⟨b77, (o78 + (s41 : Int).toNat * 1), none⟩)) [tt, tt, tt, tt, ff, ff, ff, ff, ff, ff, ff, ff, ff, ff, ff, ff, ff, ff, ff, ff, ff, ff, ff, ff, ff] (fun _ hq => ix 50 28 29 b77 o78 3 1 8 hi75) ?_
      refine Dtl 4 31 3 _ [tt, tt, tt, tt, tt, ff, ff, ff, ff, ff, ff, ff, ff, ff, ff, ff, ff, ff, ff, ff, ff, ff, ff, ff, ff] (fun _ hq => lx 3 30 0 1 false 1 (vi x73) (hq.1.1 _ _ hF83) hc86) ?_
      refine DWP.one (i := 5) (by kernel_rfl) ?_
      obtain ⟨r87, hr88, h89⟩ := bind_some h76
      refine DStep.call (l' := [true, true, true, true, true, true, false, false, false, false, false, false, false, false, false, false, false, false, false, false, false, false, false, false, false]) (zd := true) (by kernel_rfl) (by kernel_rfl) (by kernel_rfl) (dst := (some 32)) (ty := 4) (g := none) (by kernel_rfl) rfl (f0 := (.func 83)) (aos := #[(.tmp 31), (.const (vi 0)), (.const (vi 20000))]) (ats := #[3, 3, 3]) (fid := 83) (first := #[]) (cap := #[]) (args := [(vi x73), (vi 0), (vi 20000)]) rfl co_ref03_within (rfl) hw62 (c_ref03_within N wd61 F4 hw62.pers (x73) (0) (20000) _ hr88) ?_
      intro v90 F7 w91 hs92 le93 hp94
      obtain rfl := hp94
      refine Dtl 6 33 4 (.bool (!r87)) [tt, tt, tt, tt, tt, tt, tt, ff, ff, ff, ff, ff, ff, ff, ff, ff, ff, ff, ff, ff, ff, ff, ff, ff, ff] (fun _ hq => run_not (t := 4) (x := (.tmp 32)) (a := r87) rfl) ?_
      refine Dtl 7 34 4 _ [tt, tt, tt, tt, tt, tt, tt, tt, ff, ff, ff, ff, ff, ff, ff, ff, ff, ff, ff, ff, ff, ff, ff, ff, ff] (fun _ hq => mv 33 (.bool (!r87))) ?_
      refine DWP.split (!r87) (fun hb95 => ?_) (fun hb95 => ?_)
      ·have h96 := cond_t h89 hb95
       refine Dkl [(8, 35), (9, 36), (10, 37)] 7 false 34 hb95 [tt, tt, tt, tt, tt, tt, tt, tt, tt, tt, tt, ff, ff, ff, ff, ff, ff, ff, ff, ff, ff, ff, ff, ff, ff] ?_
       refine Dul [(11, 38), (12, 39), (13, 40), (14, 41), (15, 42), (16, 43)] 10 true 37 [tt, tt, tt, tt, tt, tt, tt, tt, tt, tt, tt, tt, tt, tt, tt, tt, tt, ff, ff, ff, ff, ff, ff, ff, ff] ?_
       refine Dul [(17, 44), (18, 45), (19, 46), (20, 47), (21, 48), (22, 49)] 10 true 37 [tt, tt, tt, tt, tt, tt, tt, tt, tt, tt, tt, tt, tt, tt, tt, tt, tt, tt, tt, tt, tt, tt, tt, ff, ff] ?_
       refine Dkl [(23, 50)] 7 false 34 hb95 [tt, tt, tt, tt, tt, tt, tt, tt, tt, tt, tt, tt, tt, tt, tt, tt, tt, tt, tt, tt, tt, tt, tt, tt, ff] ?_
       refine Dtl 24 51 4 _ [tt, tt, tt, tt, tt, tt, tt, tt, tt, tt, tt, tt, tt, tt, tt, tt, tt, tt, tt, tt, tt, tt, tt, tt, tt] (fun _ hq => p1 34 (.const (.bool true)) (.tmp 50) (.bool true) hb95) ?_
       obtain rfl := some_inj h96
       exact DWP.done (by kernel_rfl) ⟨F7, hs92, le93, e45, e46, e47, rfl⟩
      ·have h97 := cond_f h89 hb95
       refine Dgl 8 35 3 _ [tt, tt, tt, tt, tt, tt, tt, tt, tt, ff, ff, ff, ff, ff, ff, ff, ff, ff, ff, ff, ff, ff, ff, ff, ff] 7 false 34 hb95 (fun _ hq => mv 3 (vi s41) e47) ?_
       refine Dgl 9 36 4 (.bool (decide (s41 > 0))) [tt, tt, tt, tt, tt, tt, tt, tt, tt, tt, ff, ff, ff, ff, ff, ff, ff, ff, ff, ff, ff, ff, ff, ff, ff] 7 false 34 hb95 (fun _ hq => run_gtr (t := 3) (t' := 3) (x := (.tmp 35)) (y := (.const (vi 0))) (k := .i64) (a := s41) (b := 0) rfl rfl) ?_
       refine Dgl 10 37 4 _ [tt, tt, tt, tt, tt, tt, tt, tt, tt, tt, tt, ff, ff, ff, ff, ff, ff, ff, ff, ff, ff, ff, ff, ff, ff] 7 false 34 hb95 (fun _ hq => mv 36 (.bool (decide (s41 > 0)))) ?_
       refine DWP.split (decide (s41 > 0)) (fun hb98 => ?_) (fun hb98 => ?_)
       ·have h99 := cond_t h97 hb98
        refine Dgl 11 38 0 (.pointer (some ⟨b1, 2, none⟩)) [tt, tt, tt, tt, tt, tt, tt, tt, tt, tt, tt, tt, ff, ff, ff, ff, ff, ff, ff, ff, ff, ff, ff, ff, ff] 10 true 37 hb98 (fun _ hq => fa 52 1 2 2 1 b1 0 2 e46) ?_
        refine Dgl 12 39 50 _ [tt, tt, tt, tt, tt, tt, tt, tt, tt, tt, tt, tt, tt, ff, ff, ff, ff, ff, ff, ff, ff, ff, ff, ff, ff] 10 true 37 hb98 (fun _ hq => ld 50 38 b1 2 false 1 (.slice (some ⟨b77, o78, none⟩) x0.Jumps.length n0_2) (hq.1.2 0 _ _ rfl)) ?_
        refine Dgl 13 40 3 _ [tt, tt, tt, tt, tt, tt, tt, tt, tt, tt, tt, tt, tt, tt, ff, ff, ff, ff, ff, ff, ff, ff, ff, ff, ff] 10 true 37 hb98 (fun _ hq => mv 3 (vi s41) e47) ?_
        obtain ⟨x100, hx101, h103⟩ := bind_some h99
        obtain ⟨hi102, hx101'⟩ := idx_spec hx101
        have hc105 := hE84 _ _ hx101'
        refine Dgl 14 41 0 (.pointer (some ⟨b77, (o78 + (s41 : Int).toNat * 1), none⟩)) [tt, tt, tt, tt, tt, tt, tt, tt, tt, tt, tt, tt, tt, tt, tt, ff, ff, ff, ff, ff, ff, ff, ff, ff, ff] 10 true 37 hb98 (fun _ hq => ix 50 39 40 b77 o78 3 1 8 hi102) ?_
        refine Dgl 15 42 3 _ [tt, tt, tt, tt, tt, tt, tt, tt, tt, tt, tt, tt, tt, tt, tt, tt, ff, ff, ff, ff, ff, ff, ff, ff, ff] 10 true 37 hb98 (fun _ hq => lx 3 41 0 1 false 1 (vi x100) (hq.1.1 _ _ hF83) hc105) ?_
        refine Dgl 16 43 0 (.pointer (some ⟨b1, 2, none⟩)) [tt, tt, tt, tt, tt, tt, tt, tt, tt, tt, tt, tt, tt, tt, tt, tt, tt, ff, ff, ff, ff, ff, ff, ff, ff] 10 true 37 hb98 (fun _ hq => fa 52 1 2 2 1 b1 0 2 e46) ?_
        refine Dgl 17 44 50 _ [tt, tt, tt, tt, tt, tt, tt, tt, tt, tt, tt, tt, tt, tt, tt, tt, tt, tt, ff, ff, ff, ff, ff, ff, ff] 10 true 37 hb98 (fun _ hq => ld 50 43 b1 2 false 1 (.slice (some ⟨b77, o78, none⟩) x0.Jumps.length n0_2) (hq.1.2 0 _ _ rfl)) ?_
        refine Dgl 18 45 3 _ [tt, tt, tt, tt, tt, tt, tt, tt, tt, tt, tt, tt, tt, tt, tt, tt, tt, tt, tt, ff, ff, ff, ff, ff, ff] 10 true 37 hb98 (fun _ hq => mv 3 (vi s41) e47) ?_
        refine Dgl 19 46 3 (vi (W64 (s41 - 1))) [tt, tt, tt, tt, tt, tt, tt, tt, tt, tt, tt, tt, tt, tt, tt, tt, tt, tt, tt, tt, ff, ff, ff, ff, ff] 10 true 37 hb98 (fun _ hq => run_sub (t := 3) (t' := 3) (x := (.tmp 45)) (y := (.const (vi 1))) (k := .i64) (a := s41) (b := 1) rfl rfl) ?_
        obtain ⟨x106, hx107, h109⟩ := bind_some h103
        obtain ⟨hi108, hx107'⟩ := idx_spec hx107
        have hc111 := hE84 _ _ hx107'
        refine Dgl 20 47 0 (.pointer (some ⟨b77, (o78 + ((W64 (s41 - 1)) : Int).toNat * 1), none⟩)) [tt, tt, tt, tt, tt, tt, tt, tt, tt, tt, tt, tt, tt, tt, tt, tt, tt, tt, tt, tt, tt, ff, ff, ff, ff] 10 true 37 hb98 (fun _ hq => ix 50 44 46 b77 o78 3 1 8 hi108) ?_
        refine Dgl 21 48 3 _ [tt, tt, tt, tt, tt, tt, tt, tt, tt, tt, tt, tt, tt, tt, tt, tt, tt, tt, tt, tt, tt, tt, ff, ff, ff] 10 true 37 hb98 (fun _ hq => lx 3 47 0 1 false 1 (vi x106) (hq.1.1 _ _ hF83) hc111) ?_
        refine Dgl 22 49 4 (.bool (decide (x100 ≤ x106))) [tt, tt, tt, tt, tt, tt, tt, tt, tt, tt, tt, tt, tt, tt, tt, tt, tt, tt, tt, tt, tt, tt, tt, ff, ff] 10 true 37 hb98 (fun _ hq => run_leq (t := 3) (t' := 3) (x := (.tmp 42)) (y := (.tmp 48)) (k := .i64) (a := x100) (b := x106) rfl rfl) ?_
        refine Dgl 23 50 4 _ [tt, tt, tt, tt, tt, tt, tt, tt, tt, tt, tt, tt, tt, tt, tt, tt, tt, tt, tt, tt, tt, tt, tt, tt, ff] 7 false 34 hb95 (fun _ hq => p1 37 (.tmp 49) (.const (.bool false)) (.bool (decide (x100 ≤ x106))) hb98) ?_
        refine Dtl 24 51 4 _ [tt, tt, tt, tt, tt, tt, tt, tt, tt, tt, tt, tt, tt, tt, tt, tt, tt, tt, tt, tt, tt, tt, tt, tt, tt] (fun _ hq => p0 34 (.const (.bool true)) (.tmp 50) (.bool (decide (x100 ≤ x106))) hb95) ?_
        obtain rfl := some_inj h109
        exact DWP.done (by kernel_rfl) ⟨F7, hs92, le93, e45, e46, e47, rfl⟩
       ·have h112 := cond_f h97 hb98
        refine Dkl [(11, 38), (12, 39), (13, 40), (14, 41), (15, 42), (16, 43)] 10 true 37 hb98 [tt, tt, tt, tt, tt, tt, tt, tt, tt, tt, tt, tt, tt, tt, tt, tt, tt, ff, ff, ff, ff, ff, ff, ff, ff] ?_
        refine Dkl [(17, 44), (18, 45), (19, 46), (20, 47), (21, 48), (22, 49)] 10 true 37 hb98 [tt, tt, tt, tt, tt, tt, tt, tt, tt, tt, tt, tt, tt, tt, tt, tt, tt, tt, tt, tt, tt, tt, tt, ff, ff] ?_
        refine Dgl 23 50 4 _ [tt, tt, tt, tt, tt, tt, tt, tt, tt, tt, tt, tt, tt, tt, tt, tt, tt, tt, tt, tt, tt, tt, tt, tt, ff] 7 false 34 hb95 (fun _ hq => p0 37 (.tmp 49) (.const (.bool false)) (.bool false) hb98) ?_
        refine Dtl 24 51 4 _ [tt, tt, tt, tt, tt, tt, tt, tt, tt, tt, tt, tt, tt, tt, tt, tt, tt, tt, tt, tt, tt, tt, tt, tt, tt] (fun _ hq => p0 34 (.const (.bool true)) (.tmp 50) (.bool false) hb95) ?_
        obtain rfl := some_inj h112
        exact DWP.done (by kernel_rfl) ⟨F7, hs92, le93, e45, e46, e47, rfl⟩
     ·rintro f w63 ⟨F6, hs64, le65, e67, e68, e69, e70⟩
      refine thenQ_nrm ?_
      refine CWP.cond (t := j66) (by kernel_rfl) e70 (fun hb113 => ?_) (fun hb113 => ?_)
      ·have h114 := cond_t h72 hb113
       refine Sq (Rg [0] ?_)
       refine V 2 4 (mc (.bool false) (.bool false)) ?_
       refine Nt ?_
       refine CWP.ret (by kernel_rfl) ?_
       refine blockQ_ret ?_
       refine thenQ_ret ?_
       refine thenQ_ret ?_
       refine blockQ_ret ?_
       have hret := iter_ret h114 hnx58
       subst hret
       refine .inr ?_
       refine thenQ_ret ?_
       have hfin := some_inj h40
       subst hfin
       exact ⟨e67, (.bool false), res_of (l := [.tmp 2]) (by kernel_rfl) (vs := [(.bool false)]) ⟨rfl, trivial⟩, (.bool false), F6, rfl, hs64.clear, rfl⟩
      ·have h115 := cond_f h72 hb113
       refine Sc ?_
       refine blockQ_nrm ?_
       refine thenQ_nrm ?_
       refine Rg [0, 1, 2] ?_
       refine V 25 3 (mv 3 (vi s41) e69) ?_
       refine V 26 3 (run_add (t := 3) (t' := 3) (x := (.tmp 25)) (y := (.const (vi 1))) (k := .i64) (a := s41) (b := 1) rfl rfl) ?_
       refine V 3 3 (ma 26 (vi (W64 (s41 + 1)))) ?_
       refine RWP.nil ?_
       have hn116 := iter_next h115 hnx58
       exact ⟨m55, Nat.lt_succ_self _, (W64 (s41 + 1)), F6, hn116, hs64, (le44.trans le65), e67, e68, rfl⟩
    ·have h117 := cond_f hb57 hb59
     refine CWP.exit (by kernel_rfl) ?_
     refine thenQ_ex ?_
     refine thenQ_ex ?_
     refine blockQ_hit rfl ?_
     have hs118 : HS w0 F0 w42 F4 [] := hs43.drop 0
     have ho119 := iter_done h117 hnx58
     exact .inl ⟨rfl, s41, F4, ho119, hs118, le44, e45⟩
   ·rintro f w49 ⟨s48, F5, rfl, hs50, le51, e52⟩
    have h120 := k_done h40
    refine thenQ_nrm ?_
    refine Sq (Rg [0] ?_)
    refine V 2 4 (mc (.bool true) (.bool true)) ?_
    refine Nt ?_
    refine CWP.ret (by kernel_rfl) ?_
    have hfin := some_inj h120
    subst hfin
    exact ⟨e52, (.bool true), res_of (l := [.tmp 2]) (by kernel_rfl) (vs := [(.bool true)]) ⟨rfl, trivial⟩, (.bool true), F5, rfl, hs50.clear, rfl⟩
end Go.Proofs.Ythbcnabeabcmlaa
namespace Go.Proofs.Ythbcnabeabcmlaa
open Go.Proofs
def ref03_ValidTrack_L0 (N : Nat) (x0 : Track) (j7 : (Bool)) : Int → Option (Flow Bool Int) := fun s30 =>
 (bif (decide (s30 < (x0.Times.length : Int))) then (((idx x0.Times s30).bind fun x62 => ((ref03_within N x62 0 20000).bind fun r76 => (bif (!r76) then some true else (bif (decide (s30 > 0)) then ((idx x0.Times s30).bind fun x89 => ((idx x0.Times (W64 (s30 - 1))).bind fun x95 => some (decide (x89 < x95)))) else some false)))).bind fun j55 => (bif j55 then some (.ret false) else some (.next (W64 (s30 + 1))))) else some (.done s30))
def ref03_ValidTrack (N : Nat) (x0 : Track) : Option Bool :=
 (((ref03_ValidClock N x0.Clock).bind fun r13 => (bif (!r13) then some true else some (decide ((x0.Times.length : Int) > 400)))).bind fun j7 => (bif j7 then some false else ((iter (ref03_ValidTrack_L0 N x0 j7) N 0).bind fun o => o.k (fun r => some r) (fun s37 => some true))))
theorem co_ref03_ValidTrack : CallOk Try.prog 39 := fun _ _ => by kernel_rfl
set_option maxHeartbeats 4000000 in
set_option maxRecDepth 100000 in
theorem c_ref03_ValidTrack (N : Nat) (w0 : World) (F0 : Mem) (hF : ∀ b o, F0 b = some o → w0.heap[b]? = some o) (x0 : Track) (a0_2 : Option Addr) (n0_2 : Nat) (hb0_2 : LC x0.Clock.Jumps.length n0_2) (hs0_2 : SlA tInt F0 a0_2 x0.Clock.Jumps) (a0_3 : Option Addr) (n0_3 : Nat) (hb0_3 : LC x0.Times.length n0_3) (hs0_3 : SlA tInt F0 a0_3 x0.Times) (r : Bool) (h : ref03_ValidTrack N x0 = some r) :
  Calls Try.prog 39 ([(.agg (kTrack x0 a0_2 n0_2 a0_3 n0_3))] : List Value).toArray w0 (FRet w0 F0 fun F' v => v = (.bool r)) := by
 have hs0 := HS.start hF
 refine calls_of (n := 46) (c := bodyOf Try.f39) Try.func39 (by kernel_rfl) (by kernel_rfl) (by kernel_rfl) ?_
 refine Sq (Rg [0, 1] ?_)
 refine Bx 1 0 0 54 (kTrack x0 a0_2 n0_2 a0_3 n0_3) hs0 (fun b1 w2 (hs3 : HS w0 F0 w2 F0 [(sb b1 (kTrack x0 a0_2 n0_2 a0_3 n0_3) 54)]) => ?_)
 refine V 2 4 (mc (.bool false) (.bool false)) ?_
 refine Nss ?_
 refine Sq (Rg [0, 1, 2, 3, 4, 5, 6, 7, 8, 9] ?_)
 obtain ⟨j7, hj11, h12⟩ := bind_some h
 refine RWP.cut (fun f w => ∃ (F1 : Mem), HS w0 F0 w F1 [(sb b1 (kTrack x0 a0_2 n0_2 a0_3 n0_3) 54)] ∧ Mem.le F0 F1 ∧ f.d = [] ∧ f 1 = (.pointer (some ⟨b1, 0, none⟩)) ∧ f 13 = (.bool j7)) ?_ ?_
 ·refine V 4 0 (fa 54 1 0 0 3 b1 0 0) ?_
  refine V 5 52 (ld 52 4 b1 0 true 3 (.agg (kClock x0.Clock a0_2 n0_2)) (hs3.ownAt (k := 0) rfl)) ?_
  obtain ⟨r13, hr14, h15⟩ := bind_some hj11
  refine Cl 6 4 37 #[(.tmp 5)] #[52] co_ref03_ValidClock hs3 (c_ref03_ValidClock N w2 F0 hs3.pers (x0.Clock) a0_2 n0_2 hb0_2 hs0_2 _ hr14) ?_
  intro v16 F2 w17 hs18 le19 hp20
  obtain rfl := hp20
  refine V 7 4 (run_not (t := 4) (x := (.tmp 6)) (a := r13) rfl) ?_
  refine V 8 4 (mv 7 (.bool (!r13))) ?_
  refine RWP.split (!r13) (fun hb21 => ?_) (fun hb21 => ?_)
  ·have h22 := cond_t h15 hb21
   refine Sk [9, 10, 11, 12] 4 false 8 hb21 ?_
   refine V 13 4 (p1 8 (.const (.bool true)) (.tmp 12) (.bool true) hb21) ?_
   obtain rfl := some_inj h22
   exact RWP.nil ⟨rfl, F2, hs18, le19, rfl, rfl, rfl⟩
  ·have h23 := cond_f h15 hb21
   refine Vg 9 0 4 false 8 hb21 (fa 54 1 1 3 1 b1 0 3) ?_
   refine Vg 10 50 4 false 8 hb21 (ld 50 9 b1 3 false 1 (.slice a0_3 x0.Times.length n0_3) (hs18.ownAt (k := 0) rfl)) ?_
   refine Vg 11 3 4 false 8 hb21 (ln 10 50 a0_3 x0.Times.length n0_3 3 1 8) ?_
   refine Vg 12 4 4 false 8 hb21 (run_gtr (t := 3) (t' := 3) (x := (.tmp 11)) (y := (.const (vi 400))) (k := .i64) (a := (x0.Times.length : Int)) (b := 400) rfl rfl) ?_
   refine V 13 4 (p0 8 (.const (.bool true)) (.tmp 12) (.bool (decide ((x0.Times.length : Int) > 400))) hb21) ?_
   obtain rfl := some_inj h23
   exact RWP.nil ⟨rfl, F2, hs18, le19, rfl, rfl, rfl⟩
 ·rintro f w4 ⟨F1, hs5, le6, e8, e9, e10⟩
  refine thenQ_nrm ?_
  refine CWP.cond (t := j7) (by kernel_rfl) e10 (fun hb24 => ?_) (fun hb24 => ?_)
  ·have h25 := cond_t h12 hb24
   refine Sq (Rg [0] ?_)
   refine V 2 4 (mc (.bool false) (.bool false)) ?_
   refine Nt ?_
   refine CWP.ret (by kernel_rfl) ?_
   refine thenQ_ret ?_
   have hfin := some_inj h25
   subst hfin
   exact ⟨e8, (.bool false), res_of (l := [.tmp 2]) (by kernel_rfl) (vs := [(.bool false)]) ⟨rfl, trivial⟩, (.bool false), F1, rfl, hs5.clear, rfl⟩
  ·have h26 := cond_f h12 hb24
   refine Sc ?_
   refine thenQ_nrm ?_
   refine Sq ?_
   refine Sq (Rg [0] ?_)
   refine V 3 3 (mc (vi 0) (vi 0)) ?_
   refine Nt ?_
   obtain ⟨o27, ho28, h29⟩ := bind_some h26
   refine CWP.cut (fun f w => ∃ (s37 : Int) (F4 : Mem), o27 = .done s37 ∧ HS w0 F0 w F4 [] ∧ Mem.le F1 F4 ∧ f.d = []) ?_ ?_
   ·refine Bk ?_
    refine CWP.loop (by kernel_rfl) (fun m f w => ∃ (s30 : Int) (F3 : Mem), iter (ref03_ValidTrack_L0 N x0 j7) m s30 = some o27 ∧ HS w0 F0 w F3 [(sb b1 (kTrack x0 a0_2 n0_2 a0_3 n0_3) 54)] ∧ Mem.le F1 F3 ∧ f.d = [] ∧ f 1 = (.pointer (some ⟨b1, 0, none⟩)) ∧ f 3 = (vi s30)) N ⟨0, F1, ho28, hs5, (Mem.le.refl _), e8, e9, rfl⟩ ?_
    rintro m42 f w31 ⟨s30, F3, hit43, hs32, le33, e34, e35, e36⟩
    obtain ⟨m44, fl45, rfl, hb46, hnx47⟩ := iter_step hit43
    refine Sq ?_
    refine Sq (Rg [0, 1, 2, 3, 4] ?_)
    refine V 14 3 (mv 3 (vi s30) e36) ?_
    refine V 15 0 (fa 54 1 1 3 1 b1 0 3 e35) ?_
    refine V 16 50 (ld 50 15 b1 3 false 1 (.slice a0_3 x0.Times.length n0_3) (hs32.ownAt (k := 0) rfl)) ?_
    refine V 17 3 (ln 16 50 a0_3 x0.Times.length n0_3 3 1 8) ?_
    refine V 18 4 (run_lss (t := 3) (t' := 3) (x := (.tmp 14)) (y := (.tmp 17)) (k := .i64) (a := s30) (b := (x0.Times.length : Int)) rfl rfl) ?_
    refine Nt ?_
    refine CWP.cond (t := (decide (s30 < (x0.Times.length : Int)))) (by kernel_rfl) rfl (fun hb48 => ?_) (fun hb48 => ?_)
    ·have h49 := cond_t hb46 hb48
     refine Sc ?_
     refine thenQ_nrm ?_
     refine Sq ?_
     refine Bk ?_
     refine Sq ?_
     obtain ⟨j55, hj60, h61⟩ := bind_some h49
     refine CWP.regionD (by kernel_rfl) (by kernel_rfl) (by kernel_rfl) (by kernel_rfl) (z := 25) (F := F3) (Lc := [(sb b1 (kTrack x0 a0_2 n0_2 a0_3 n0_3) 54)]) (Lz := []) (l := [false, false, false, false, false, false, false, false, false, false, false, false, false, false, false, false, false, false, false, false, false, false, false, false, false]) (fuel := 25) (by kernel_rfl) (by kernel_rfl) hs32 (by simp) (by simp) (fun f w => ∃ (F5 : Mem), HS w0 F0 w F5 [(sb b1 (kTrack x0 a0_2 n0_2 a0_3 n0_3) 54)] ∧ Mem.le F3 F5 ∧ f.d = [] ∧ f 1 = (.pointer (some ⟨b1, 0, none⟩)) ∧ f 3 = (vi s30) ∧ f 45 = (.bool j55)) (fun wd50 hw51 => ?_) ?_
     ·refine Dtl 0 21 0 (.pointer (some ⟨b1, 3, none⟩)) [tt, ff, ff, ff, ff, ff, ff, ff, ff, ff, ff, ff, ff, ff, ff, ff, ff, ff, ff, ff, ff, ff, ff, ff, ff] (fun _ hq => fa 54 1 1 3 1 b1 0 3 e35) ?_
      refine Dtl 1 22 50 _ [tt, tt, ff, ff, ff, ff, ff, ff, ff, ff, ff, ff, ff, ff, ff, ff, ff, ff, ff, ff, ff, ff, ff, ff, ff] (fun _ hq => ld 50 21 b1 3 false 1 (.slice a0_3 x0.Times.length n0_3) (hq.1.2 0 _ _ rfl)) ?_
      refine Dtl 2 23 3 _ [tt, tt, tt, ff, ff, ff, ff, ff, ff, ff, ff, ff, ff, ff, ff, ff, ff, ff, ff, ff, ff, ff, ff, ff, ff] (fun _ hq => mv 3 (vi s30) e36) ?_
      obtain ⟨x62, hx63, h65⟩ := bind_some hj60
      obtain ⟨hi64, hx63'⟩ := idx_spec hx63
      obtain ⟨b66, o67, C68, E69, fz70, rfl, hF72, hE73⟩ := SlA.open (SlA.mono hs0_3 (le6.trans le33)) hx63'
      have hc75 := hE73 _ _ hx63'
      refine Dtl 3 24 0 (.pointer (some ⟨b66, (o67 + (s30 : Int).toNat * 1), none⟩)) [tt, tt, tt, tt, ff, ff, ff, ff, ff, ff, ff, ff, ff, ff, ff, ff, ff, ff, ff, ff, ff, ff, ff, ff, ff] (fun _ hq => ix 50 22 23 b66 o67 3 1 8 hi64) ?_
      refine Dtl 4 25 3 _ [tt, tt, tt, tt, tt, ff, ff, ff, ff, ff, ff, ff, ff, ff, ff, ff, ff, ff, ff, ff, ff, ff, ff, ff, ff] (fun _ hq => lx 3 24 0 1 false 1 (vi x62) (hq.1.1 _ _ hF72) hc75) ?_
      refine DWP.one (i := 5) (by kernel_rfl) ?_
      obtain ⟨r76, hr77, h78⟩ := bind_some h65
      refine DStep.call (l' := [true, true, true, true, true, true, false, false, false, false, false, false, false, false, false, false, false, false, false, false, false, false, false, false, false]) (zd := true) (by kernel_rfl) (by kernel_rfl) (by kernel_rfl) (dst := (some 26)) (ty := 4) (g := none) (by kernel_rfl) rfl (f0 := (.func 83)) (aos := #[(.tmp 25), (.const (vi 0)), (.const (vi 20000))]) (ats := #[3, 3, 3]) (fid := 83) (first := #[]) (cap := #[]) (args := [(vi x62), (vi 0), (vi 20000)]) rfl co_ref03_within (rfl) hw51 (c_ref03_within N wd50 F3 hw51.pers (x62) (0) (20000) _ hr77) ?_
      intro v79 F6 w80 hs81 le82 hp83
      obtain rfl := hp83
      refine Dtl 6 27 4 (.bool (!r76)) [tt, tt, tt, tt, tt, tt, tt, ff, ff, ff, ff, ff, ff, ff, ff, ff, ff, ff, ff, ff, ff, ff, ff, ff, ff] (fun _ hq => run_not (t := 4) (x := (.tmp 26)) (a := r76) rfl) ?_
      refine Dtl 7 28 4 _ [tt, tt, tt, tt, tt, tt, tt, tt, ff, ff, ff, ff, ff, ff, ff, ff, ff, ff, ff, ff, ff, ff, ff, ff, ff] (fun _ hq => mv 27 (.bool (!r76))) ?_
      refine DWP.split (!r76) (fun hb84 => ?_) (fun hb84 => ?_)
      ·have h85 := cond_t h78 hb84
       refine Dkl [(8, 29), (9, 30), (10, 31)] 7 false 28 hb84 [tt, tt, tt, tt, tt, tt, tt, tt, tt, tt, tt, ff, ff, ff, ff, ff, ff, ff, ff, ff, ff, ff, ff, ff, ff] ?_
       refine Dul [(11, 32), (12, 33), (13, 34), (14, 35), (15, 36), (16, 37)] 10 true 31 [tt, tt, tt, tt, tt, tt, tt, tt, tt, tt, tt, tt, tt, tt, tt, tt, tt, ff, ff, ff, ff, ff, ff, ff, ff] ?_
       refine Dul [(17, 38), (18, 39), (19, 40), (20, 41), (21, 42), (22, 43)] 10 true 31 [tt, tt, tt, tt, tt, tt, tt, tt, tt, tt, tt, tt, tt, tt, tt, tt, tt, tt, tt, tt, tt, tt, tt, ff, ff] ?_
       refine Dkl [(23, 44)] 7 false 28 hb84 [tt, tt, tt, tt, tt, tt, tt, tt, tt, tt, tt, tt, tt, tt, tt, tt, tt, tt, tt, tt, tt, tt, tt, tt, ff] ?_
       refine Dtl 24 45 4 _ [tt, tt, tt, tt, tt, tt, tt, tt, tt, tt, tt, tt, tt, tt, tt, tt, tt, tt, tt, tt, tt, tt, tt, tt, tt] (fun _ hq => p1 28 (.const (.bool true)) (.tmp 44) (.bool true) hb84) ?_
       obtain rfl := some_inj h85
       exact DWP.done (by kernel_rfl) ⟨F6, hs81, le82, e34, e35, e36, rfl⟩
      ·have h86 := cond_f h78 hb84
       refine Dgl 8 29 3 _ [tt, tt, tt, tt, tt, tt, tt, tt, tt, ff, ff, ff, ff, ff, ff, ff, ff, ff, ff, ff, ff, ff, ff, ff, ff] 7 false 28 hb84 (fun _ hq => mv 3 (vi s30) e36) ?_
       refine Dgl 9 30 4 (.bool (decide (s30 > 0))) [tt, tt, tt, tt, tt, tt, tt, tt, tt, tt, ff, ff, ff, ff, ff, ff, ff, ff, ff, ff, ff, ff, ff, ff, ff] 7 false 28 hb84 (fun _ hq => run_gtr (t := 3) (t' := 3) (x := (.tmp 29)) (y := (.const (vi 0))) (k := .i64) (a := s30) (b := 0) rfl rfl) ?_
       refine Dgl 10 31 4 _ [tt, tt, tt, tt, tt, tt, tt, tt, tt, tt, tt, ff, ff, ff, ff, ff, ff, ff, ff, ff, ff, ff, ff, ff, ff] 7 false 28 hb84 (fun _ hq => mv 30 (.bool (decide (s30 > 0)))) ?_
       refine DWP.split (decide (s30 > 0)) (fun hb87 => ?_) (fun hb87 => ?_)
       ·have h88 := cond_t h86 hb87
        refine Dgl 11 32 0 (.pointer (some ⟨b1, 3, none⟩)) [tt, tt, tt, tt, tt, tt, tt, tt, tt, tt, tt, tt, ff, ff, ff, ff, ff, ff, ff, ff, ff, ff, ff, ff, ff] 10 true 31 hb87 (fun _ hq => fa 54 1 1 3 1 b1 0 3 e35) ?_
        refine Dgl 12 33 50 _ [tt, tt, tt, tt, tt, tt, tt, tt, tt, tt, tt, tt, tt, ff, ff, ff, ff, ff, ff, ff, ff, ff, ff, ff, ff] 10 true 31 hb87 (fun _ hq => ld 50 32 b1 3 false 1 (.slice (some ⟨b66, o67, none⟩) x0.Times.length n0_3) (hq.1.2 0 _ _ rfl)) ?_
        refine Dgl 13 34 3 _ [tt, tt, tt, tt, tt, tt, tt, tt, tt, tt, tt, tt, tt, tt, ff, ff, ff, ff, ff, ff, ff, ff, ff, ff, ff] 10 true 31 hb87 (fun _ hq => mv 3 (vi s30) e36) ?_
        obtain ⟨x89, hx90, h92⟩ := bind_some h88
        obtain ⟨hi91, hx90'⟩ := idx_spec hx90
        have hc94 := hE73 _ _ hx90'
        refine Dgl 14 35 0 (.pointer (some ⟨b66, (o67 + (s30 : Int).toNat * 1), none⟩)) [tt, tt, tt, tt, tt, tt, tt, tt, tt, tt, tt, tt, tt, tt, tt, ff, ff, ff, ff, ff, ff, ff, ff, ff, ff] 10 true 31 hb87 (fun _ hq => ix 50 33 34 b66 o67 3 1 8 hi91) ?_
        refine Dgl 15 36 3 _ [tt, tt, tt, tt, tt, tt, tt, tt, tt, tt, tt, tt, tt, tt, tt, tt, ff, ff, ff, ff, ff, ff, ff, ff, ff] 10 true 31 hb87 (fun _ hq => lx 3 35 0 1 false 1 (vi x89) (hq.1.1 _ _ hF72) hc94) ?_
        refine Dgl 16 37 0 (.pointer (some ⟨b1, 3, none⟩)) [tt, tt, tt, tt, tt, tt, tt, tt, tt, tt, tt, tt, tt, tt, tt, tt, tt, ff, ff, ff, ff, ff, ff, ff, ff] 10 true 31 hb87 (fun _ hq => fa 54 1 1 3 1 b1 0 3 e35) ?_
        refine Dgl 17 38 50 _ [tt, tt, tt, tt, tt, tt, tt, tt, tt, tt, tt, tt, tt, tt, tt, tt, tt, tt, ff, ff, ff, ff, ff, ff, ff] 10 true 31 hb87 (fun _ hq => ld 50 37 b1 3 false 1 (.slice (some ⟨b66, o67, none⟩) x0.Times.length n0_3) (hq.1.2 0 _ _ rfl)) ?_
        refine Dgl 18 39 3 _ [tt, tt, tt, tt, tt, tt, tt, tt, tt, tt, tt, tt, tt, tt, tt, tt, tt, tt, tt, ff, ff, ff, ff, ff, ff] 10 true 31 hb87 (fun _ hq => mv 3 (vi s30) e36) ?_
        refine Dgl 19 40 3 (vi (W64 (s30 - 1))) [tt, tt, tt, tt, tt, tt, tt, tt, tt, tt, tt, tt, tt, tt, tt, tt, tt, tt, tt, tt, ff, ff, ff, ff, ff] 10 true 31 hb87 (fun _ hq => run_sub (t := 3) (t' := 3) (x := (.tmp 39)) (y := (.const (vi 1))) (k := .i64) (a := s30) (b := 1) rfl rfl) ?_
        obtain ⟨x95, hx96, h98⟩ := bind_some h92
        obtain ⟨hi97, hx96'⟩ := idx_spec hx96
        have hc100 := hE73 _ _ hx96'
        refine Dgl 20 41 0 (.pointer (some ⟨b66, (o67 + ((W64 (s30 - 1)) : Int).toNat * 1), none⟩)) [tt, tt, tt, tt, tt, tt, tt, tt, tt, tt, tt, tt, tt, tt, tt, tt, tt, tt, tt, tt, tt, ff, ff, ff, ff] 10 true 31 hb87 (fun _ hq => ix 50 38 40 b66 o67 3 1 8 hi97) ?_
        refine Dgl 21 42 3 _ [tt, tt, tt, tt, tt, tt, tt, tt, tt, tt, tt, tt, tt, tt, tt, tt, tt, tt, tt, tt, tt, tt, ff, ff, ff] 10 true 31 hb87 (fun _ hq => lx 3 41 0 1 false 1 (vi x95) (hq.1.1 _ _ hF72) hc100) ?_
        refine Dgl 22 43 4 (.bool (decide (x89 < x95))) [tt, tt, tt, tt, tt, tt, tt, tt, tt, tt, tt, tt, tt, tt, tt, tt, tt, tt, tt, tt, tt, tt, tt, ff, ff] 10 true 31 hb87 (fun _ hq => run_lss (t := 3) (t' := 3) (x := (.tmp 36)) (y := (.tmp 42)) (k := .i64) (a := x89) (b := x95) rfl rfl) ?_
        refine Dgl 23 44 4 _ [tt, tt, tt, tt, tt, tt, tt, tt, tt, tt, tt, tt, tt, tt, tt, tt, tt, tt, tt, tt, tt, tt, tt, tt, ff] 7 false 28 hb84 (fun _ hq => p1 31 (.tmp 43) (.const (.bool false)) (.bool (decide (x89 < x95))) hb87) ?_
        refine Dtl 24 45 4 _ [tt, tt, tt, tt, tt, tt, tt, tt, tt, tt, tt, tt, tt, tt, tt, tt, tt, tt, tt, tt, tt, tt, tt, tt, tt] (fun _ hq => p0 28 (.const (.bool true)) (.tmp 44) (.bool (decide (x89 < x95))) hb84) ?_
        obtain rfl := some_inj h98
        exact DWP.done (by kernel_rfl) ⟨F6, hs81, le82, e34, e35, e36, rfl⟩
       ·have h101 := cond_f h86 hb87
        refine Dkl [(11, 32), (12, 33), (13, 34), (14, 35), (15, 36), (16, 37)] 10 true 31 hb87 [tt, tt, tt, tt, tt, tt, tt, tt, tt, tt, tt, tt, tt, tt, tt, tt, tt, ff, ff, ff, ff, ff, ff, ff, ff] ?_
        refine Dkl [(17, 38), (18, 39), (19, 40), (20, 41), (21, 42), (22, 43)] 10 true 31 hb87 [tt, tt, tt, tt, tt, tt, tt, tt, tt, tt, tt, tt, tt, tt, tt, tt, tt, tt, tt, tt, tt, tt, tt, ff, ff] ?_
        refine Dgl 23 44 4 _ [tt, tt, tt, tt, tt, tt, tt, tt, tt, tt, tt, tt, tt, tt, tt, tt, tt, tt, tt, tt, tt, tt, tt, tt, ff] 7 false 28 hb84 (fun _ hq => p0 31 (.tmp 43) (.const (.bool false)) (.bool false) hb87) ?_
        refine Dtl 24 45 4 _ [tt, tt, tt, tt, tt, tt, tt, tt, tt, tt, tt, tt, tt, tt, tt, tt, tt, tt, tt, tt, tt, tt, tt, tt, tt] (fun _ hq => p0 28 (.const (.bool true)) (.tmp 44) (.bool false) hb84) ?_
        obtain rfl := some_inj h101
        exact DWP.done (by kernel_rfl) ⟨F6, hs81, le82, e34, e35, e36, rfl⟩
     ·rintro f w52 ⟨F5, hs53, le54, e56, e57, e58, e59⟩
      refine thenQ_nrm ?_
      refine CWP.cond (t := j55) (by kernel_rfl) e59 (fun hb102 => ?_) (fun hb102 => ?_)
      ·have h103 := cond_t h61 hb102
       refine Sq (Rg [0] ?_)
       refine V 2 4 (mc (.bool false) (.bool false)) ?_
       refine Nt ?_
       refine CWP.ret (by kernel_rfl) ?_
       refine blockQ_ret ?_
       refine thenQ_ret ?_
       refine thenQ_ret ?_
       refine blockQ_ret ?_
       have hret := iter_ret h103 hnx47
       subst hret
       refine .inr ?_
       refine thenQ_ret ?_
       have hfin := some_inj h29
       subst hfin
       exact ⟨e56, (.bool false), res_of (l := [.tmp 2]) (by kernel_rfl) (vs := [(.bool false)]) ⟨rfl, trivial⟩, (.bool false), F5, rfl, hs53.clear, rfl⟩
      ·have h104 := cond_f h61 hb102
       refine Sc ?_
       refine blockQ_nrm ?_
       refine thenQ_nrm ?_
       refine Rg [0, 1, 2] ?_
       refine V 19 3 (mv 3 (vi s30) e58) ?_
       refine V 20 3 (run_add (t := 3) (t' := 3) (x := (.tmp 19)) (y := (.const (vi 1))) (k := .i64) (a := s30) (b := 1) rfl rfl) ?_
       refine V 3 3 (ma 20 (vi (W64 (s30 + 1)))) ?_
       refine RWP.nil ?_
       have hn105 := iter_next h104 hnx47
       exact ⟨m44, Nat.lt_succ_self _, (W64 (s30 + 1)), F5, hn105, hs53, (le33.trans le54), e56, e57, rfl⟩
    ·have h106 := cond_f hb46 hb48
     refine CWP.exit (by kernel_rfl) ?_
     refine thenQ_ex ?_
     refine thenQ_ex ?_
     refine blockQ_hit rfl ?_
     have hs107 : HS w0 F0 w31 F3 [] := hs32.drop 0
     have ho108 := iter_done h106 hnx47
     exact .inl ⟨rfl, s30, F3, ho108, hs107, le33, e34⟩
   ·rintro f w38 ⟨s37, F4, rfl, hs39, le40, e41⟩
    have h109 := k_done h29
    refine thenQ_nrm ?_
    refine Sq (Rg [0] ?_)
    refine V 2 4 (mc (.bool true) (.bool true)) ?_
    refine Nt ?_
    refine CWP.ret (by kernel_rfl) ?_
    have hfin := some_inj h109
    subst hfin
    exact ⟨e41, (.bool true), res_of (l := [.tmp 2]) (by kernel_rfl) (vs := [(.bool true)]) ⟨rfl, trivial⟩, (.bool true), F4, rfl, hs39.clear, rfl⟩
end Go.Proofs.Ythbcnabeabcmlaa
namespace Go.Proofs.Ythbcnabeabcmlaa
open Go.Proofs
def ref03_Has (N : Nat) (x0 : System) (x1 : Ref) : Option Bool :=
 (((ref03_within N x1.Log 0 (W64 ((x0.Tracks.length : Int) - 1))).bind fun r17 => (bif r17 then ((idx x0.Tracks x1.Log).bind fun x27 => ((ref03_within N x1.Line 0 (W64 ((x27.Times.length : Int) - 1))).bind fun r41 => some r41)) else some false)).bind fun j12 => some j12)
theorem co_ref03_Has : CallOk Try.prog 85 := fun _ _ => by kernel_rfl
set_option maxHeartbeats 4000000 in
set_option maxRecDepth 100000 in
theorem c_ref03_Has (N : Nat) (w0 : World) (F0 : Mem) (hF : ∀ b o, F0 b = some o → w0.heap[b]? = some o) (x0 : System) (a0_0 : Option Addr) (n0_0 : Nat) (hb0_0 : LC x0.Tracks.length n0_0) (hs0_0 : SlA tTrack F0 a0_0 x0.Tracks) (a0_1 : Option Addr) (n0_1 : Nat) (hb0_1 : LC x0.Ties.length n0_1) (hs0_1 : SlA tTie F0 a0_1 x0.Ties) (x1 : Ref) (r : Bool) (h : ref03_Has N x0 x1 = some r) :
  Calls Try.prog 85 ([(.agg (kSystem x0 a0_0 n0_0 a0_1 n0_1)), (.agg (kRef x1))] : List Value).toArray w0 (FRet w0 F0 fun F' v => v = (.bool r)) := by
 have hs0 := HS.start hF
 refine calls_of (n := 26) (c := bodyOf Try.f85) Try.func85 (by kernel_rfl) (by kernel_rfl) (by kernel_rfl) ?_
 refine Sq (Rg [0, 1, 2] ?_)
 refine Bx 2 0 0 25 (kSystem x0 a0_0 n0_0 a0_1 n0_1) hs0 (fun b1 w2 (hs3 : HS w0 F0 w2 F0 [(sb b1 (kSystem x0 a0_0 n0_0 a0_1 n0_1) 25)]) => ?_)
 refine Bx 3 0 1 27 (kRef x1) hs3 (fun b4 w5 (hs6 : HS w0 F0 w5 F0 [(sb b4 (kRef x1) 27), (sb b1 (kSystem x0 a0_0 n0_0 a0_1 n0_1) 25)]) => ?_)
 refine V 4 4 (mc (.bool false) (.bool false)) ?_
 refine Nss ?_
 obtain ⟨j12, hj15, h16⟩ := bind_some h
 refine CWP.regionD (by kernel_rfl) (by kernel_rfl) (by kernel_rfl) (by kernel_rfl) (z := 22) (F := F0) (Lc := [(sb b4 (kRef x1) 27), (sb b1 (kSystem x0 a0_0 n0_0 a0_1 n0_1) 25)]) (Lz := []) (l := [false, false, false, false, false, false, false, false, false, false, false, false, false, false, false, false, false, false, false, false, false, false]) (fuel := 22) (by kernel_rfl) (by kernel_rfl) hs6 (by simp) (by simp) (fun f w => ∃ (F1 : Mem), HS w0 F0 w F1 [] ∧ Mem.le F0 F1 ∧ f.d = [] ∧ f 4 = (.bool j12)) (fun wd7 hw8 => ?_) ?_
 ·refine Dtl 0 5 0 (.pointer (some ⟨b4, 0, none⟩)) [tt, ff, ff, ff, ff, ff, ff, ff, ff, ff, ff, ff, ff, ff, ff, ff, ff, ff, ff, ff, ff, ff] (fun _ hq => fa 27 3 0 0 1 b4 0 0) ?_
  refine Dtl 1 6 3 _ [tt, tt, ff, ff, ff, ff, ff, ff, ff, ff, ff, ff, ff, ff, ff, ff, ff, ff, ff, ff, ff, ff] (fun _ hq => ld 3 5 b4 0 false 1 (vi x1.Log) (hq.1.2 0 _ _ rfl)) ?_
  refine Dtl 2 7 0 (.pointer (some ⟨b1, 0, none⟩)) [tt, tt, tt, ff, ff, ff, ff, ff, ff, ff, ff, ff, ff, ff, ff, ff, ff, ff, ff, ff, ff, ff] (fun _ hq => fa 25 2 0 0 1 b1 0 0) ?_
  refine Dtl 3 8 22 _ [tt, tt, tt, tt, ff, ff, ff, ff, ff, ff, ff, ff, ff, ff, ff, ff, ff, ff, ff, ff, ff, ff] (fun _ hq => ld 22 7 b1 0 false 1 (.slice a0_0 x0.Tracks.length n0_0) (hq.1.2 1 _ _ rfl)) ?_
  refine Dtl 4 9 3 (vi (x0.Tracks.length : Int)) [tt, tt, tt, tt, tt, ff, ff, ff, ff, ff, ff, ff, ff, ff, ff, ff, ff, ff, ff, ff, ff, ff] (fun _ hq => ln 8 22 a0_0 x0.Tracks.length n0_0 54 4 64) ?_
  refine Dtl 5 10 3 (vi (W64 ((x0.Tracks.length : Int) - 1))) [tt, tt, tt, tt, tt, tt, ff, ff, ff, ff, ff, ff, ff, ff, ff, ff, ff, ff, ff, ff, ff, ff] (fun _ hq => run_sub (t := 3) (t' := 3) (x := (.tmp 9)) (y := (.const (vi 1))) (k := .i64) (a := (x0.Tracks.length : Int)) (b := 1) rfl rfl) ?_
  refine DWP.one (i := 6) (by kernel_rfl) ?_
  obtain ⟨r17, hr18, h19⟩ := bind_some hj15
  refine DStep.call (l' := [true, true, true, true, true, true, true, false, false, false, false, false, false, false, false, false, false, false, false, false, false, false]) (zd := true) (by kernel_rfl) (by kernel_rfl) (by kernel_rfl) (dst := (some 11)) (ty := 4) (g := none) (by kernel_rfl) rfl (f0 := (.func 83)) (aos := #[(.tmp 6), (.const (vi 0)), (.tmp 10)]) (ats := #[3, 3, 3]) (fid := 83) (first := #[]) (cap := #[]) (args := [(vi x1.Log), (vi 0), (vi (W64 ((x0.Tracks.length : Int) - 1)))]) rfl co_ref03_within (rfl) hw8 (c_ref03_within N wd7 F0 hw8.pers (x1.Log) (0) ((W64 ((x0.Tracks.length : Int) - 1))) _ hr18) ?_
  intro v20 F2 w21 hs22 le23 hp24
  obtain rfl := hp24
  refine Dtl 7 12 4 _ [tt, tt, tt, tt, tt, tt, tt, tt, ff, ff, ff, ff, ff, ff, ff, ff, ff, ff, ff, ff, ff, ff] (fun _ hq => mv 11 (.bool r17)) ?_
  refine DWP.split r17 (fun hb25 => ?_) (fun hb25 => ?_)
  ·have h26 := cond_t h19 hb25
   refine Dgl 8 13 0 (.pointer (some ⟨b4, 1, none⟩)) [tt, tt, tt, tt, tt, tt, tt, tt, tt, ff, ff, ff, ff, ff, ff, ff, ff, ff, ff, ff, ff, ff] 7 true 12 hb25 (fun _ hq => fa 27 3 1 1 1 b4 0 1) ?_
   refine Dgl 9 14 3 _ [tt, tt, tt, tt, tt, tt, tt, tt, tt, tt, ff, ff, ff, ff, ff, ff, ff, ff, ff, ff, ff, ff] 7 true 12 hb25 (fun _ hq => ld 3 13 b4 1 false 1 (vi x1.Line) (hq.1.2 0 _ _ rfl)) ?_
   refine Dgl 10 15 0 (.pointer (some ⟨b1, 0, none⟩)) [tt, tt, tt, tt, tt, tt, tt, tt, tt, tt, tt, ff, ff, ff, ff, ff, ff, ff, ff, ff, ff, ff] 7 true 12 hb25 (fun _ hq => fa 25 2 0 0 1 b1 0 0) ?_
   refine Dgl 11 16 22 _ [tt, tt, tt, tt, tt, tt, tt, tt, tt, tt, tt, tt, ff, ff, ff, ff, ff, ff, ff, ff, ff, ff] 7 true 12 hb25 (fun _ hq => ld 22 15 b1 0 false 1 (.slice a0_0 x0.Tracks.length n0_0) (hq.1.2 1 _ _ rfl)) ?_
   refine Dgl 12 17 0 (.pointer (some ⟨b4, 0, none⟩)) [tt, tt, tt, tt, tt, tt, tt, tt, tt, tt, tt, tt, tt, ff, ff, ff, ff, ff, ff, ff, ff, ff] 7 true 12 hb25 (fun _ hq => fa 27 3 0 0 1 b4 0 0) ?_
   refine Dgl 13 18 3 _ [tt, tt, tt, tt, tt, tt, tt, tt, tt, tt, tt, tt, tt, tt, ff, ff, ff, ff, ff, ff, ff, ff] 7 true 12 hb25 (fun _ hq => ld 3 17 b4 0 false 1 (vi x1.Log) (hq.1.2 0 _ _ rfl)) ?_
   obtain ⟨x27, hx28, h30⟩ := bind_some h26
   obtain ⟨hi29, hx28'⟩ := idx_spec hx28
   obtain ⟨b31, o32, C33, E34, fz35, rfl, hF37, hE38⟩ := SlA.open hs0_0 hx28'
   obtain ⟨ae39_2, ne39_2, ae39_3, ne39_3, hc40, hbe39_2, hse39_2, hbe39_3, hse39_3⟩ := hE38 _ _ hx28'
   refine Dgl 14 19 0 (.pointer (some ⟨b31, (o32 + (x1.Log : Int).toNat * 4), none⟩)) [tt, tt, tt, tt, tt, tt, tt, tt, tt, tt, tt, tt, tt, tt, tt, ff, ff, ff, ff, ff, ff, ff] 7 true 12 hb25 (fun _ hq => ix 22 16 18 b31 o32 54 4 64 hi29) ?_
   refine Dgl 15 20 0 (.pointer (some ⟨b31, ((o32 + (x1.Log : Int).toNat * 4) + 3), none⟩)) [tt, tt, tt, tt, tt, tt, tt, tt, tt, tt, tt, tt, tt, tt, tt, tt, ff, ff, ff, ff, ff, ff] 7 true 12 hb25 (fun _ hq => fa 54 19 1 3 1 b31 (o32 + (x1.Log : Int).toNat * 4) ((o32 + (x1.Log : Int).toNat * 4) + 3)) ?_
   refine Dgl 16 21 50 _ [tt, tt, tt, tt, tt, tt, tt, tt, tt, tt, tt, tt, tt, tt, tt, tt, tt, ff, ff, ff, ff, ff] 7 true 12 hb25 (fun _ hq => lx 50 20 3 4 false 1 (.slice ae39_3 x27.Times.length ne39_3) (hq.1.1 _ _ hF37) hc40) ?_
   refine Dgl 17 22 3 (vi (x27.Times.length : Int)) [tt, tt, tt, tt, tt, tt, tt, tt, tt, tt, tt, tt, tt, tt, tt, tt, tt, tt, ff, ff, ff, ff] 7 true 12 hb25 (fun _ hq => ln 21 50 ae39_3 x27.Times.length ne39_3 3 1 8) ?_
   refine Dgl 18 23 3 (vi (W64 ((x27.Times.length : Int) - 1))) [tt, tt, tt, tt, tt, tt, tt, tt, tt, tt, tt, tt, tt, tt, tt, tt, tt, tt, tt, ff, ff, ff] 7 true 12 hb25 (fun _ hq => run_sub (t := 3) (t' := 3) (x := (.tmp 22)) (y := (.const (vi 1))) (k := .i64) (a := (x27.Times.length : Int)) (b := 1) rfl rfl) ?_
   refine DWP.one (i := 19) (by kernel_rfl) ?_
   obtain ⟨r41, hr42, h43⟩ := bind_some h30
   refine DStep.call (l' := [true, true, true, true, true, true, true, true, true, true, true, true, true, true, true, true, true, true, true, true, false, false]) (zd := true) (by kernel_rfl) (by kernel_rfl) (by kernel_rfl) (dst := (some 24)) (ty := 4) (g := (some (7, true))) (by kernel_rfl) (gd_y (d := 12) (by kernel_rfl) rfl hb25) (f0 := (.func 83)) (aos := #[(.tmp 14), (.const (vi 0)), (.tmp 23)]) (ats := #[3, 3, 3]) (fid := 83) (first := #[]) (cap := #[]) (args := [(vi x1.Line), (vi 0), (vi (W64 ((x27.Times.length : Int) - 1)))]) rfl co_ref03_within (rfl) hs22 (c_ref03_within N w21 F2 hs22.pers (x1.Line) (0) ((W64 ((x27.Times.length : Int) - 1))) _ hr42) ?_
   intro v44 F3 w45 hs46 le47 hp48
   obtain rfl := hp48
   refine Dtl 20 25 4 _ [tt, tt, tt, tt, tt, tt, tt, tt, tt, tt, tt, tt, tt, tt, tt, tt, tt, tt, tt, tt, tt, ff] (fun _ hq => p1 12 (.tmp 24) (.const (.bool false)) (.bool r41) hb25) ?_
   refine Dtl 21 4 4 _ [tt, tt, tt, tt, tt, tt, tt, tt, tt, tt, tt, tt, tt, tt, tt, tt, tt, tt, tt, tt, tt, tt] (fun _ hq => ma 25 (.bool r41)) ?_
   obtain rfl := some_inj h43
   have hs49 : HS w0 F0 w45 F3 [(sb b1 (kSystem x0 (some ⟨b31, o32, none⟩) n0_0 a0_1 n0_1) 25)] := hs46.drop 0
   have hs50 : HS w0 F0 w45 F3 [] := hs49.drop 0
   exact DWP.done (by kernel_rfl) ⟨F3, hs50, (le23.trans le47), rfl, rfl⟩
  ·have h51 := cond_f h19 hb25
   refine Dkl [(8, 13), (9, 14), (10, 15), (11, 16), (12, 17), (13, 18)] 7 true 12 hb25 [tt, tt, tt, tt, tt, tt, tt, tt, tt, tt, tt, tt, tt, tt, ff, ff, ff, ff, ff, ff, ff, ff] ?_
   refine Dkl [(14, 19), (15, 20), (16, 21), (17, 22), (18, 23), (19, 24)] 7 true 12 hb25 [tt, tt, tt, tt, tt, tt, tt, tt, tt, tt, tt, tt, tt, tt, tt, tt, tt, tt, tt, tt, ff, ff] ?_
   refine Dtl 20 25 4 _ [tt, tt, tt, tt, tt, tt, tt, tt, tt, tt, tt, tt, tt, tt, tt, tt, tt, tt, tt, tt, tt, ff] (fun _ hq => p0 12 (.tmp 24) (.const (.bool false)) (.bool false) hb25) ?_
   refine Dtl 21 4 4 _ [tt, tt, tt, tt, tt, tt, tt, tt, tt, tt, tt, tt, tt, tt, tt, tt, tt, tt, tt, tt, tt, tt] (fun _ hq => ma 25 (.bool false)) ?_
   obtain rfl := some_inj h51
   have hs52 : HS w0 F0 w21 F2 [(sb b1 (kSystem x0 a0_0 n0_0 a0_1 n0_1) 25)] := hs22.drop 0
   have hs53 : HS w0 F0 w21 F2 [] := hs52.drop 0
   exact DWP.done (by kernel_rfl) ⟨F2, hs53, le23, rfl, rfl⟩
 ·rintro f w9 ⟨F1, hs10, le11, e13, e14⟩
  refine thenQ_nrm ?_
  refine CWP.ret (by kernel_rfl) ?_
  have hfin := some_inj h16
  subst hfin
  exact ⟨e13, (.bool j12), res_of (l := [.tmp 4]) (by kernel_rfl) (vs := [(.bool j12)]) ⟨e14, trivial⟩, (.bool j12), F1, rfl, hs10.clear, rfl⟩
end Go.Proofs.Ythbcnabeabcmlaa
namespace Go.Proofs.Ythbcnabeabcmlaa
open Go.Proofs
def ref03_Check_L0 (N : Nat) (x0 : System) : Int → Option (Flow Int Int) := fun s17 =>
 (bif (decide (s17 < (x0.Tracks.length : Int))) then ((idx x0.Tracks s17).bind fun x38 => ((ref03_ValidTrack N x38).bind fun r52 => (bif (!r52) then some (.ret 30) else some (.next (W64 (s17 + 1)))))) else some (.done s17))
def ref03_Check_L1 (N : Nat) (x0 : System) (s24 : Int) : Int → Option (Flow Int Int) := fun s70 =>
 (bif (decide (s70 < (x0.Ties.length : Int))) then ((idx x0.Ties s70).bind fun x91 => (((ref03_Has N x0 x91.A).bind fun r120 => (bif (!r120) then some true else ((ref03_Has N x0 x91.B).bind fun r132 => (bif (!r132) then some true else some (x91.A.Log == x91.B.Log))))).bind fun j113 => (bif j113 then some (.ret 30) else some (.next (W64 (s70 + 1)))))) else some (.done s70))
def ref03_Check (N : Nat) (x0 : System) : Option Int :=
 (bif ((decide ((x0.Tracks.length : Int) > 64)) || (decide ((x0.Ties.length : Int) > 400))) then some 2 else ((iter (ref03_Check_L0 N x0) N 0).bind fun o => o.k (fun r => some r) (fun s24 => ((iter (ref03_Check_L1 N x0 s24) N 0).bind fun o => o.k (fun r => some r) (fun s77 => ((ref03_within N x0.Window 0 120).bind fun r152 => (bif (!r152) then some 30 else some 0)))))))
theorem co_ref03_Check : CallOk Try.prog 40 := fun _ _ => by kernel_rfl
set_option maxHeartbeats 4000000 in
set_option maxRecDepth 100000 in
theorem c_ref03_Check (N : Nat) (w0 : World) (F0 : Mem) (hF : ∀ b o, F0 b = some o → w0.heap[b]? = some o) (x0 : System) (a0_0 : Option Addr) (n0_0 : Nat) (hb0_0 : LC x0.Tracks.length n0_0) (hs0_0 : SlA tTrack F0 a0_0 x0.Tracks) (a0_1 : Option Addr) (n0_1 : Nat) (hb0_1 : LC x0.Ties.length n0_1) (hs0_1 : SlA tTie F0 a0_1 x0.Ties) (r : Int) (h : ref03_Check N x0 = some r) :
  Calls Try.prog 40 ([(.agg (kSystem x0 a0_0 n0_0 a0_1 n0_1))] : List Value).toArray w0 (FRet w0 F0 fun F' v => v = (vi r)) := by
 have hs0 := HS.start hF
 refine calls_of (n := 67) (c := bodyOf Try.f40) Try.func40 (by kernel_rfl) (by kernel_rfl) (by kernel_rfl) ?_
 refine Sq (Rg [0, 1] ?_)
 refine Bx 1 0 0 25 (kSystem x0 a0_0 n0_0 a0_1 n0_1) hs0 (fun b1 w2 (hs3 : HS w0 F0 w2 F0 [(sb b1 (kSystem x0 a0_0 n0_0 a0_1 n0_1) 25)]) => ?_)
 refine V 2 30 (mc (vi 0) (vi 0)) ?_
 refine Nss ?_
 refine Sq (Rg [0, 1, 2, 3, 4, 5, 6, 7, 8, 9] ?_)
 refine RWP.cut (fun f w => ∃ (F1 : Mem), HS w0 F0 w F1 [(sb b1 (kSystem x0 a0_0 n0_0 a0_1 n0_1) 25)] ∧ Mem.le F0 F1 ∧ f.d = [] ∧ f 1 = (.pointer (some ⟨b1, 0, none⟩)) ∧ f 15 = (.bool ((decide ((x0.Tracks.length : Int) > 64)) || (decide ((x0.Ties.length : Int) > 400))))) ?_ ?_
 ·refine V 6 0 (fa 25 1 0 0 1 b1 0 0) ?_
  refine V 7 22 (ld 22 6 b1 0 false 1 (.slice a0_0 x0.Tracks.length n0_0) (hs3.ownAt (k := 0) rfl)) ?_
  refine V 8 3 (ln 7 22 a0_0 x0.Tracks.length n0_0 54 4 64) ?_
  refine V 9 4 (run_gtr (t := 3) (t' := 3) (x := (.tmp 8)) (y := (.const (vi 64))) (k := .i64) (a := (x0.Tracks.length : Int)) (b := 64) rfl rfl) ?_
  refine V 10 4 (mv 9 (.bool (decide ((x0.Tracks.length : Int) > 64)))) ?_
  refine RWP.split (decide ((x0.Tracks.length : Int) > 64)) (fun hb10 => ?_) (fun hb10 => ?_)
  ·refine Sk [11, 12, 13, 14] 4 false 10 hb10 ?_
   refine V 15 4 (p1 10 (.const (.bool true)) (.tmp 14) (.bool true) hb10) ?_
   exact RWP.nil ⟨rfl, F0, hs3, (Mem.le.refl _), rfl, rfl, (congrArg Value.bool (or_t hb10 (rfl)))⟩
  ·refine Vg 11 0 4 false 10 hb10 (fa 25 1 1 1 1 b1 0 1) ?_
   refine Vg 12 23 4 false 10 hb10 (ld 23 11 b1 1 false 1 (.slice a0_1 x0.Ties.length n0_1) (hs3.ownAt (k := 0) rfl)) ?_
   refine Vg 13 3 4 false 10 hb10 (ln 12 23 a0_1 x0.Ties.length n0_1 46 4 32) ?_
   refine Vg 14 4 4 false 10 hb10 (run_gtr (t := 3) (t' := 3) (x := (.tmp 13)) (y := (.const (vi 400))) (k := .i64) (a := (x0.Ties.length : Int)) (b := 400) rfl rfl) ?_
   refine V 15 4 (p0 10 (.const (.bool true)) (.tmp 14) (.bool (decide ((x0.Ties.length : Int) > 400))) hb10) ?_
   exact RWP.nil ⟨rfl, F0, hs3, (Mem.le.refl _), rfl, rfl, (congrArg Value.bool (or_f hb10 (rfl)))⟩
 ·rintro f w4 ⟨F1, hs5, le6, e7, e8, e9⟩
  refine thenQ_nrm ?_
  refine CWP.cond (t := ((decide ((x0.Tracks.length : Int) > 64)) || (decide ((x0.Ties.length : Int) > 400)))) (by kernel_rfl) e9 (fun hb11 => ?_) (fun hb11 => ?_)
  ·have h12 := cond_t h hb11
   refine Sq (Rg [0] ?_)
   refine V 2 30 (mc (vi 2) (vi 2)) ?_
   refine Nt ?_
   refine CWP.ret (by kernel_rfl) ?_
   refine thenQ_ret ?_
   have hfin := some_inj h12
   subst hfin
   exact ⟨e7, (vi 2), res_of (l := [.tmp 2]) (by kernel_rfl) (vs := [(vi 2)]) ⟨rfl, trivial⟩, (vi 2), F1, rfl, hs5.clear, rfl⟩
  ·have h13 := cond_f h hb11
   refine Sc ?_
   refine thenQ_nrm ?_
   refine Sq ?_
   refine Sq (Rg [0] ?_)
   refine V 3 3 (mc (vi 0) (vi 0)) ?_
   refine Nt ?_
   obtain ⟨o14, ho15, h16⟩ := bind_some h13
   refine CWP.cut (fun f w => ∃ (s24 : Int) (F3 : Mem), o14 = .done s24 ∧ HS w0 F0 w F3 [(sb b1 (kSystem x0 a0_0 n0_0 a0_1 n0_1) 25)] ∧ Mem.le F1 F3 ∧ f.d = [] ∧ f 1 = (.pointer (some ⟨b1, 0, none⟩))) ?_ ?_
   ·refine Bk ?_
    refine CWP.loop (by kernel_rfl) (fun m f w => ∃ (s17 : Int) (F2 : Mem), iter (ref03_Check_L0 N x0) m s17 = some o14 ∧ HS w0 F0 w F2 [(sb b1 (kSystem x0 a0_0 n0_0 a0_1 n0_1) 25)] ∧ Mem.le F1 F2 ∧ f.d = [] ∧ f 1 = (.pointer (some ⟨b1, 0, none⟩)) ∧ f 3 = (vi s17)) N ⟨0, F1, ho15, hs5, (Mem.le.refl _), e7, e8, rfl⟩ ?_
    rintro m30 f w18 ⟨s17, F2, hit31, hs19, le20, e21, e22, e23⟩
    obtain ⟨m32, fl33, rfl, hb34, hnx35⟩ := iter_step hit31
    refine Sq ?_
    refine Sq (Rg [0, 1, 2, 3, 4] ?_)
    refine V 16 3 (mv 3 (vi s17) e23) ?_
    refine V 17 0 (fa 25 1 0 0 1 b1 0 0 e22) ?_
    refine V 18 22 (ld 22 17 b1 0 false 1 (.slice a0_0 x0.Tracks.length n0_0) (hs19.ownAt (k := 0) rfl)) ?_
    refine V 19 3 (ln 18 22 a0_0 x0.Tracks.length n0_0 54 4 64) ?_
    refine V 20 4 (run_lss (t := 3) (t' := 3) (x := (.tmp 16)) (y := (.tmp 19)) (k := .i64) (a := s17) (b := (x0.Tracks.length : Int)) rfl rfl) ?_
    refine Nt ?_
    refine CWP.cond (t := (decide (s17 < (x0.Tracks.length : Int)))) (by kernel_rfl) rfl (fun hb36 => ?_) (fun hb36 => ?_)
    ·have h37 := cond_t hb34 hb36
     refine Sc ?_
     refine thenQ_nrm ?_
     refine Sq ?_
     refine Bk ?_
     refine Sq (Rg [0, 1, 2, 3, 4, 5, 6] ?_)
     refine V 23 0 (fa 25 1 0 0 1 b1 0 0 e22) ?_
     refine V 24 22 (ld 22 23 b1 0 false 1 (.slice a0_0 x0.Tracks.length n0_0) (hs19.ownAt (k := 0) rfl)) ?_
     refine V 25 3 (mv 3 (vi s17) e23) ?_
     obtain ⟨x38, hx39, h41⟩ := bind_some h37
     obtain ⟨hi40, hx39'⟩ := idx_spec hx39
     obtain ⟨b42, o43, C44, E45, fz46, rfl, hF48, hE49⟩ := SlA.open (SlA.mono hs0_0 (le6.trans le20)) hx39'
     obtain ⟨ae50_2, ne50_2, ae50_3, ne50_3, hc51, hbe50_2, hse50_2, hbe50_3, hse50_3⟩ := hE49 _ _ hx39'
     refine V 26 0 (ix 22 24 25 b42 o43 54 4 64 hi40) ?_
     refine V 27 54 (lx 54 26 0 4 true 4 (.agg (kTrack x38 ae50_2 ne50_2 ae50_3 ne50_3)) (hs19.pers _ _ hF48) hc51) ?_
     obtain ⟨r52, hr53, h54⟩ := bind_some h41
     refine Cl 28 4 39 #[(.tmp 27)] #[54] co_ref03_ValidTrack hs19 (c_ref03_ValidTrack N w18 F2 hs19.pers (x38) ae50_2 ne50_2 hbe50_2 hse50_2 ae50_3 ne50_3 hbe50_3 hse50_3 _ hr53) ?_
     intro v55 F4 w56 hs57 le58 hp59
     obtain rfl := hp59
     refine V 29 4 (run_not (t := 4) (x := (.tmp 28)) (a := r52) rfl) ?_
     refine Nt ?_
     refine CWP.cond (t := (!r52)) (by kernel_rfl) rfl (fun hb60 => ?_) (fun hb60 => ?_)
     ·have h61 := cond_t h54 hb60
      refine Sq (Rg [0] ?_)
      refine V 2 30 (mc (vi 30) (vi 30)) ?_
      refine Nt ?_
      refine CWP.ret (by kernel_rfl) ?_
      refine blockQ_ret ?_
      refine thenQ_ret ?_
      refine thenQ_ret ?_
      refine blockQ_ret ?_
      have hret := iter_ret h61 hnx35
      subst hret
      refine .inr ?_
      refine thenQ_ret ?_
      have hfin := some_inj h16
      subst hfin
      exact ⟨e21, (vi 30), res_of (l := [.tmp 2]) (by kernel_rfl) (vs := [(vi 30)]) ⟨rfl, trivial⟩, (vi 30), F4, rfl, hs57.clear, rfl⟩
     ·have h62 := cond_f h54 hb60
      refine Sc ?_
      refine blockQ_nrm ?_
      refine thenQ_nrm ?_
      refine Rg [0, 1, 2] ?_
      refine V 21 3 (mv 3 (vi s17) e23) ?_
      refine V 22 3 (run_add (t := 3) (t' := 3) (x := (.tmp 21)) (y := (.const (vi 1))) (k := .i64) (a := s17) (b := 1) rfl rfl) ?_
      refine V 3 3 (ma 22 (vi (W64 (s17 + 1)))) ?_
      refine RWP.nil ?_
      have hn63 := iter_next h62 hnx35
      exact ⟨m32, Nat.lt_succ_self _, (W64 (s17 + 1)), F4, hn63, hs57, (le20.trans le58), e21, e22, rfl⟩
    ·have h64 := cond_f hb34 hb36
     refine CWP.exit (by kernel_rfl) ?_
     refine thenQ_ex ?_
     refine thenQ_ex ?_
     refine blockQ_hit rfl ?_
     have ho65 := iter_done h64 hnx35
     exact .inl ⟨rfl, s17, F2, ho65, hs19, le20, e21, e22⟩
   ·rintro f w25 ⟨s24, F3, rfl, hs26, le27, e28, e29⟩
    have h66 := k_done h16
    refine thenQ_nrm ?_
    refine Sq ?_
    refine Sq (Rg [0] ?_)
    refine V 4 3 (mc (vi 0) (vi 0)) ?_
    refine Nt ?_
    obtain ⟨o67, ho68, h69⟩ := bind_some h66
    refine CWP.cut (fun f w => ∃ (s77 : Int) (F6 : Mem), o67 = .done s77 ∧ HS w0 F0 w F6 [(sb b1 (kSystem x0 a0_0 n0_0 a0_1 n0_1) 25)] ∧ Mem.le F3 F6 ∧ f.d = [] ∧ f 1 = (.pointer (some ⟨b1, 0, none⟩))) ?_ ?_
    ·refine Bk ?_
     refine CWP.loop (by kernel_rfl) (fun m f w => ∃ (s70 : Int) (F5 : Mem), iter (ref03_Check_L1 N x0 s24) m s70 = some o67 ∧ HS w0 F0 w F5 [(sb b1 (kSystem x0 a0_0 n0_0 a0_1 n0_1) 25)] ∧ Mem.le F3 F5 ∧ f.d = [] ∧ f 1 = (.pointer (some ⟨b1, 0, none⟩)) ∧ f 4 = (vi s70)) N ⟨0, F3, ho68, hs26, (Mem.le.refl _), e28, e29, rfl⟩ ?_
     rintro m83 f w71 ⟨s70, F5, hit84, hs72, le73, e74, e75, e76⟩
     obtain ⟨m85, fl86, rfl, hb87, hnx88⟩ := iter_step hit84
     refine Sq ?_
     refine Sq (Rg [0, 1, 2, 3, 4] ?_)
     refine V 30 3 (mv 4 (vi s70) e76) ?_
     refine V 31 0 (fa 25 1 1 1 1 b1 0 1 e75) ?_
     refine V 32 23 (ld 23 31 b1 1 false 1 (.slice a0_1 x0.Ties.length n0_1) (hs72.ownAt (k := 0) rfl)) ?_
     refine V 33 3 (ln 32 23 a0_1 x0.Ties.length n0_1 46 4 32) ?_
     refine V 34 4 (run_lss (t := 3) (t' := 3) (x := (.tmp 30)) (y := (.tmp 33)) (k := .i64) (a := s70) (b := (x0.Ties.length : Int)) rfl rfl) ?_
     refine Nt ?_
     refine CWP.cond (t := (decide (s70 < (x0.Ties.length : Int)))) (by kernel_rfl) rfl (fun hb89 => ?_) (fun hb89 => ?_)
     ·have h90 := cond_t hb87 hb89
      refine Sc ?_
      refine thenQ_nrm ?_
      refine Sq ?_
      refine Bk ?_
      refine Sq (Rg [0, 1, 2, 3, 4, 5, 6] ?_)
      refine V 37 0 (fa 25 1 1 1 1 b1 0 1 e75) ?_
      refine V 38 23 (ld 23 37 b1 1 false 1 (.slice a0_1 x0.Ties.length n0_1) (hs72.ownAt (k := 0) rfl)) ?_
      refine V 39 3 (mv 4 (vi s70) e76) ?_
      obtain ⟨x91, hx92, h94⟩ := bind_some h90
      obtain ⟨hi93, hx92'⟩ := idx_spec hx92
      obtain ⟨b95, o96, C97, E98, fz99, rfl, hF101, hE102⟩ := SlA.open (SlA.mono hs0_1 ((le6.trans le27).trans le73)) hx92'
      have hc104 := hE102 _ _ hx92'
      refine V 40 0 (ix 23 38 39 b95 o96 46 4 32 hi93) ?_
      refine V 41 46 (lx 46 40 0 4 true 4 (.agg (kTie x91)) (hs72.pers _ _ hF101) hc104) ?_
      refine Al 5 0 46 #[(vi 0), (vi 0), (vi 0), (vi 0)] hs72 (fun b105 w106 (hs107 : HS w0 F0 w106 F5 [(sb b105 #[(vi 0), (vi 0), (vi 0), (vi 0)] 46), (sb b1 (kSystem x0 a0_0 n0_0 (some ⟨b95, o96, none⟩) n0_1) 25)]) => ?_)
      refine RWP.store (ty := 0) (g := none) (by kernel_rfl) rfl (x := (.tmp 5)) (y := (.tmp 41)) (t := 46) (gg := true) (s := 4) (v := (.agg (kTie x91))) (b := b105) (o := 0) (C := #[(vi 0), (vi 0), (vi 0), (vi 0)]) rfl rfl (by kernel_rfl) hs107 (k := 0) rfl rfl rfl rfl (C' := (kTie x91)) rfl (fun w108 (hs109 : HS w0 F0 w108 F5 [(sb b105 (kTie x91) 46), (sb b1 (kSystem x0 a0_0 n0_0 (some ⟨b95, o96, none⟩) n0_1) 25)]) => ?_)
      refine Nss (Rg [0, 1, 2, 3, 4, 5, 6, 7, 8, 9, 10, 11, 12, 13, 14, 15, 16, 17, 18, 19, 20] ?_)
      obtain ⟨j113, hj118, h119⟩ := bind_some h94
      refine RWP.cut (fun f w => ∃ (F7 : Mem), HS w0 F0 w F7 [(sb b1 (kSystem x0 a0_0 n0_0 (some ⟨b95, o96, none⟩) n0_1) 25)] ∧ Mem.le F5 F7 ∧ f.d = [] ∧ f 1 = (.pointer (some ⟨b1, 0, none⟩)) ∧ f 4 = (vi s70) ∧ f 62 = (.bool j113)) ?_ ?_
      ·refine V 42 25 (ld 25 1 b1 0 true 3 (.agg (kSystem x0 a0_0 n0_0 (some ⟨b95, o96, none⟩) n0_1)) (hs109.ownAt (k := 1) rfl) e75) ?_
       refine V 43 0 (fa 46 5 0 0 2 b105 0 0) ?_
       refine V 44 27 (ld 27 43 b105 0 true 2 (.agg (kRef x91.A)) (hs109.ownAt (k := 0) rfl)) ?_
       obtain ⟨r120, hr121, h122⟩ := bind_some hj118
       refine Cl 45 4 85 #[(.tmp 42), (.tmp 44)] #[25, 27] co_ref03_Has hs109 (c_ref03_Has N w108 F5 hs109.pers (x0) a0_0 n0_0 hb0_0 (SlA.mono hs0_0 ((le6.trans le27).trans le73)) (some ⟨b95, o96, none⟩) n0_1 hb0_1 (SlA.mono hs0_1 ((le6.trans le27).trans le73)) (x91.A) _ hr121) ?_
       intro v123 F8 w124 hs125 le126 hp127
       obtain rfl := hp127
       refine V 46 4 (run_not (t := 4) (x := (.tmp 45)) (a := r120) rfl) ?_
       refine V 47 4 (mv 46 (.bool (!r120))) ?_
       refine RWP.split (!r120) (fun hb128 => ?_) (fun hb128 => ?_)
       ·have h129 := cond_t h122 hb128
        refine Sk [48, 49, 50, 51, 52] 5 false 47 hb128 ?_
        refine V 53 4 (p1 47 (.const (.bool true)) (.tmp 52) (.bool true) hb128) ?_
        refine V 54 4 (mv 53 (.bool true)) ?_
        refine Sk [55, 56, 57, 58, 59, 60, 61] 12 false 54 rfl ?_
        refine V 62 4 (p1 54 (.const (.bool true)) (.tmp 61) (.bool true) rfl) ?_
        obtain rfl := some_inj h129
        have hs130 : HS w0 F0 w124 F8 [(sb b1 (kSystem x0 a0_0 n0_0 (some ⟨b95, o96, none⟩) n0_1) 25)] := hs125.drop 0
        exact RWP.nil ⟨rfl, F8, hs130, le126, e74, e75, e76, rfl⟩
       ·have h131 := cond_f h122 hb128
        refine Vg 48 25 5 false 47 hb128 (ld 25 1 b1 0 true 3 (.agg (kSystem x0 a0_0 n0_0 (some ⟨b95, o96, none⟩) n0_1)) (hs125.ownAt (k := 1) rfl) e75) ?_
        refine Vg 49 0 5 false 47 hb128 (fa 46 5 1 2 2 b105 0 2) ?_
        refine Vg 50 27 5 false 47 hb128 (ld 27 49 b105 2 true 2 (.agg (kRef x91.B)) (hs125.ownAt (k := 0) rfl)) ?_
        obtain ⟨r132, hr133, h134⟩ := bind_some h131
        refine RWP.call (dst := (some 51)) (ty := 4) (g := (some (5, false))) (by kernel_rfl) (gd_y (d := 47) (by kernel_rfl) rfl hb128) (f0 := (.func 85)) (aos := #[(.tmp 48), (.tmp 50)]) (ats := #[25, 27]) (fid := 85) (first := #[]) (cap := #[]) (args := [(.agg (kSystem x0 a0_0 n0_0 (some ⟨b95, o96, none⟩) n0_1)), (.agg (kRef x91.B))]) rfl co_ref03_Has (rfl) hs125 (c_ref03_Has N w124 F8 hs125.pers (x0) a0_0 n0_0 hb0_0 (SlA.mono hs0_0 (((le6.trans le27).trans le73).trans le126)) (some ⟨b95, o96, none⟩) n0_1 hb0_1 (SlA.mono hs0_1 (((le6.trans le27).trans le73).trans le126)) (x91.B) _ hr133) ?_
        intro v135 F9 w136 hs137 le138 hp139
        obtain rfl := hp139
        refine Vg 52 4 5 false 47 hb128 (run_not (t := 4) (x := (.tmp 51)) (a := r132) rfl) ?_
        refine V 53 4 (p0 47 (.const (.bool true)) (.tmp 52) (.bool (!r132)) hb128) ?_
        refine V 54 4 (mv 53 (.bool (!r132))) ?_
        refine RWP.split (!r132) (fun hb140 => ?_) (fun hb140 => ?_)
        ·have h141 := cond_t h134 hb140
         refine Sk [55, 56, 57, 58, 59, 60, 61] 12 false 54 hb140 ?_
         refine V 62 4 (p1 54 (.const (.bool true)) (.tmp 61) (.bool true) hb140) ?_
         obtain rfl := some_inj h141
         have hs142 : HS w0 F0 w136 F9 [(sb b1 (kSystem x0 a0_0 n0_0 (some ⟨b95, o96, none⟩) n0_1) 25)] := hs137.drop 0
         exact RWP.nil ⟨rfl, F9, hs142, (le126.trans le138), e74, e75, e76, rfl⟩
        ·have h143 := cond_f h134 hb140
         refine Vg 55 0 12 false 54 hb140 (fa 46 5 0 0 2 b105 0 0) ?_
         refine Vg 56 0 12 false 54 hb140 (fa 27 55 0 0 1 b105 0 0) ?_
         refine Vg 57 3 12 false 54 hb140 (ld 3 56 b105 0 false 1 (vi x91.A.Log) (hs137.ownAt (k := 0) rfl)) ?_
         refine Vg 58 0 12 false 54 hb140 (fa 46 5 1 2 2 b105 0 2) ?_
         refine Vg 59 0 12 false 54 hb140 (fa 27 58 0 0 1 b105 2 2) ?_
         refine Vg 60 3 12 false 54 hb140 (ld 3 59 b105 2 false 1 (vi x91.B.Log) (hs137.ownAt (k := 0) rfl)) ?_
         refine Vg 61 4 12 false 54 hb140 (run_eql (t := 3) (t' := 3) (x := (.tmp 57)) (y := (.tmp 60)) (k := .i64) (a := x91.A.Log) (b := x91.B.Log) rfl rfl) ?_
         refine V 62 4 (p0 54 (.const (.bool true)) (.tmp 61) (.bool (x91.A.Log == x91.B.Log)) hb140) ?_
         obtain rfl := some_inj h143
         have hs144 : HS w0 F0 w136 F9 [(sb b1 (kSystem x0 a0_0 n0_0 (some ⟨b95, o96, none⟩) n0_1) 25)] := hs137.drop 0
         exact RWP.nil ⟨rfl, F9, hs144, (le126.trans le138), e74, e75, e76, rfl⟩
      ·rintro f w110 ⟨F7, hs111, le112, e114, e115, e116, e117⟩
       refine thenQ_nrm ?_
       refine CWP.cond (t := j113) (by kernel_rfl) e117 (fun hb145 => ?_) (fun hb145 => ?_)
       ·have h146 := cond_t h119 hb145
        refine Sq (Rg [0] ?_)
        refine V 2 30 (mc (vi 30) (vi 30)) ?_
        refine Nt ?_
        refine CWP.ret (by kernel_rfl) ?_
        refine blockQ_ret ?_
        refine thenQ_ret ?_
        refine thenQ_ret ?_
        refine blockQ_ret ?_
        have hret := iter_ret h146 hnx88
        subst hret
        refine .inr ?_
        refine thenQ_ret ?_
        have hfin := some_inj h69
        subst hfin
        exact ⟨e114, (vi 30), res_of (l := [.tmp 2]) (by kernel_rfl) (vs := [(vi 30)]) ⟨rfl, trivial⟩, (vi 30), F7, rfl, hs111.clear, rfl⟩
       ·have h147 := cond_f h119 hb145
        refine Sc ?_
        refine blockQ_nrm ?_
        refine thenQ_nrm ?_
        refine Rg [0, 1, 2] ?_
        refine V 35 3 (mv 4 (vi s70) e116) ?_
        refine V 36 3 (run_add (t := 3) (t' := 3) (x := (.tmp 35)) (y := (.const (vi 1))) (k := .i64) (a := s70) (b := 1) rfl rfl) ?_
        refine V 4 3 (ma 36 (vi (W64 (s70 + 1)))) ?_
        refine RWP.nil ?_
        have hn148 := iter_next h147 hnx88
        exact ⟨m85, Nat.lt_succ_self _, (W64 (s70 + 1)), F7, hn148, hs111, (le73.trans le112), e114, e115, rfl⟩
     ·have h149 := cond_f hb87 hb89
      refine CWP.exit (by kernel_rfl) ?_
      refine thenQ_ex ?_
      refine thenQ_ex ?_
      refine blockQ_hit rfl ?_
      have ho150 := iter_done h149 hnx88
      exact .inl ⟨rfl, s70, F5, ho150, hs72, le73, e74, e75⟩
    ·rintro f w78 ⟨s77, F6, rfl, hs79, le80, e81, e82⟩
     have h151 := k_done h69
     refine thenQ_nrm ?_
     refine Sq ?_
     refine Sq (Rg [0, 1, 2, 3] ?_)
     refine V 63 0 (fa 25 1 2 2 1 b1 0 2 e82) ?_
     refine V 64 3 (ld 3 63 b1 2 false 1 (vi x0.Window) (hs79.ownAt (k := 0) rfl)) ?_
     obtain ⟨r152, hr153, h154⟩ := bind_some h151
     refine Cl 65 4 83 #[(.tmp 64), (.const (vi 0)), (.const (vi 120))] #[3, 3, 3] co_ref03_within hs79 (c_ref03_within N w78 F6 hs79.pers (x0.Window) (0) (120) _ hr153) ?_
     intro v155 F10 w156 hs157 le158 hp159
     obtain rfl := hp159
     refine V 66 4 (run_not (t := 4) (x := (.tmp 65)) (a := r152) rfl) ?_
     refine Nt ?_
     refine CWP.cond (t := (!r152)) (by kernel_rfl) rfl (fun hb160 => ?_) (fun hb160 => ?_)
     ·have h161 := cond_t h154 hb160
      refine Sq (Rg [0] ?_)
      refine V 2 30 (mc (vi 30) (vi 30)) ?_
      refine Nt ?_
      refine CWP.ret (by kernel_rfl) ?_
      refine thenQ_ret ?_
      have hfin := some_inj h161
      subst hfin
      exact ⟨e81, (vi 30), res_of (l := [.tmp 2]) (by kernel_rfl) (vs := [(vi 30)]) ⟨rfl, trivial⟩, (vi 30), F10, rfl, hs157.clear, rfl⟩
     ·have h162 := cond_f h154 hb160
      refine Sc ?_
      refine thenQ_nrm ?_
      refine Sq (Rg [0] ?_)
      refine V 2 30 (mc (vi 0) (vi 0)) ?_
      refine Nt ?_
      refine CWP.ret (by kernel_rfl) ?_
      have hfin := some_inj h162
      subst hfin
      exact ⟨e81, (vi 0), res_of (l := [.tmp 2]) (by kernel_rfl) (vs := [(vi 0)]) ⟨rfl, trivial⟩, (vi 0), F10, rfl, hs157.clear, rfl⟩
end Go.Proofs.Ythbcnabeabcmlaa
namespace Go.Proofs.Ythbcnabeabcmlaa
theorem within_r (N : Nat) (a b c : Int) : ref03_within N a b c = some (inr a b c) := rfl
theorem loopCr {N : Nat} {c : Clock} (j : Bool) (h : Fit N c.Jumps.length) {i : Nat} (hi : i < c.Jumps.length) : ref03_ValidClock_L0 N c j (i : Int) = some (bif okO ltS c.Jumps i then .next ((i + 1 : Nat) : Int) else .ret false) := by
 unfold ref03_ValidClock_L0
 have h1 := h.1
 rw [lt_t hi, cond_true, idx_nat hi, Option.bind_some, within_r, Option.bind_some, W64_succ (by omega)]
 cases i with
 | zero =>
  simp only [okO, getD_at hi]
  cases inr c.Jumps[0] 0 20000 <;> simp
 | succ k =>
  have hk : k < c.Jumps.length := by omega
  simp only [okO, getD_at hi, getD_at hk]
  have hp : decide (((k + 1 : Nat) : Int) > 0) = true := by simp
  rw [hp, cond_true, pred_nat (by omega), idx_nat hk, Option.bind_some, Option.bind_some]
  cases inr c.Jumps[k + 1] 0 20000 <;> simp [ltS]
  by_cases hlt : c.Jumps[k + 1] ≤ c.Jumps[k]
  ·simp [hlt, Int.not_lt.2 hlt]
  ·simp [hlt, Int.not_le.1 hlt]
theorem validClock_r {N : Nat} {c : Clock} (h : Fit N c.Jumps.length) : ref03_ValidClock N c = some (vClock c) := by
 unfold ref03_ValidClock vClock
 rw [within_r, within_r]
 simp only [Option.bind_some]
 have hL : ∀ j, ((iter (ref03_ValidClock_L0 N c j) N 0).bind fun o => o.k (fun r => some r) (fun s48 => some true)) = some (allB c.Jumps.length (okO ltS c.Jumps)) := by
  intro j
  rw [iter_check' (okO ltS c.Jumps) false (fun i hi => loopCr j h hi) (by unfold ref03_ValidClock_L0; rw [lt_f]; rfl) h.2]
  cases allB c.Jumps.length (okO ltS c.Jumps) <;> rfl
 cases inr c.Slip 0 1440 with
 | false => simp
 | true =>
  cases inr c.Drift 0 100 with
  | false => simp
  | true =>
   by_cases h16 : (c.Jumps.length : Int) > 16
   ·simp [h16]
   ·simp only [h16, Bool.not_true, cond_false, Option.bind_some, decide_false, hL, Bool.true_and]
    have : decide ((c.Jumps.length : Int) ≤ 16) = true := by simp; omega
    rw [this]; simp
theorem loopTr {N : Nat} {t : Track} (j : Bool) (h : Fit N t.Times.length) {i : Nat} (hi : i < t.Times.length) : ref03_ValidTrack_L0 N t j (i : Int) = some (bif okO ltE t.Times i then .next ((i + 1 : Nat) : Int) else .ret false) := by
 unfold ref03_ValidTrack_L0
 have h1 := h.1
 rw [lt_t hi, cond_true, idx_nat hi, Option.bind_some, within_r, Option.bind_some, W64_succ (by omega)]
 cases i with
 | zero =>
  simp only [okO, getD_at hi]
  cases inr t.Times[0] 0 20000 <;> simp
 | succ k =>
  have hk : k < t.Times.length := by omega
  simp only [okO, getD_at hi, getD_at hk]
  have hp : decide (((k + 1 : Nat) : Int) > 0) = true := by simp
  rw [hp, cond_true, pred_nat (by omega), idx_nat hk, Option.bind_some, Option.bind_some]
  cases inr t.Times[k + 1] 0 20000 <;> simp [ltE]
  by_cases hlt : t.Times[k + 1] < t.Times[k]
  ·simp [hlt, Int.not_le.2 hlt]
  ·simp [hlt, Int.not_lt.1 hlt]
theorem validTrack_r {N : Nat} {t : Track} (h : FitT N t) : ref03_ValidTrack N t = some (vTrack t) := by
 unfold ref03_ValidTrack vTrack
 rw [validClock_r h.j]
 simp only [Option.bind_some]
 have hL : ∀ j, ((iter (ref03_ValidTrack_L0 N t j) N 0).bind fun o => o.k (fun r => some r) (fun s48 => some true)) = some (allB t.Times.length (okO ltE t.Times)) := by
  intro j
  rw [iter_check' (okO ltE t.Times) false (fun i hi => loopTr j h.t hi) (by unfold ref03_ValidTrack_L0; rw [lt_f]; rfl) h.t.2]
  cases allB t.Times.length (okO ltE t.Times) <;> rfl
 cases vClock t.Clock with
 | false => simp
 | true =>
  by_cases h16 : (t.Times.length : Int) > 400
  ·simp [h16]
  ·simp only [h16, Bool.not_true, cond_false, Option.bind_some, decide_false, hL, Bool.true_and]
   have : decide ((t.Times.length : Int) ≤ 400) = true := by simp; omega
   rw [this]; simp
theorem has_r {N : Nat} {s : System} (h : FitS N s) (r : Ref) : ref03_Has N s r = some (vHas s r) := has_aux h r _ (within_r N)
theorem check_r {N : Nat} {s : System} (h : FitS N s) : ref03_Check N s = some (vCheck s) := by
 unfold ref03_Check vCheck
 have hn := h.n.1
 have he := h.e.1
 cases (decide ((s.Tracks.length : Int) > 64) || decide ((s.Ties.length : Int) > 400)) with
 | true => rfl
 | false =>
  simp only [cond_false]
  rw [iter_check' (n := s.Tracks.length) (atB s.Tracks vTrack) 30 (fun i hi => by
   unfold ref03_Check_L0
   rw [lt_t hi, cond_true, idx_nat hi, Option.bind_some, validTrack_r (h.t _ (List.getElem_mem hi)), Option.bind_some, W64_succ (by omega), atB_at hi]
   cases vTrack s.Tracks[i] <;> rfl) (by unfold ref03_Check_L0; rw [lt_f]; rfl) h.n.2, ← all_allB]
  cases s.Tracks.all vTrack with
  | false => rfl
  | true =>
   simp only [cond_true]
   rw [iter_check' (n := s.Ties.length) (atB s.Ties (vTie s)) 30 (fun i hi => by
    unfold ref03_Check_L1
    rw [lt_t hi, cond_true, idx_nat hi, Option.bind_some, has_r h, has_r h, W64_succ (by omega), atB_at hi]
    simp only [Option.bind_some, vTie]
    cases vHas s s.Ties[i].A with
    | false => rfl
    | true =>
     cases vHas s s.Ties[i].B with
     | false => rfl
     | true =>
      simp only [Bool.not_true, cond_false, Option.bind_some, Bool.true_and, bne]
      cases (s.Ties[i].A.Log == s.Ties[i].B.Log) <;> rfl) (by unfold ref03_Check_L1; rw [lt_f]; rfl) h.e.2, ← all_allB]
   rw [within_r]
   cases s.Ties.all (vTie s) with
   | false => simp
   | true =>
    simp only [cond_true, Option.bind_some]
    cases inr s.Window 0 120 <;> simp
end Go.Proofs.Ythbcnabeabcmlaa
namespace Go.Proofs.Ythbcnabeabcmlaa
open Go.Proofs
end Go.Proofs.Ythbcnabeabcmlaa
namespace Go.Proofs.Ythbcnabeabcmlaa
open Go.Proofs
end Go.Proofs.Ythbcnabeabcmlaa
namespace Go.Proofs.Ythbcnabeabcmlaa
open Go.Proofs
end Go.Proofs.Ythbcnabeabcmlaa
namespace Go.Proofs.Ythbcnabeabcmlaa
open Go.Proofs
def ref03_Beginning (N : Nat)  : Option Ref :=
 some ({ Log := (-1), Line := 0 } : Ref)
theorem co_ref03_Beginning : CallOk Try.prog 109 := fun _ _ => by kernel_rfl
set_option maxHeartbeats 4000000 in
set_option maxRecDepth 100000 in
theorem c_ref03_Beginning (N : Nat) (w0 : World) (F0 : Mem) (hF : ∀ b o, F0 b = some o → w0.heap[b]? = some o)  (r : Ref) (h : ref03_Beginning N  = some r) :
  Calls Try.prog 109 ([] : List Value).toArray w0 (FRet w0 F0 fun F' v => v = (.agg (kRef r))) := by
 have hs0 := HS.start hF
 refine calls_of (n := 2) (c := bodyOf Try.f109) Try.func109 (by kernel_rfl) (by kernel_rfl) (by kernel_rfl) ?_
 refine Sq (Rg [0] ?_)
 refine Al 0 0 27 #[(vi 0), (vi 0)] hs0 (fun b1 w2 (hs3 : HS w0 F0 w2 F0 [(sb b1 #[(vi 0), (vi 0)] 27)]) => ?_)
 refine Nss (Rg [0, 1] ?_)
 refine V 1 27 (run_build2 (t := 27) (parts := #[(0, (.const (vi (-1)))), (1, (.const (vi 0)))]) (vs := [(0, (vi (-1))), (1, (vi 0))]) (rfl) (cs := [(vi (-1)), (vi 0)]) (by kernel_rfl)) ?_
 refine RWP.store (ty := 0) (g := none) (by kernel_rfl) rfl (x := (.tmp 0)) (y := (.tmp 1)) (t := 27) (gg := true) (s := 2) (v := (.agg #[(vi (-1)), (vi 0)])) (b := b1) (o := 0) (C := #[(vi 0), (vi 0)]) rfl rfl (by kernel_rfl) hs3 (k := 0) rfl rfl rfl rfl (C' := #[(vi (-1)), (vi 0)]) rfl (fun w4 (hs5 : HS w0 F0 w4 F0 [(sb b1 #[(vi (-1)), (vi 0)] 27)]) => ?_)
 refine Nt ?_
 refine CWP.ret (by kernel_rfl) ?_
 have hfin := some_inj h
 subst hfin
 exact ⟨rfl, (.agg #[(vi (-1)), (vi 0)]), res_of (l := [.cell 0 27]) (by kernel_rfl) (vs := [(.agg #[(vi (-1)), (vi 0)])]) ⟨b1, 0, rfl, run_loadVar' (t := 27) (g := true) (s := 2) (by kernel_rfl) (hs5.ownAt (k := 0) rfl) rfl (by decide), trivial⟩, (.agg #[(vi (-1)), (vi 0)]), F0, rfl, hs5.clear, rfl⟩
end Go.Proofs.Ythbcnabeabcmlaa
namespace Go.Proofs.Ythbcnabeabcmlaa
open Go.Proofs
def ref03_jumped_L0 (N : Nat) (x0 : Clock) (x1 : Int) (x2 : Int) : Int → Option (Flow Bool Int) := fun s7 =>
 (bif (decide (s7 < (x0.Jumps.length : Int))) then (((idx x0.Jumps s7).bind fun x41 => (bif (decide (x1 < x41)) then ((idx x0.Jumps s7).bind fun x57 => some (decide (x57 ≤ x2))) else some false)).bind fun j32 => (bif j32 then some (.ret true) else some (.next (W64 (s7 + 1))))) else some (.done s7))
def ref03_jumped (N : Nat) (x0 : Clock) (x1 : Int) (x2 : Int) : Option Bool :=
 ((iter (ref03_jumped_L0 N x0 x1 x2) N 0).bind fun o => o.k (fun r => some r) (fun s16 => some false))
theorem co_ref03_jumped : CallOk Try.prog 124 := fun _ _ => by kernel_rfl
set_option maxHeartbeats 4000000 in
set_option maxRecDepth 100000 in
theorem c_ref03_jumped (N : Nat) (w0 : World) (F0 : Mem) (hF : ∀ b o, F0 b = some o → w0.heap[b]? = some o) (x0 : Clock) (a0_2 : Option Addr) (n0_2 : Nat) (hb0_2 : LC x0.Jumps.length n0_2) (hs0_2 : SlA tInt F0 a0_2 x0.Jumps) (x1 : Int) (x2 : Int) (r : Bool) (h : ref03_jumped N x0 x1 x2 = some r) :
  Calls Try.prog 124 ([(.agg (kClock x0 a0_2 n0_2)), (vi x1), (vi x2)] : List Value).toArray w0 (FRet w0 F0 fun F' v => v = (.bool r)) := by
 have hs0 := HS.start hF
 refine calls_of (n := 31) (c := bodyOf Try.f124) Try.func124 (by kernel_rfl) (by kernel_rfl) (by kernel_rfl) ?_
 refine Sq (Rg [0, 1] ?_)
 refine Bx 3 0 0 52 (kClock x0 a0_2 n0_2) hs0 (fun b1 w2 (hs3 : HS w0 F0 w2 F0 [(sb b1 (kClock x0 a0_2 n0_2) 52)]) => ?_)
 refine V 6 4 (mc (.bool false) (.bool false)) ?_
 refine Nss ?_
 refine Sq (Rg [0] ?_)
 refine V 7 3 (mc (vi 0) (vi 0)) ?_
 refine Nt ?_
 obtain ⟨o4, ho5, h6⟩ := bind_some h
 refine CWP.cut (fun f w => ∃ (s16 : Int) (F2 : Mem), o4 = .done s16 ∧ HS w0 F0 w F2 [] ∧ Mem.le F0 F2 ∧ f.d = []) ?_ ?_
 ·refine Bk ?_
  refine CWP.loop (by kernel_rfl) (fun m f w => ∃ (s7 : Int) (F1 : Mem), iter (ref03_jumped_L0 N x0 x1 x2) m s7 = some o4 ∧ HS w0 F0 w F1 [(sb b1 (kClock x0 a0_2 n0_2) 52)] ∧ Mem.le F0 F1 ∧ f.d = [] ∧ f 1 = (vi x1) ∧ f 2 = (vi x2) ∧ f 3 = (.pointer (some ⟨b1, 0, none⟩)) ∧ f 7 = (vi s7)) N ⟨0, F0, ho5, hs3, (Mem.le.refl _), rfl, rfl, rfl, rfl, rfl⟩ ?_
  rintro m21 f w8 ⟨s7, F1, hit22, hs9, le10, e11, e12, e13, e14, e15⟩
  obtain ⟨m23, fl24, rfl, hb25, hnx26⟩ := iter_step hit22
  refine Sq ?_
  refine Sq (Rg [0, 1, 2, 3, 4] ?_)
  refine V 8 3 (mv 7 (vi s7) e15) ?_
  refine V 9 0 (fa 52 3 2 2 1 b1 0 2 e14) ?_
  refine V 10 50 (ld 50 9 b1 2 false 1 (.slice a0_2 x0.Jumps.length n0_2) (hs9.ownAt (k := 0) rfl)) ?_
  refine V 11 3 (ln 10 50 a0_2 x0.Jumps.length n0_2 3 1 8) ?_
  refine V 12 4 (run_lss (t := 3) (t' := 3) (x := (.tmp 8)) (y := (.tmp 11)) (k := .i64) (a := s7) (b := (x0.Jumps.length : Int)) rfl rfl) ?_
  refine Nt ?_
  refine CWP.cond (t := (decide (s7 < (x0.Jumps.length : Int)))) (by kernel_rfl) rfl (fun hb27 => ?_) (fun hb27 => ?_)
  ·have h28 := cond_t hb25 hb27
   refine Sc ?_
   refine thenQ_nrm ?_
   refine Sq ?_
   refine Bk ?_
   refine Sq (Rg [0, 1, 2, 3, 4, 5, 6, 7, 8, 9, 10, 11, 12, 13, 14, 15] ?_)
   obtain ⟨j32, hj39, h40⟩ := bind_some h28
   refine RWP.cut (fun f w => ∃ (F3 : Mem), HS w0 F0 w F3 [(sb b1 (kClock x0 a0_2 n0_2) 52)] ∧ Mem.le F1 F3 ∧ f.d = [] ∧ f 1 = (vi x1) ∧ f 2 = (vi x2) ∧ f 3 = (.pointer (some ⟨b1, 0, none⟩)) ∧ f 7 = (vi s7) ∧ f 30 = (.bool j32)) ?_ ?_
   ·refine V 15 3 (mv 1 (vi x1) e12) ?_
    refine V 16 0 (fa 52 3 2 2 1 b1 0 2 e14) ?_
    refine V 17 50 (ld 50 16 b1 2 false 1 (.slice a0_2 x0.Jumps.length n0_2) (hs9.ownAt (k := 0) rfl)) ?_
    refine V 18 3 (mv 7 (vi s7) e15) ?_
    obtain ⟨x41, hx42, h44⟩ := bind_some hj39
    obtain ⟨hi43, hx42'⟩ := idx_spec hx42
    obtain ⟨b45, o46, C47, E48, fz49, rfl, hF51, hE52⟩ := SlA.open (SlA.mono hs0_2 le10) hx42'
    have hc54 := hE52 _ _ hx42'
    refine V 19 0 (ix 50 17 18 b45 o46 3 1 8 hi43) ?_
    refine V 20 3 (lx 3 19 0 1 false 1 (vi x41) (hs9.pers _ _ hF51) hc54) ?_
    refine V 21 4 (run_lss (t := 3) (t' := 3) (x := (.tmp 15)) (y := (.tmp 20)) (k := .i64) (a := x1) (b := x41) rfl rfl) ?_
    refine V 22 4 (mv 21 (.bool (decide (x1 < x41)))) ?_
    refine RWP.split (decide (x1 < x41)) (fun hb55 => ?_) (fun hb55 => ?_)
    ·have h56 := cond_t h44 hb55
     refine Vg 23 0 7 true 22 hb55 (fa 52 3 2 2 1 b1 0 2 e14) ?_
     refine Vg 24 50 7 true 22 hb55 (ld 50 23 b1 2 false 1 (.slice (some ⟨b45, o46, none⟩) x0.Jumps.length n0_2) (hs9.ownAt (k := 0) rfl)) ?_
     refine Vg 25 3 7 true 22 hb55 (mv 7 (vi s7) e15) ?_
     obtain ⟨x57, hx58, h60⟩ := bind_some h56
     obtain ⟨hi59, hx58'⟩ := idx_spec hx58
     have hc62 := hE52 _ _ hx58'
     refine Vg 26 0 7 true 22 hb55 (ix 50 24 25 b45 o46 3 1 8 hi59) ?_
     refine Vg 27 3 7 true 22 hb55 (lx 3 26 0 1 false 1 (vi x57) (hs9.pers _ _ hF51) hc62) ?_
     refine Vg 28 3 7 true 22 hb55 (mv 2 (vi x2) e13) ?_
     refine Vg 29 4 7 true 22 hb55 (run_leq (t := 3) (t' := 3) (x := (.tmp 27)) (y := (.tmp 28)) (k := .i64) (a := x57) (b := x2) rfl rfl) ?_
     refine V 30 4 (p1 22 (.tmp 29) (.const (.bool false)) (.bool (decide (x57 ≤ x2))) hb55) ?_
     obtain rfl := some_inj h60
     exact RWP.nil ⟨rfl, F1, hs9, (Mem.le.refl _), e11, e12, e13, e14, e15, rfl⟩
    ·have h63 := cond_f h44 hb55
     refine Sk [23, 24, 25, 26, 27, 28, 29] 7 true 22 hb55 ?_
     refine V 30 4 (p0 22 (.tmp 29) (.const (.bool false)) (.bool false) hb55) ?_
     obtain rfl := some_inj h63
     exact RWP.nil ⟨rfl, F1, hs9, (Mem.le.refl _), e11, e12, e13, e14, e15, rfl⟩
   ·rintro f w29 ⟨F3, hs30, le31, e33, e34, e35, e36, e37, e38⟩
    refine thenQ_nrm ?_
    refine CWP.cond (t := j32) (by kernel_rfl) e38 (fun hb64 => ?_) (fun hb64 => ?_)
    ·have h65 := cond_t h40 hb64
     refine Sq (Rg [0] ?_)
     refine V 6 4 (mc (.bool true) (.bool true)) ?_
     refine Nt ?_
     refine CWP.ret (by kernel_rfl) ?_
     refine blockQ_ret ?_
     refine thenQ_ret ?_
     refine thenQ_ret ?_
     refine blockQ_ret ?_
     have hret := iter_ret h65 hnx26
     subst hret
     refine .inr ?_
     refine thenQ_ret ?_
     have hfin := some_inj h6
     subst hfin
     exact ⟨e33, (.bool true), res_of (l := [.tmp 6]) (by kernel_rfl) (vs := [(.bool true)]) ⟨rfl, trivial⟩, (.bool true), F3, rfl, hs30.clear, rfl⟩
    ·have h66 := cond_f h40 hb64
     refine Sc ?_
     refine blockQ_nrm ?_
     refine thenQ_nrm ?_
     refine Rg [0, 1, 2] ?_
     refine V 13 3 (mv 7 (vi s7) e37) ?_
     refine V 14 3 (run_add (t := 3) (t' := 3) (x := (.tmp 13)) (y := (.const (vi 1))) (k := .i64) (a := s7) (b := 1) rfl rfl) ?_
     refine V 7 3 (ma 14 (vi (W64 (s7 + 1)))) ?_
     refine RWP.nil ?_
     have hn67 := iter_next h66 hnx26
     exact ⟨m23, Nat.lt_succ_self _, (W64 (s7 + 1)), F3, hn67, hs30, (le10.trans le31), e33, e34, e35, e36, rfl⟩
  ·have h68 := cond_f hb25 hb27
   refine CWP.exit (by kernel_rfl) ?_
   refine thenQ_ex ?_
   refine thenQ_ex ?_
   refine blockQ_hit rfl ?_
   have hs69 : HS w0 F0 w8 F1 [] := hs9.drop 0
   have ho70 := iter_done h68 hnx26
   exact .inl ⟨rfl, s7, F1, ho70, hs69, le10, e11⟩
 ·rintro f w17 ⟨s16, F2, rfl, hs18, le19, e20⟩
  have h71 := k_done h6
  refine thenQ_nrm ?_
  refine Sq (Rg [0] ?_)
  refine V 6 4 (mc (.bool false) (.bool false)) ?_
  refine Nt ?_
  refine CWP.ret (by kernel_rfl) ?_
  have hfin := some_inj h71
  subst hfin
  exact ⟨e20, (.bool false), res_of (l := [.tmp 6]) (by kernel_rfl) (vs := [(.bool false)]) ⟨rfl, trivial⟩, (.bool false), F2, rfl, hs18.clear, rfl⟩
end Go.Proofs.Ythbcnabeabcmlaa
namespace Go.Proofs.Ythbcnabeabcmlaa
open Go.Proofs
def ref03_bounds_L1 (N : Nat) (x0 : System) (s9 : (List Bound × Int)) (x32 : Track) : (List Bound × Int) → Option (Flow (List Bound) (List Bound × Int)) := fun s54 =>
 (bif (decide (s54.2 < (x32.Times.length : Int))) then (((idx x32.Times s54.2).bind fun x100 => ((ref03_Beginning N ).bind fun r114 => ((apnd s54.1 [({ From := r114, To := ({ Log := s9.2, Line := s54.2 } : Ref), Most := (W64 (x100 + x32.Clock.Slip)), Kind := 1, ID := s54.2 } : Bound)]).bind fun r127 => some r127))).bind fun j90 => (((idx x32.Times s54.2).bind fun x151 => ((ref03_Beginning N ).bind fun r165 => ((apnd j90 [({ From := ({ Log := s9.2, Line := s54.2 } : Ref), To := r165, Most := (W64 (x32.Clock.Slip - x151)), Kind := 1, ID := s54.2 } : Bound)]).bind fun r178 => some r178))).bind fun j142 => some (.next (j142, (W64 (s54.2 + 1)))))) else some (.done (s54.1, s54.2)))
def ref03_bounds_L0 (N : Nat) (x0 : System) : (List Bound × Int) → Option (Flow (List Bound) (List Bound × Int)) := fun s9 =>
 (bif (decide (s9.2 < (x0.Tracks.length : Int))) then ((idx x0.Tracks s9.2).bind fun x32 => ((iter (ref03_bounds_L1 N x0 s9 x32) N (s9.1, 0)).bind fun o => o.k (fun r => some (.ret r)) (fun s64 => some (.next (s64.1, (W64 (s9.2 + 1))))))) else some (.done (s9.1, s9.2)))
def ref03_bounds_L3 (N : Nat) (x0 : System) (s17 : (List Bound × Int)) (s201 : (List Bound × Int)) (x224 : Track) : (List Bound × Int) → Option (Flow (List Bound) (List Bound × Int)) := fun s246 =>
 (bif (decide ((W64 (s246.2 + 1)) < (x224.Times.length : Int))) then ((apnd s246.1 [({ From := ({ Log := s201.2, Line := (W64 (s246.2 + 1)) } : Ref), To := ({ Log := s201.2, Line := s246.2 } : Ref), Most := 0, Kind := 2, ID := s246.2 } : Bound)]).bind fun r287 => (((idx x224.Times s246.2).bind fun x313 => ((idx x224.Times (W64 (s246.2 + 1))).bind fun x327 => ((ref03_jumped N x224.Clock x313 x327).bind fun r333 => some r333))).bind fun j301 => (bif j301 then some (.next (r287, (W64 (s246.2 + 1)))) else (((idx x224.Times (W64 (s246.2 + 1))).bind fun x365 => ((idx x224.Times s246.2).bind fun x379 => some (W64 (x365 - x379)))).bind fun j353 => ((apnd r287 [({ From := ({ Log := s201.2, Line := s246.2 } : Ref), To := ({ Log := s201.2, Line := (W64 (s246.2 + 1)) } : Ref), Most := (W64 (j353 + (W64 (1 + (W64 (Int.tdiv (W64 ((W64 (x224.Clock.Drift * j353)) + 999)) 1000)))))), Kind := 3, ID := s246.2 } : Bound)]).bind fun r390 => ((apnd r390 [({ From := ({ Log := s201.2, Line := (W64 (s246.2 + 1)) } : Ref), To := ({ Log := s201.2, Line := s246.2 } : Ref), Most := (W64 ((W64 (1 + (W64 (Int.tdiv (W64 ((W64 (x224.Clock.Drift * j353)) + 999)) 1000)))) - j353)), Kind := 3, ID := s246.2 } : Bound)]).bind fun r404 => some (.next (r404, (W64 (s246.2 + 1)))))))))) else some (.done (s246.1, s246.2)))
def ref03_bounds_L2 (N : Nat) (x0 : System) (s17 : (List Bound × Int)) : (List Bound × Int) → Option (Flow (List Bound) (List Bound × Int)) := fun s201 =>
 (bif (decide (s201.2 < (x0.Tracks.length : Int))) then ((idx x0.Tracks s201.2).bind fun x224 => ((iter (ref03_bounds_L3 N x0 s17 s201 x224) N (s201.1, 0)).bind fun o => o.k (fun r => some (.ret r)) (fun s256 => some (.next (s256.1, (W64 (s201.2 + 1))))))) else some (.done (s201.1, s201.2)))
def ref03_bounds_L4 (N : Nat) (x0 : System) (s17 : (List Bound × Int)) (s209 : (List Bound × Int)) : (List Bound × Int) → Option (Flow (List Bound) (List Bound × Int)) := fun s429 =>
 (bif (decide (s429.2 < (x0.Ties.length : Int))) then ((idx x0.Ties s429.2).bind fun x451 => ((apnd s429.1 [({ From := x451.A, To := x451.B, Most := x0.Window, Kind := 4, ID := s429.2 } : Bound)]).bind fun r475 => ((apnd r475 [({ From := x451.B, To := x451.A, Most := x0.Window, Kind := 4, ID := s429.2 } : Bound)]).bind fun r489 => some (.next (r489, (W64 (s429.2 + 1))))))) else some (.done (s429.1, s429.2)))
def ref03_bounds (N : Nat) (x0 : System) : Option (List Bound) :=
 ((iter (ref03_bounds_L0 N x0) N (([] : List Bound), 0)).bind fun o => o.k (fun r => some r) (fun s17 => ((iter (ref03_bounds_L2 N x0 s17) N (s17.1, 0)).bind fun o => o.k (fun r => some r) (fun s209 => ((iter (ref03_bounds_L4 N x0 s17 s209) N (s209.1, 0)).bind fun o => o.k (fun r => some r) (fun s437 => some s437.1))))))
theorem co_ref03_bounds : CallOk Try.prog 84 := fun _ _ => by kernel_rfl
set_option maxHeartbeats 4000000 in
set_option maxRecDepth 100000 in
theorem c_ref03_bounds (N : Nat) (w0 : World) (F0 : Mem) (hF : ∀ b o, F0 b = some o → w0.heap[b]? = some o) (x0 : System) (a0_0 : Option Addr) (n0_0 : Nat) (hb0_0 : LC x0.Tracks.length n0_0) (hs0_0 : SlA tTrack F0 a0_0 x0.Tracks) (a0_1 : Option Addr) (n0_1 : Nat) (hb0_1 : LC x0.Ties.length n0_1) (hs0_1 : SlA tTie F0 a0_1 x0.Ties) (r : (List Bound)) (h : ref03_bounds N x0 = some r) :
  Calls Try.prog 84 ([(.agg (kSystem x0 a0_0 n0_0 a0_1 n0_1))] : List Value).toArray w0 (FRet w0 F0 fun F' v => ∃ (aq0_0 : Option Addr) (nq0_0 : Nat), v = (.slice aq0_0 r.length nq0_0) ∧ LC r.length nq0_0 ∧ SlA tBound F' aq0_0 r) := by
 have hs0 := HS.start hF
 refine calls_of (n := 194) (c := bodyOf Try.f84) Try.func84 (by kernel_rfl) (by kernel_rfl) (by kernel_rfl) ?_
 refine Sq (Rg [0, 1] ?_)
 refine Bx 1 0 0 25 (kSystem x0 a0_0 n0_0 a0_1 n0_1) hs0 (fun b1 w2 (hs3 : HS w0 F0 w2 F0 [(sb b1 (kSystem x0 a0_0 n0_0 a0_1 n0_1) 25)]) => ?_)
 refine V 2 57 (mc (.slice none 0 0) (.slice none ([] : List Bound).length 0)) ?_
 refine Nss (Rg [0] ?_)
 refine V 3 57 (mc (.slice none 0 0) (.slice none ([] : List Bound).length 0)) ?_
 refine Nss ?_
 refine Sq (Rg [0] ?_)
 refine V 4 3 (mc (vi 0) (vi 0)) ?_
 refine Nt ?_
 have hs4 : HS w0 F0 w2 F0 [(none, .cells #[] 0 (0, 0)), (sb b1 (kSystem x0 a0_0 n0_0 a0_1 n0_1) 25)] := hs3.dummy _
 obtain ⟨o6, ho7, h8⟩ := bind_some h
 refine CWP.cut (fun f w => ∃ (s17 : (List Bound × Int)) (F2 : Mem) (as17_0 : Option Addr) (ns17_0 : Nat) (es17_0 : Option Nat × Obj), o6 = .done s17 ∧ HS w0 F0 w F2 [es17_0, (sb b1 (kSystem x0 a0_0 n0_0 a0_1 n0_1) 25)] ∧ Mem.le F0 F2 ∧ f.d = [] ∧ f 1 = (.pointer (some ⟨b1, 0, none⟩)) ∧ f 3 = (.slice as17_0 s17.1.length ns17_0) ∧ RowR tBound 103 F2 as17_0 ns17_0 s17.1 es17_0) ?_ ?_
 ·refine Bk ?_
  refine CWP.loop (by kernel_rfl) (fun m f w => ∃ (s9 : (List Bound × Int)) (F1 : Mem) (as9_0 : Option Addr) (ns9_0 : Nat) (es9_0 : Option Nat × Obj), iter (ref03_bounds_L0 N x0) m s9 = some o6 ∧ HS w0 F0 w F1 [es9_0, (sb b1 (kSystem x0 a0_0 n0_0 a0_1 n0_1) 25)] ∧ Mem.le F0 F1 ∧ f.d = [] ∧ f 1 = (.pointer (some ⟨b1, 0, none⟩)) ∧ f 3 = (.slice as9_0 s9.1.length ns9_0) ∧ f 4 = (vi s9.2) ∧ RowR tBound 103 F1 as9_0 ns9_0 s9.1 es9_0) N ⟨(([] : List Bound), 0), F0, none, 0, (none, .cells #[] 0 (0, 0)), ho7, hs4, (Mem.le.refl _), rfl, rfl, rfl, rfl, (RowR.nil tBound 103 F0 _)⟩ ?_
  rintro m24 f w10 ⟨s9, F1, as9_0, ns9_0, es9_0, hit25, hs11, le12, e13, e14, e15, e16, hrs9_0⟩
  obtain ⟨m26, fl27, rfl, hb28, hnx29⟩ := iter_step hit25
  refine Sq ?_
  refine Sq (Rg [0, 1, 2, 3, 4] ?_)
  refine V 17 3 (mv 4 (vi s9.2) e16) ?_
  refine V 18 0 (fa 25 1 0 0 1 b1 0 0 e14) ?_
  refine V 19 22 (ld 22 18 b1 0 false 1 (.slice a0_0 x0.Tracks.length n0_0) (hs11.ownAt (k := 1) rfl)) ?_
  refine V 20 3 (ln 19 22 a0_0 x0.Tracks.length n0_0 54 4 64) ?_
  refine V 21 4 (run_lss (t := 3) (t' := 3) (x := (.tmp 17)) (y := (.tmp 20)) (k := .i64) (a := s9.2) (b := (x0.Tracks.length : Int)) rfl rfl) ?_
  refine Nt ?_
  refine CWP.cond (t := (decide (s9.2 < (x0.Tracks.length : Int)))) (by kernel_rfl) rfl (fun hb30 => ?_) (fun hb30 => ?_)
  ·have h31 := cond_t hb28 hb30
   refine Sc ?_
   refine thenQ_nrm ?_
   refine Sq ?_
   refine Bk ?_
   refine Sq (Rg [0, 1, 2, 3, 4, 5, 6] ?_)
   refine V 24 0 (fa 25 1 0 0 1 b1 0 0 e14) ?_
   refine V 25 22 (ld 22 24 b1 0 false 1 (.slice a0_0 x0.Tracks.length n0_0) (hs11.ownAt (k := 1) rfl)) ?_
   refine V 26 3 (mv 4 (vi s9.2) e16) ?_
   obtain ⟨x32, hx33, h35⟩ := bind_some h31
   obtain ⟨hi34, hx33'⟩ := idx_spec hx33
   obtain ⟨b36, o37, C38, E39, fz40, rfl, hF42, hE43⟩ := SlA.open (SlA.mono hs0_0 le12) hx33'
   obtain ⟨ae44_2, ne44_2, ae44_3, ne44_3, hc45, hbe44_2, hse44_2, hbe44_3, hse44_3⟩ := hE43 _ _ hx33'
   refine V 27 0 (ix 22 25 26 b36 o37 54 4 64 hi34) ?_
   refine V 28 54 (lx 54 27 0 4 true 4 (.agg (kTrack x32 ae44_2 ne44_2 ae44_3 ne44_3)) (hs11.pers _ _ hF42) hc45) ?_
   refine Al 5 0 54 #[(vi 0), (vi 0), (.slice none ([] : List Int).length 0), (.slice none ([] : List Int).length 0)] hs11 (fun b46 w47 (hs48 : HS w0 F0 w47 F1 [(sb b46 #[(vi 0), (vi 0), (.slice none ([] : List Int).length 0), (.slice none ([] : List Int).length 0)] 54), es9_0, (sb b1 (kSystem x0 (some ⟨b36, o37, none⟩) n0_0 a0_1 n0_1) 25)]) => ?_)
   refine RWP.store (ty := 0) (g := none) (by kernel_rfl) rfl (x := (.tmp 5)) (y := (.tmp 28)) (t := 54) (gg := true) (s := 4) (v := (.agg (kTrack x32 ae44_2 ne44_2 ae44_3 ne44_3))) (b := b46) (o := 0) (C := #[(vi 0), (vi 0), (.slice none ([] : List Int).length 0), (.slice none ([] : List Int).length 0)]) rfl rfl (by kernel_rfl) hs48 (k := 0) rfl rfl rfl rfl (C' := (kTrack x32 ae44_2 ne44_2 ae44_3 ne44_3)) rfl (fun w49 (hs50 : HS w0 F0 w49 F1 [(sb b46 (kTrack x32 ae44_2 ne44_2 ae44_3 ne44_3) 54), es9_0, (sb b1 (kSystem x0 (some ⟨b36, o37, none⟩) n0_0 a0_1 n0_1) 25)]) => ?_)
   refine Nss (Rg [0] ?_)
   refine V 6 3 (mc (vi 0) (vi 0)) ?_
   refine Nt ?_
   obtain ⟨o51, ho52, h53⟩ := bind_some h35
   refine CWP.cut (fun f w => ∃ (s64 : (List Bound × Int)) (F4 : Mem) (as64_0 : Option Addr) (ns64_0 : Nat) (es64_0 : Option Nat × Obj), o51 = .done s64 ∧ HS w0 F0 w F4 [es64_0, (sb b1 (kSystem x0 (some ⟨b36, o37, none⟩) n0_0 a0_1 n0_1) 25)] ∧ Mem.le F1 F4 ∧ f.d = [] ∧ f 1 = (.pointer (some ⟨b1, 0, none⟩)) ∧ f 3 = (.slice as64_0 s64.1.length ns64_0) ∧ f 4 = (vi s9.2) ∧ RowR tBound 103 F4 as64_0 ns64_0 s64.1 es64_0) ?_ ?_
   ·refine Bk ?_
    refine CWP.loop (by kernel_rfl) (fun m f w => ∃ (s54 : (List Bound × Int)) (F3 : Mem) (as54_0 : Option Addr) (ns54_0 : Nat) (es54_0 : Option Nat × Obj), iter (ref03_bounds_L1 N x0 s9 x32) m s54 = some o51 ∧ HS w0 F0 w F3 [(sb b46 (kTrack x32 ae44_2 ne44_2 ae44_3 ne44_3) 54), es54_0, (sb b1 (kSystem x0 (some ⟨b36, o37, none⟩) n0_0 a0_1 n0_1) 25)] ∧ Mem.le F1 F3 ∧ f.d = [] ∧ f 1 = (.pointer (some ⟨b1, 0, none⟩)) ∧ f 3 = (.slice as54_0 s54.1.length ns54_0) ∧ f 4 = (vi s9.2) ∧ f 5 = (.pointer (some ⟨b46, 0, none⟩)) ∧ f 6 = (vi s54.2) ∧ RowR tBound 103 F3 as54_0 ns54_0 s54.1 es54_0) N ⟨(s9.1, 0), F1, as9_0, ns9_0, es9_0, ho52, hs50, (Mem.le.refl _), e13, e14, e15, e16, rfl, rfl, hrs9_0⟩ ?_
    rintro m72 f w55 ⟨s54, F3, as54_0, ns54_0, es54_0, hit73, hs56, le57, e58, e59, e60, e61, e62, e63, hrs54_0⟩
    obtain ⟨m74, fl75, rfl, hb76, hnx77⟩ := iter_step hit73
    refine Sq ?_
    refine Sq (Rg [0, 1, 2, 3, 4] ?_)
    refine V 29 3 (mv 6 (vi s54.2) e63) ?_
    refine V 30 0 (fa 54 5 1 3 1 b46 0 3 e62) ?_
    refine V 31 50 (ld 50 30 b46 3 false 1 (.slice ae44_3 x32.Times.length ne44_3) (hs56.ownAt (k := 0) rfl)) ?_
    refine V 32 3 (ln 31 50 ae44_3 x32.Times.length ne44_3 3 1 8) ?_
    refine V 33 4 (run_lss (t := 3) (t' := 3) (x := (.tmp 29)) (y := (.tmp 32)) (k := .i64) (a := s54.2) (b := (x32.Times.length : Int)) rfl rfl) ?_
    refine Nt ?_
    refine CWP.cond (t := (decide (s54.2 < (x32.Times.length : Int)))) (by kernel_rfl) rfl (fun hb78 => ?_) (fun hb78 => ?_)
    ·have h79 := cond_t hb76 hb78
     refine Sc ?_
     refine thenQ_nrm ?_
     refine Sq ?_
     refine Bk ?_
     refine Sq (Rg [0, 1, 2, 3, 4] ?_)
     refine V 36 3 (mv 4 (vi s9.2) e61) ?_
     refine V 37 3 (mv 6 (vi s54.2) e63) ?_
     refine V 38 27 (run_build2 (t := 27) (parts := #[(0, (.tmp 36)), (1, (.tmp 37))]) (vs := [(0, (vi s9.2)), (1, (vi s54.2))]) (rfl) (cs := [(vi s9.2), (vi s54.2)]) (by kernel_rfl)) ?_
     refine Al 7 0 27 #[(vi 0), (vi 0)] hs56 (fun b80 w81 (hs82 : HS w0 F0 w81 F3 [(sb b80 #[(vi 0), (vi 0)] 27), (sb b46 (kTrack x32 ae44_2 ne44_2 ae44_3 ne44_3) 54), es54_0, (sb b1 (kSystem x0 (some ⟨b36, o37, none⟩) n0_0 a0_1 n0_1) 25)]) => ?_)
     refine RWP.store (ty := 0) (g := none) (by kernel_rfl) rfl (x := (.tmp 7)) (y := (.tmp 38)) (t := 27) (gg := true) (s := 2) (v := (.agg #[(vi s9.2), (vi s54.2)])) (b := b80) (o := 0) (C := #[(vi 0), (vi 0)]) rfl rfl (by kernel_rfl) hs82 (k := 0) rfl rfl rfl rfl (C' := #[(vi s9.2), (vi s54.2)]) rfl (fun w83 (hs84 : HS w0 F0 w83 F3 [(sb b80 #[(vi s9.2), (vi s54.2)] 27), (sb b46 (kTrack x32 ae44_2 ne44_2 ae44_3 ne44_3) 54), es54_0, (sb b1 (kSystem x0 (some ⟨b36, o37, none⟩) n0_0 a0_1 n0_1) 25)]) => ?_)
     refine Nss ?_
     obtain ⟨j90, hj98, h99⟩ := bind_some h79
     refine CWP.regionD (by kernel_rfl) (by kernel_rfl) (by kernel_rfl) (by kernel_rfl) (z := 17) (F := F3) (Lc := [(sb b80 #[(vi s9.2), (vi s54.2)] 27), (sb b46 (kTrack x32 ae44_2 ne44_2 ae44_3 ne44_3) 54), (sb b1 (kSystem x0 (some ⟨b36, o37, none⟩) n0_0 a0_1 n0_1) 25)]) (Lz := []) (l := [false, false, false, false, false, false, false, false, false, false, false, false, false, false, false, false, false]) (fuel := 17) (by kernel_rfl) (by kernel_rfl) hs84 (by simp) (by simp) (fun f w => ∃ (F5 : Mem) (aj90_0 : Option Addr) (nj90_0 : Nat) (ej90_0 : Option Nat × Obj), HS w0 F0 w F5 [(sb b80 #[(vi s9.2), (vi s54.2)] 27), (sb b46 (kTrack x32 ae44_2 ne44_2 ae44_3 ne44_3) 54), ej90_0, (sb b1 (kSystem x0 (some ⟨b36, o37, none⟩) n0_0 a0_1 n0_1) 25)] ∧ Mem.le F3 F5 ∧ f.d = [] ∧ f 1 = (.pointer (some ⟨b1, 0, none⟩)) ∧ f 3 = (.slice aj90_0 j90.length nj90_0) ∧ f 4 = (vi s9.2) ∧ f 5 = (.pointer (some ⟨b46, 0, none⟩)) ∧ f 6 = (vi s54.2) ∧ f 7 = (.pointer (some ⟨b80, 0, none⟩)) ∧ RowR tBound 103 F5 aj90_0 nj90_0 j90 ej90_0) (fun wd85 hw86 => ?_) ?_
     ·refine Dt 0 39 57 _ (fun _ hq => mv 3 (.slice as54_0 s54.1.length ns54_0) e60) ?_
      refine Dt 2 41 27 _ (fun _ hq => ld 27 7 b80 0 true 2 (.agg #[(vi s9.2), (vi s54.2)]) (hq.1.2 0 _ _ rfl)) ?_
      refine Dt 3 42 0 (.pointer (some ⟨b46, 3, none⟩)) (fun _ hq => fa 54 5 1 3 1 b46 0 3 e62) ?_
      refine Dt 4 43 50 _ (fun _ hq => ld 50 42 b46 3 false 1 (.slice ae44_3 x32.Times.length ne44_3) (hq.1.2 1 _ _ rfl)) ?_
      refine Dt 5 44 3 _ (fun _ hq => mv 6 (vi s54.2) e63) ?_
      obtain ⟨x100, hx101, h103⟩ := bind_some hj98
      obtain ⟨hi102, hx101'⟩ := idx_spec hx101
      obtain ⟨b104, o105, C106, E107, fz108, rfl, hF110, hE111⟩ := SlA.open (SlA.mono hse44_3 le57) hx101'
      have hc113 := hE111 _ _ hx101'
      refine Dt 6 45 0 (.pointer (some ⟨b104, (o105 + (s54.2 : Int).toNat * 1), none⟩)) (fun _ hq => ix 50 43 44 b104 o105 3 1 8 hi102) ?_
      refine Dt 7 46 3 _ (fun _ hq => lx 3 45 0 1 false 1 (vi x100) (hq.1.1 _ _ hF110) hc113) ?_
      refine Dt 8 47 0 (.pointer (some ⟨b46, 0, none⟩)) (fun _ hq => fa 54 5 0 0 3 b46 0 0 e62) ?_
      refine Dt 9 48 0 (.pointer (some ⟨b46, 0, none⟩)) (fun _ hq => fa 52 47 0 0 1 b46 0 0) ?_
      refine Dt 10 49 3 _ (fun _ hq => ld 3 48 b46 0 false 1 (vi x32.Clock.Slip) (hq.1.2 1 _ _ rfl)) ?_
      refine Dt 11 50 3 (vi (W64 (x100 + x32.Clock.Slip))) (fun _ hq => run_add (t := 3) (t' := 3) (x := (.tmp 46)) (y := (.tmp 49)) (k := .i64) (a := x100) (b := x32.Clock.Slip) rfl rfl) ?_
      refine Dt 12 51 3 _ (fun _ hq => mv 6 (vi s54.2) e63) ?_
      refine DWP.one (i := 1) (by kernel_rfl) ?_
      obtain ⟨r114, hr115, h116⟩ := bind_some h103
      refine DStep.call (l' := [true, true, true, true, true, true, true, true, true, true, true, true, true, false, false, false, false]) (zd := true) (by kernel_rfl) (by kernel_rfl) (by kernel_rfl) (dst := (some 40)) (ty := 27) (g := none) (by kernel_rfl) rfl (f0 := (.func 109)) (aos := #[]) (ats := #[]) (fid := 109) (first := #[]) (cap := #[]) (args := []) rfl co_ref03_Beginning (rfl) hw86 (c_ref03_Beginning N wd85 F3 hw86.pers  _ hr115) ?_
      intro v117 F6 w118 hs119 le120 hp121
      obtain rfl := hp121
      refine Dt 13 52 103 (.agg #[(vi r114.Log), (vi r114.Line), (vi s9.2), (vi s54.2), (vi (W64 (x100 + x32.Clock.Slip))), (vi 1), (vi s54.2)]) (fun _ hq => run_build2 (t := 103) (parts := #[(0, (.tmp 40)), (1, (.tmp 41)), (2, (.tmp 50)), (3, (.const (vi 1))), (4, (.tmp 51))]) (vs := [(0, (.agg (kRef r114))), (1, (.agg #[(vi s9.2), (vi s54.2)])), (2, (vi (W64 (x100 + x32.Clock.Slip)))), (3, (vi 1)), (4, (vi s54.2))]) (rfl) (cs := [(vi r114.Log), (vi r114.Line), (vi s9.2), (vi s54.2), (vi (W64 (x100 + x32.Clock.Slip))), (vi 1), (vi s54.2)]) (by kernel_rfl)) ?_
      refine DWP.one (i := 14) (by kernel_rfl) ?_
      refine DStep.buildSlice (l' := [true, true, true, true, true, true, true, true, true, true, true, true, true, true, true, false, false]) (zd := true) (by kernel_rfl) (by kernel_rfl) (dst := (some 53)) (ty := 57) (g := none) (by kernel_rfl) rfl (t := 57) (len := 1) (parts := #[(0, (.tmp 52))]) (vs := [(0, (.agg #[(vi r114.Log), (vi r114.Line), (vi s9.2), (vi s54.2), (vi (W64 (x100 + x32.Clock.Slip))), (vi 1), (vi s54.2)]))]) (rfl) (E := 103) (cs := [(vi r114.Log), (vi r114.Line), (vi s9.2), (vi s54.2), (vi (W64 (x100 + x32.Clock.Slip))), (vi 1), (vi s54.2)]) (by kernel_rfl) hs119 le120 (by simp) (fun e => by cases e) (fun b122 w123 (hs124 : HS w0 F0 w123 F6 [(some b122, .cells ([(vi r114.Log), (vi r114.Line), (vi s9.2), (vi s54.2), (vi (W64 (x100 + x32.Clock.Slip))), (vi 1), (vi s54.2)] : List Value).toArray 103 (0, 0)), (sb b80 #[(vi s9.2), (vi s54.2)] 27), (sb b46 (kTrack x32 ae44_2 ne44_2 (some ⟨b104, o105, none⟩) ne44_3) 54), es54_0, (sb b1 (kSystem x0 (some ⟨b36, o37, none⟩) n0_0 a0_1 n0_1) 25)]) => ?_)
      have hr126 : RowR tBound 103 F6 (some ⟨b122, 0, none⟩) 1 [({ From := r114, To := ({ Log := s9.2, Line := s54.2 } : Ref), Most := (W64 (x100 + x32.Clock.Slip)), Kind := 1, ID := s54.2 } : Bound)] (some b122, .cells ([(vi r114.Log), (vi r114.Line), (vi s9.2), (vi s54.2), (vi (W64 (x100 + x32.Clock.Slip))), (vi 1), (vi s54.2)] : List Value).toArray 103 (0, 0)) := RowR.lit ⟨rfl, rfl⟩ (by simp)
      refine DWP.one (i := 15) (by kernel_rfl) ?_
      obtain ⟨r127, hap128, h129⟩ := bind_some h116
      refine DStep.append (l' := [true, true, true, true, true, true, true, true, true, true, true, true, true, true, true, true, false]) (zd := true) (by kernel_rfl) (by kernel_rfl) (dst := (some 54)) (ty := 57) (g := none) (by kernel_rfl) rfl (x := (.tmp 39)) (y := (.tmp 53)) (t := 57) (t2 := 57) (by_ := 56) (z := (.agg #[(vi 0), (vi 0), (vi 0), (vi 0), (vi 0), (vi 0), (vi 0)])) (a2 := (some ⟨b122, 0, none⟩)) (c2 := 1) (m := [({ From := r114, To := ({ Log := s9.2, Line := s54.2 } : Ref), Most := (W64 (x100 + x32.Clock.Slip)), Kind := 1, ID := s54.2 } : Bound)]) (T := tBound) (E := 103) (a := as54_0) (cap := ns54_0) (l := s54.1) rfl rfl (by kernel_rfl) (by decide) (by kernel_rfl) (by kernel_rfl) rfl oBound hs124 (k := 3) rfl (hrs54_0.mono le120) (RowR.rd hs124 (k := 0) rfl hr126) (r := r127) hap128 le120 (fun _ => by simp) (fun e => by cases e) (fun a130 n131 e132 w133 (hs134 : HS w0 F0 w133 F6 [(some b122, .cells ([(vi r114.Log), (vi r114.Line), (vi s9.2), (vi s54.2), (vi (W64 (x100 + x32.Clock.Slip))), (vi 1), (vi s54.2)] : List Value).toArray 103 (0, 0)), (sb b80 #[(vi s9.2), (vi s54.2)] 27), (sb b46 (kTrack x32 ae44_2 ne44_2 (some ⟨b104, o105, none⟩) ne44_3) 54), e132, (sb b1 (kSystem x0 (some ⟨b36, o37, none⟩) n0_0 a0_1 n0_1) 25)]) hr135 => ?_)
      refine Dt 16 3 57 _ (fun _ hq => ma 54 (.slice a130 r127.length n131)) ?_
      obtain rfl := some_inj h129
      have hs136 : HS w0 F0 w133 F6 [(sb b80 #[(vi s9.2), (vi s54.2)] 27), (sb b46 (kTrack x32 ae44_2 ne44_2 (some ⟨b104, o105, none⟩) ne44_3) 54), e132, (sb b1 (kSystem x0 (some ⟨b36, o37, none⟩) n0_0 a0_1 n0_1) 25)] := hs134.drop 0
      exact DWP.done (by kernel_rfl) ⟨F6, a130, n131, e132, hs136, le120, e58, e59, rfl, e61, e62, e63, rfl, hr135⟩
     ·rintro f w87 ⟨F5, aj90_0, nj90_0, ej90_0, hs88, le89, e91, e92, e93, e94, e95, e96, e97, hrj90_0⟩
      refine thenQ_nrm ?_
      obtain ⟨j142, hj149, h150⟩ := bind_some h99
      refine CWP.regionD (by kernel_rfl) (by kernel_rfl) (by kernel_rfl) (by kernel_rfl) (z := 17) (F := F5) (Lc := [(sb b80 #[(vi s9.2), (vi s54.2)] 27), (sb b46 (kTrack x32 ae44_2 ne44_2 ae44_3 ne44_3) 54), (sb b1 (kSystem x0 (some ⟨b36, o37, none⟩) n0_0 a0_1 n0_1) 25)]) (Lz := []) (l := [false, false, false, false, false, false, false, false, false, false, false, false, false, false, false, false, false]) (fuel := 17) (by kernel_rfl) (by kernel_rfl) hs88 (by simp) (by simp) (fun f w => ∃ (F7 : Mem) (aj142_0 : Option Addr) (nj142_0 : Nat) (ej142_0 : Option Nat × Obj), HS w0 F0 w F7 [(sb b46 (kTrack x32 ae44_2 ne44_2 ae44_3 ne44_3) 54), ej142_0, (sb b1 (kSystem x0 (some ⟨b36, o37, none⟩) n0_0 a0_1 n0_1) 25)] ∧ Mem.le F5 F7 ∧ f.d = [] ∧ f 1 = (.pointer (some ⟨b1, 0, none⟩)) ∧ f 3 = (.slice aj142_0 j142.length nj142_0) ∧ f 4 = (vi s9.2) ∧ f 5 = (.pointer (some ⟨b46, 0, none⟩)) ∧ f 6 = (vi s54.2) ∧ RowR tBound 103 F7 aj142_0 nj142_0 j142 ej142_0) (fun wd137 hw138 => ?_) ?_
      ·refine Dt 0 55 57 _ (fun _ hq => mv 3 (.slice aj90_0 j90.length nj90_0) e93) ?_
       refine Dt 1 56 27 _ (fun _ hq => ld 27 7 b80 0 true 2 (.agg #[(vi s9.2), (vi s54.2)]) (hq.1.2 0 _ _ rfl) e97) ?_
       refine Dt 3 58 0 (.pointer (some ⟨b46, 0, none⟩)) (fun _ hq => fa 54 5 0 0 3 b46 0 0 e95) ?_
       refine Dt 4 59 0 (.pointer (some ⟨b46, 0, none⟩)) (fun _ hq => fa 52 58 0 0 1 b46 0 0) ?_
       refine Dt 5 60 3 _ (fun _ hq => ld 3 59 b46 0 false 1 (vi x32.Clock.Slip) (hq.1.2 1 _ _ rfl)) ?_
       refine Dt 6 61 0 (.pointer (some ⟨b46, 3, none⟩)) (fun _ hq => fa 54 5 1 3 1 b46 0 3 e95) ?_
       refine Dt 7 62 50 _ (fun _ hq => ld 50 61 b46 3 false 1 (.slice ae44_3 x32.Times.length ne44_3) (hq.1.2 1 _ _ rfl)) ?_
       refine Dt 8 63 3 _ (fun _ hq => mv 6 (vi s54.2) e96) ?_
       obtain ⟨x151, hx152, h154⟩ := bind_some hj149
       obtain ⟨hi153, hx152'⟩ := idx_spec hx152
       obtain ⟨b155, o156, C157, E158, fz159, rfl, hF161, hE162⟩ := SlA.open (SlA.mono hse44_3 (le57.trans le89)) hx152'
       have hc164 := hE162 _ _ hx152'
       refine Dt 9 64 0 (.pointer (some ⟨b155, (o156 + (s54.2 : Int).toNat * 1), none⟩)) (fun _ hq => ix 50 62 63 b155 o156 3 1 8 hi153) ?_
       refine Dt 10 65 3 _ (fun _ hq => lx 3 64 0 1 false 1 (vi x151) (hq.1.1 _ _ hF161) hc164) ?_
       refine Dt 11 66 3 (vi (W64 (x32.Clock.Slip - x151))) (fun _ hq => run_sub (t := 3) (t' := 3) (x := (.tmp 60)) (y := (.tmp 65)) (k := .i64) (a := x32.Clock.Slip) (b := x151) rfl rfl) ?_
       refine Dt 12 67 3 _ (fun _ hq => mv 6 (vi s54.2) e96) ?_
       refine DWP.one (i := 2) (by kernel_rfl) ?_
       obtain ⟨r165, hr166, h167⟩ := bind_some h154
       refine DStep.call (l' := [true, true, true, true, true, true, true, true, true, true, true, true, true, false, false, false, false]) (zd := true) (by kernel_rfl) (by kernel_rfl) (by kernel_rfl) (dst := (some 57)) (ty := 27) (g := none) (by kernel_rfl) rfl (f0 := (.func 109)) (aos := #[]) (ats := #[]) (fid := 109) (first := #[]) (cap := #[]) (args := []) rfl co_ref03_Beginning (rfl) hw138 (c_ref03_Beginning N wd137 F5 hw138.pers  _ hr166) ?_
       intro v168 F8 w169 hs170 le171 hp172
       obtain rfl := hp172
       refine Dt 13 68 103 (.agg #[(vi s9.2), (vi s54.2), (vi r165.Log), (vi r165.Line), (vi (W64 (x32.Clock.Slip - x151))), (vi 1), (vi s54.2)]) (fun _ hq => run_build2 (t := 103) (parts := #[(0, (.tmp 56)), (1, (.tmp 57)), (2, (.tmp 66)), (3, (.const (vi 1))), (4, (.tmp 67))]) (vs := [(0, (.agg #[(vi s9.2), (vi s54.2)])), (1, (.agg (kRef r165))), (2, (vi (W64 (x32.Clock.Slip - x151)))), (3, (vi 1)), (4, (vi s54.2))]) (rfl) (cs := [(vi s9.2), (vi s54.2), (vi r165.Log), (vi r165.Line), (vi (W64 (x32.Clock.Slip - x151))), (vi 1), (vi s54.2)]) (by kernel_rfl)) ?_
       refine DWP.one (i := 14) (by kernel_rfl) ?_
       refine DStep.buildSlice (l' := [true, true, true, true, true, true, true, true, true, true, true, true, true, true, true, false, false]) (zd := true) (by kernel_rfl) (by kernel_rfl) (dst := (some 69)) (ty := 57) (g := none) (by kernel_rfl) rfl (t := 57) (len := 1) (parts := #[(0, (.tmp 68))]) (vs := [(0, (.agg #[(vi s9.2), (vi s54.2), (vi r165.Log), (vi r165.Line), (vi (W64 (x32.Clock.Slip - x151))), (vi 1), (vi s54.2)]))]) (rfl) (E := 103) (cs := [(vi s9.2), (vi s54.2), (vi r165.Log), (vi r165.Line), (vi (W64 (x32.Clock.Slip - x151))), (vi 1), (vi s54.2)]) (by kernel_rfl) hs170 le171 (by simp) (fun e => by cases e) (fun b173 w174 (hs175 : HS w0 F0 w174 F8 [(some b173, .cells ([(vi s9.2), (vi s54.2), (vi r165.Log), (vi r165.Line), (vi (W64 (x32.Clock.Slip - x151))), (vi 1), (vi s54.2)] : List Value).toArray 103 (0, 0)), (sb b80 #[(vi s9.2), (vi s54.2)] 27), (sb b46 (kTrack x32 ae44_2 ne44_2 (some ⟨b155, o156, none⟩) ne44_3) 54), ej90_0, (sb b1 (kSystem x0 (some ⟨b36, o37, none⟩) n0_0 a0_1 n0_1) 25)]) => ?_)
       have hr177 : RowR tBound 103 F8 (some ⟨b173, 0, none⟩) 1 [({ From := ({ Log := s9.2, Line := s54.2 } : Ref), To := r165, Most := (W64 (x32.Clock.Slip - x151)), Kind := 1, ID := s54.2 } : Bound)] (some b173, .cells ([(vi s9.2), (vi s54.2), (vi r165.Log), (vi r165.Line), (vi (W64 (x32.Clock.Slip - x151))), (vi 1), (vi s54.2)] : List Value).toArray 103 (0, 0)) := RowR.lit ⟨rfl, rfl⟩ (by simp)
       refine DWP.one (i := 15) (by kernel_rfl) ?_
       obtain ⟨r178, hap179, h180⟩ := bind_some h167
       refine DStep.append (l' := [true, true, true, true, true, true, true, true, true, true, true, true, true, true, true, true, false]) (zd := true) (by kernel_rfl) (by kernel_rfl) (dst := (some 70)) (ty := 57) (g := none) (by kernel_rfl) rfl (x := (.tmp 55)) (y := (.tmp 69)) (t := 57) (t2 := 57) (by_ := 56) (z := (.agg #[(vi 0), (vi 0), (vi 0), (vi 0), (vi 0), (vi 0), (vi 0)])) (a2 := (some ⟨b173, 0, none⟩)) (c2 := 1) (m := [({ From := ({ Log := s9.2, Line := s54.2 } : Ref), To := r165, Most := (W64 (x32.Clock.Slip - x151)), Kind := 1, ID := s54.2 } : Bound)]) (T := tBound) (E := 103) (a := aj90_0) (cap := nj90_0) (l := j90) rfl rfl (by kernel_rfl) (by decide) (by kernel_rfl) (by kernel_rfl) rfl oBound hs175 (k := 3) rfl (hrj90_0.mono le171) (RowR.rd hs175 (k := 0) rfl hr177) (r := r178) hap179 le171 (fun _ => by simp) (fun e => by cases e) (fun a181 n182 e183 w184 (hs185 : HS w0 F0 w184 F8 [(some b173, .cells ([(vi s9.2), (vi s54.2), (vi r165.Log), (vi r165.Line), (vi (W64 (x32.Clock.Slip - x151))), (vi 1), (vi s54.2)] : List Value).toArray 103 (0, 0)), (sb b80 #[(vi s9.2), (vi s54.2)] 27), (sb b46 (kTrack x32 ae44_2 ne44_2 (some ⟨b155, o156, none⟩) ne44_3) 54), e183, (sb b1 (kSystem x0 (some ⟨b36, o37, none⟩) n0_0 a0_1 n0_1) 25)]) hr186 => ?_)
       refine Dt 16 3 57 _ (fun _ hq => ma 70 (.slice a181 r178.length n182)) ?_
       obtain rfl := some_inj h180
       have hs187 : HS w0 F0 w184 F8 [(sb b80 #[(vi s9.2), (vi s54.2)] 27), (sb b46 (kTrack x32 ae44_2 ne44_2 (some ⟨b155, o156, none⟩) ne44_3) 54), e183, (sb b1 (kSystem x0 (some ⟨b36, o37, none⟩) n0_0 a0_1 n0_1) 25)] := hs185.drop 0
       have hs188 : HS w0 F0 w184 F8 [(sb b46 (kTrack x32 ae44_2 ne44_2 (some ⟨b155, o156, none⟩) ne44_3) 54), e183, (sb b1 (kSystem x0 (some ⟨b36, o37, none⟩) n0_0 a0_1 n0_1) 25)] := hs187.drop 0
       exact DWP.done (by kernel_rfl) ⟨F8, a181, n182, e183, hs188, le171, e91, e92, rfl, e94, e95, e96, hr186⟩
      ·rintro f w139 ⟨F7, aj142_0, nj142_0, ej142_0, hs140, le141, e143, e144, e145, e146, e147, e148, hrj142_0⟩
       refine blockQ_nrm ?_
       refine thenQ_nrm ?_
       refine Rg [0, 1, 2] ?_
       refine V 34 3 (mv 6 (vi s54.2) e148) ?_
       refine V 35 3 (run_add (t := 3) (t' := 3) (x := (.tmp 34)) (y := (.const (vi 1))) (k := .i64) (a := s54.2) (b := 1) rfl rfl) ?_
       refine V 6 3 (ma 35 (vi (W64 (s54.2 + 1)))) ?_
       refine RWP.nil ?_
       have hn189 := iter_next h150 hnx77
       exact ⟨m74, Nat.lt_succ_self _, (j142, (W64 (s54.2 + 1))), F7, aj142_0, nj142_0, ej142_0, hn189, hs140, ((le57.trans le89).trans le141), e143, e144, e145, e146, e147, rfl, hrj142_0⟩
    ·have h190 := cond_f hb76 hb78
     refine CWP.exit (by kernel_rfl) ?_
     refine thenQ_ex ?_
     refine thenQ_ex ?_
     refine blockQ_hit rfl ?_
     have hs191 : HS w0 F0 w55 F3 [es54_0, (sb b1 (kSystem x0 (some ⟨b36, o37, none⟩) n0_0 a0_1 n0_1) 25)] := hs56.drop 0
     have ho192 := iter_done h190 hnx77
     exact .inl ⟨rfl, (s54.1, s54.2), F3, as54_0, ns54_0, es54_0, ho192, hs191, le57, e58, e59, e60, e61, hrs54_0⟩
   ·rintro f w65 ⟨s64, F4, as64_0, ns64_0, es64_0, rfl, hs66, le67, e68, e69, e70, e71, hrs64_0⟩
    have h193 := k_done h53
    refine blockQ_nrm ?_
    refine thenQ_nrm ?_
    refine Rg [0, 1, 2] ?_
    refine V 22 3 (mv 4 (vi s9.2) e71) ?_
    refine V 23 3 (run_add (t := 3) (t' := 3) (x := (.tmp 22)) (y := (.const (vi 1))) (k := .i64) (a := s9.2) (b := 1) rfl rfl) ?_
    refine V 4 3 (ma 23 (vi (W64 (s9.2 + 1)))) ?_
    refine RWP.nil ?_
    have hn194 := iter_next h193 hnx29
    exact ⟨m26, Nat.lt_succ_self _, (s64.1, (W64 (s9.2 + 1))), F4, as64_0, ns64_0, es64_0, hn194, hs66, (le12.trans le67), e68, e69, e70, rfl, hrs64_0⟩
  ·have h195 := cond_f hb28 hb30
   refine CWP.exit (by kernel_rfl) ?_
   refine thenQ_ex ?_
   refine thenQ_ex ?_
   refine blockQ_hit rfl ?_
   have ho196 := iter_done h195 hnx29
   exact .inl ⟨rfl, (s9.1, s9.2), F1, as9_0, ns9_0, es9_0, ho196, hs11, le12, e13, e14, e15, hrs9_0⟩
 ·rintro f w18 ⟨s17, F2, as17_0, ns17_0, es17_0, rfl, hs19, le20, e21, e22, e23, hrs17_0⟩
  have h197 := k_done h8
  refine thenQ_nrm ?_
  refine Sq ?_
  refine Sq (Rg [0] ?_)
  refine V 8 3 (mc (vi 0) (vi 0)) ?_
  refine Nt ?_
  obtain ⟨o198, ho199, h200⟩ := bind_some h197
  refine CWP.cut (fun f w => ∃ (s209 : (List Bound × Int)) (F10 : Mem) (as209_0 : Option Addr) (ns209_0 : Nat) (es209_0 : Option Nat × Obj), o198 = .done s209 ∧ HS w0 F0 w F10 [es209_0, (sb b1 (kSystem x0 a0_0 n0_0 a0_1 n0_1) 25)] ∧ Mem.le F2 F10 ∧ f.d = [] ∧ f 1 = (.pointer (some ⟨b1, 0, none⟩)) ∧ f 3 = (.slice as209_0 s209.1.length ns209_0) ∧ RowR tBound 103 F10 as209_0 ns209_0 s209.1 es209_0) ?_ ?_
  ·refine Bk ?_
   refine CWP.loop (by kernel_rfl) (fun m f w => ∃ (s201 : (List Bound × Int)) (F9 : Mem) (as201_0 : Option Addr) (ns201_0 : Nat) (es201_0 : Option Nat × Obj), iter (ref03_bounds_L2 N x0 s17) m s201 = some o198 ∧ HS w0 F0 w F9 [es201_0, (sb b1 (kSystem x0 a0_0 n0_0 a0_1 n0_1) 25)] ∧ Mem.le F2 F9 ∧ f.d = [] ∧ f 1 = (.pointer (some ⟨b1, 0, none⟩)) ∧ f 3 = (.slice as201_0 s201.1.length ns201_0) ∧ f 8 = (vi s201.2) ∧ RowR tBound 103 F9 as201_0 ns201_0 s201.1 es201_0) N ⟨(s17.1, 0), F2, as17_0, ns17_0, es17_0, ho199, hs19, (Mem.le.refl _), e21, e22, e23, rfl, hrs17_0⟩ ?_
   rintro m216 f w202 ⟨s201, F9, as201_0, ns201_0, es201_0, hit217, hs203, le204, e205, e206, e207, e208, hrs201_0⟩
   obtain ⟨m218, fl219, rfl, hb220, hnx221⟩ := iter_step hit217
   refine Sq ?_
   refine Sq (Rg [0, 1, 2, 3, 4] ?_)
   refine V 71 3 (mv 8 (vi s201.2) e208) ?_
   refine V 72 0 (fa 25 1 0 0 1 b1 0 0 e206) ?_
   refine V 73 22 (ld 22 72 b1 0 false 1 (.slice a0_0 x0.Tracks.length n0_0) (hs203.ownAt (k := 1) rfl)) ?_
   refine V 74 3 (ln 73 22 a0_0 x0.Tracks.length n0_0 54 4 64) ?_
   refine V 75 4 (run_lss (t := 3) (t' := 3) (x := (.tmp 71)) (y := (.tmp 74)) (k := .i64) (a := s201.2) (b := (x0.Tracks.length : Int)) rfl rfl) ?_
   refine Nt ?_
   refine CWP.cond (t := (decide (s201.2 < (x0.Tracks.length : Int)))) (by kernel_rfl) rfl (fun hb222 => ?_) (fun hb222 => ?_)
   ·have h223 := cond_t hb220 hb222
    refine Sc ?_
    refine thenQ_nrm ?_
    refine Sq ?_
    refine Bk ?_
    refine Sq (Rg [0, 1, 2, 3, 4, 5, 6] ?_)
    refine V 78 0 (fa 25 1 0 0 1 b1 0 0 e206) ?_
    refine V 79 22 (ld 22 78 b1 0 false 1 (.slice a0_0 x0.Tracks.length n0_0) (hs203.ownAt (k := 1) rfl)) ?_
    refine V 80 3 (mv 8 (vi s201.2) e208) ?_
    obtain ⟨x224, hx225, h227⟩ := bind_some h223
    obtain ⟨hi226, hx225'⟩ := idx_spec hx225
    obtain ⟨b228, o229, C230, E231, fz232, rfl, hF234, hE235⟩ := SlA.open (SlA.mono hs0_0 (le20.trans le204)) hx225'
    obtain ⟨ae236_2, ne236_2, ae236_3, ne236_3, hc237, hbe236_2, hse236_2, hbe236_3, hse236_3⟩ := hE235 _ _ hx225'
    refine V 81 0 (ix 22 79 80 b228 o229 54 4 64 hi226) ?_
    refine V 82 54 (lx 54 81 0 4 true 4 (.agg (kTrack x224 ae236_2 ne236_2 ae236_3 ne236_3)) (hs203.pers _ _ hF234) hc237) ?_
    refine Al 9 0 54 #[(vi 0), (vi 0), (.slice none ([] : List Int).length 0), (.slice none ([] : List Int).length 0)] hs203 (fun b238 w239 (hs240 : HS w0 F0 w239 F9 [(sb b238 #[(vi 0), (vi 0), (.slice none ([] : List Int).length 0), (.slice none ([] : List Int).length 0)] 54), es201_0, (sb b1 (kSystem x0 (some ⟨b228, o229, none⟩) n0_0 a0_1 n0_1) 25)]) => ?_)
    refine RWP.store (ty := 0) (g := none) (by kernel_rfl) rfl (x := (.tmp 9)) (y := (.tmp 82)) (t := 54) (gg := true) (s := 4) (v := (.agg (kTrack x224 ae236_2 ne236_2 ae236_3 ne236_3))) (b := b238) (o := 0) (C := #[(vi 0), (vi 0), (.slice none ([] : List Int).length 0), (.slice none ([] : List Int).length 0)]) rfl rfl (by kernel_rfl) hs240 (k := 0) rfl rfl rfl rfl (C' := (kTrack x224 ae236_2 ne236_2 ae236_3 ne236_3)) rfl (fun w241 (hs242 : HS w0 F0 w241 F9 [(sb b238 (kTrack x224 ae236_2 ne236_2 ae236_3 ne236_3) 54), es201_0, (sb b1 (kSystem x0 (some ⟨b228, o229, none⟩) n0_0 a0_1 n0_1) 25)]) => ?_)
    refine Nss (Rg [0] ?_)
    refine V 10 3 (mc (vi 0) (vi 0)) ?_
    refine Nt ?_
    obtain ⟨o243, ho244, h245⟩ := bind_some h227
    refine CWP.cut (fun f w => ∃ (s256 : (List Bound × Int)) (F12 : Mem) (as256_0 : Option Addr) (ns256_0 : Nat) (es256_0 : Option Nat × Obj), o243 = .done s256 ∧ HS w0 F0 w F12 [es256_0, (sb b1 (kSystem x0 (some ⟨b228, o229, none⟩) n0_0 a0_1 n0_1) 25)] ∧ Mem.le F9 F12 ∧ f.d = [] ∧ f 1 = (.pointer (some ⟨b1, 0, none⟩)) ∧ f 3 = (.slice as256_0 s256.1.length ns256_0) ∧ f 8 = (vi s201.2) ∧ RowR tBound 103 F12 as256_0 ns256_0 s256.1 es256_0) ?_ ?_
    ·refine Bk ?_
     refine CWP.loop (by kernel_rfl) (fun m f w => ∃ (s246 : (List Bound × Int)) (F11 : Mem) (as246_0 : Option Addr) (ns246_0 : Nat) (es246_0 : Option Nat × Obj), iter (ref03_bounds_L3 N x0 s17 s201 x224) m s246 = some o243 ∧ HS w0 F0 w F11 [(sb b238 (kTrack x224 ae236_2 ne236_2 ae236_3 ne236_3) 54), es246_0, (sb b1 (kSystem x0 (some ⟨b228, o229, none⟩) n0_0 a0_1 n0_1) 25)] ∧ Mem.le F9 F11 ∧ f.d = [] ∧ f 1 = (.pointer (some ⟨b1, 0, none⟩)) ∧ f 3 = (.slice as246_0 s246.1.length ns246_0) ∧ f 8 = (vi s201.2) ∧ f 9 = (.pointer (some ⟨b238, 0, none⟩)) ∧ f 10 = (vi s246.2) ∧ RowR tBound 103 F11 as246_0 ns246_0 s246.1 es246_0) N ⟨(s201.1, 0), F9, as201_0, ns201_0, es201_0, ho244, hs242, (Mem.le.refl _), e205, e206, e207, e208, rfl, rfl, hrs201_0⟩ ?_
     rintro m264 f w247 ⟨s246, F11, as246_0, ns246_0, es246_0, hit265, hs248, le249, e250, e251, e252, e253, e254, e255, hrs246_0⟩
     obtain ⟨m266, fl267, rfl, hb268, hnx269⟩ := iter_step hit265
     refine Sq ?_
     refine Sq (Rg [0, 1, 2, 3, 4, 5] ?_)
     refine V 83 3 (mv 10 (vi s246.2) e255) ?_
     refine V 84 3 (run_add (t := 3) (t' := 3) (x := (.tmp 83)) (y := (.const (vi 1))) (k := .i64) (a := s246.2) (b := 1) rfl rfl) ?_
     refine V 85 0 (fa 54 9 1 3 1 b238 0 3 e254) ?_
     refine V 86 50 (ld 50 85 b238 3 false 1 (.slice ae236_3 x224.Times.length ne236_3) (hs248.ownAt (k := 0) rfl)) ?_
     refine V 87 3 (ln 86 50 ae236_3 x224.Times.length ne236_3 3 1 8) ?_
     refine V 88 4 (run_lss (t := 3) (t' := 3) (x := (.tmp 84)) (y := (.tmp 87)) (k := .i64) (a := (W64 (s246.2 + 1))) (b := (x224.Times.length : Int)) rfl rfl) ?_
     refine Nt ?_
     refine CWP.cond (t := (decide ((W64 (s246.2 + 1)) < (x224.Times.length : Int)))) (by kernel_rfl) rfl (fun hb270 => ?_) (fun hb270 => ?_)
     ·have h271 := cond_t hb268 hb270
      refine Sc ?_
      refine thenQ_nrm ?_
      refine Sq ?_
      refine Bk ?_
      refine Sq (Rg [0, 1, 2, 3, 4] ?_)
      refine V 91 3 (mv 8 (vi s201.2) e253) ?_
      refine V 92 3 (mv 10 (vi s246.2) e255) ?_
      refine V 93 27 (run_build2 (t := 27) (parts := #[(0, (.tmp 91)), (1, (.tmp 92))]) (vs := [(0, (vi s201.2)), (1, (vi s246.2))]) (rfl) (cs := [(vi s201.2), (vi s246.2)]) (by kernel_rfl)) ?_
      refine Al 11 0 27 #[(vi 0), (vi 0)] hs248 (fun b272 w273 (hs274 : HS w0 F0 w273 F11 [(sb b272 #[(vi 0), (vi 0)] 27), (sb b238 (kTrack x224 ae236_2 ne236_2 ae236_3 ne236_3) 54), es246_0, (sb b1 (kSystem x0 (some ⟨b228, o229, none⟩) n0_0 a0_1 n0_1) 25)]) => ?_)
      refine RWP.store (ty := 0) (g := none) (by kernel_rfl) rfl (x := (.tmp 11)) (y := (.tmp 93)) (t := 27) (gg := true) (s := 2) (v := (.agg #[(vi s201.2), (vi s246.2)])) (b := b272) (o := 0) (C := #[(vi 0), (vi 0)]) rfl rfl (by kernel_rfl) hs274 (k := 0) rfl rfl rfl rfl (C' := #[(vi s201.2), (vi s246.2)]) rfl (fun w275 (hs276 : HS w0 F0 w275 F11 [(sb b272 #[(vi s201.2), (vi s246.2)] 27), (sb b238 (kTrack x224 ae236_2 ne236_2 ae236_3 ne236_3) 54), es246_0, (sb b1 (kSystem x0 (some ⟨b228, o229, none⟩) n0_0 a0_1 n0_1) 25)]) => ?_)
      refine Nss (Rg [0, 1, 2, 3, 4, 5] ?_)
      refine V 94 3 (mv 8 (vi s201.2) e253) ?_
      refine V 95 3 (mv 10 (vi s246.2) e255) ?_
      refine V 96 3 (run_add (t := 3) (t' := 3) (x := (.tmp 95)) (y := (.const (vi 1))) (k := .i64) (a := s246.2) (b := 1) rfl rfl) ?_
      refine V 97 27 (run_build2 (t := 27) (parts := #[(0, (.tmp 94)), (1, (.tmp 96))]) (vs := [(0, (vi s201.2)), (1, (vi (W64 (s246.2 + 1))))]) (rfl) (cs := [(vi s201.2), (vi (W64 (s246.2 + 1)))]) (by kernel_rfl)) ?_
      refine Al 12 0 27 #[(vi 0), (vi 0)] hs276 (fun b277 w278 (hs279 : HS w0 F0 w278 F11 [(sb b277 #[(vi 0), (vi 0)] 27), (sb b272 #[(vi s201.2), (vi s246.2)] 27), (sb b238 (kTrack x224 ae236_2 ne236_2 ae236_3 ne236_3) 54), es246_0, (sb b1 (kSystem x0 (some ⟨b228, o229, none⟩) n0_0 a0_1 n0_1) 25)]) => ?_)
      refine RWP.store (ty := 0) (g := none) (by kernel_rfl) rfl (x := (.tmp 12)) (y := (.tmp 97)) (t := 27) (gg := true) (s := 2) (v := (.agg #[(vi s201.2), (vi (W64 (s246.2 + 1)))])) (b := b277) (o := 0) (C := #[(vi 0), (vi 0)]) rfl rfl (by kernel_rfl) hs279 (k := 0) rfl rfl rfl rfl (C' := #[(vi s201.2), (vi (W64 (s246.2 + 1)))]) rfl (fun w280 (hs281 : HS w0 F0 w280 F11 [(sb b277 #[(vi s201.2), (vi (W64 (s246.2 + 1)))] 27), (sb b272 #[(vi s201.2), (vi s246.2)] 27), (sb b238 (kTrack x224 ae236_2 ne236_2 ae236_3 ne236_3) 54), es246_0, (sb b1 (kSystem x0 (some ⟨b228, o229, none⟩) n0_0 a0_1 n0_1) 25)]) => ?_)
      refine Nss (Rg [0, 1, 2, 3, 4, 5, 6, 7] ?_)
      refine V 98 57 (mv 3 (.slice as246_0 s246.1.length ns246_0) e252) ?_
      refine V 99 27 (ld 27 12 b277 0 true 2 (.agg #[(vi s201.2), (vi (W64 (s246.2 + 1)))]) (hs281.ownAt (k := 0) rfl)) ?_
      refine V 100 27 (ld 27 11 b272 0 true 2 (.agg #[(vi s201.2), (vi s246.2)]) (hs281.ownAt (k := 1) rfl)) ?_
      refine V 101 3 (mv 10 (vi s246.2) e255) ?_
      refine V 102 103 (run_build2 (t := 103) (parts := #[(0, (.tmp 99)), (1, (.tmp 100)), (2, (.const (vi 0))), (3, (.const (vi 2))), (4, (.tmp 101))]) (vs := [(0, (.agg #[(vi s201.2), (vi (W64 (s246.2 + 1)))])), (1, (.agg #[(vi s201.2), (vi s246.2)])), (2, (vi 0)), (3, (vi 2)), (4, (vi s246.2))]) (rfl) (cs := [(vi s201.2), (vi (W64 (s246.2 + 1))), (vi s201.2), (vi s246.2), (vi 0), (vi 2), (vi s246.2)]) (by kernel_rfl)) ?_
      refine RWP.buildSlice (dst := (some 103)) (ty := 57) (g := none) (by kernel_rfl) rfl (t := 57) (len := 1) (parts := #[(0, (.tmp 102))]) (vs := [(0, (.agg #[(vi s201.2), (vi (W64 (s246.2 + 1))), (vi s201.2), (vi s246.2), (vi 0), (vi 2), (vi s246.2)]))]) (rfl) (E := 103) (cs := [(vi s201.2), (vi (W64 (s246.2 + 1))), (vi s201.2), (vi s246.2), (vi 0), (vi 2), (vi s246.2)]) (by kernel_rfl) hs281 (fun b282 w283 (hs284 : HS w0 F0 w283 F11 [(some b282, .cells ([(vi s201.2), (vi (W64 (s246.2 + 1))), (vi s201.2), (vi s246.2), (vi 0), (vi 2), (vi s246.2)] : List Value).toArray 103 (0, 0)), (sb b277 #[(vi s201.2), (vi (W64 (s246.2 + 1)))] 27), (sb b272 #[(vi s201.2), (vi s246.2)] 27), (sb b238 (kTrack x224 ae236_2 ne236_2 ae236_3 ne236_3) 54), es246_0, (sb b1 (kSystem x0 (some ⟨b228, o229, none⟩) n0_0 a0_1 n0_1) 25)]) => ?_)
      have hr286 : RowR tBound 103 F11 (some ⟨b282, 0, none⟩) 1 [({ From := ({ Log := s201.2, Line := (W64 (s246.2 + 1)) } : Ref), To := ({ Log := s201.2, Line := s246.2 } : Ref), Most := 0, Kind := 2, ID := s246.2 } : Bound)] (some b282, .cells ([(vi s201.2), (vi (W64 (s246.2 + 1))), (vi s201.2), (vi s246.2), (vi 0), (vi 2), (vi s246.2)] : List Value).toArray 103 (0, 0)) := RowR.lit ⟨rfl, rfl⟩ (by simp)
      obtain ⟨r287, hap288, h289⟩ := bind_some h271
      refine RWP.append (dst := (some 104)) (ty := 57) (g := none) (by kernel_rfl) rfl (x := (.tmp 98)) (y := (.tmp 103)) (t := 57) (t2 := 57) (by_ := 56) (z := (.agg #[(vi 0), (vi 0), (vi 0), (vi 0), (vi 0), (vi 0), (vi 0)])) (a2 := (some ⟨b282, 0, none⟩)) (c2 := 1) (m := [({ From := ({ Log := s201.2, Line := (W64 (s246.2 + 1)) } : Ref), To := ({ Log := s201.2, Line := s246.2 } : Ref), Most := 0, Kind := 2, ID := s246.2 } : Bound)]) (T := tBound) (E := 103) (a := as246_0) (cap := ns246_0) (l := s246.1) rfl rfl (by kernel_rfl) (by decide) (by kernel_rfl) (by kernel_rfl) rfl oBound hs284 (k := 4) rfl hrs246_0 (RowR.rd hs284 (k := 0) rfl hr286) (r := r287) hap288 (fun a290 n291 e292 w293 (hs294 : HS w0 F0 w293 F11 [(some b282, .cells ([(vi s201.2), (vi (W64 (s246.2 + 1))), (vi s201.2), (vi s246.2), (vi 0), (vi 2), (vi s246.2)] : List Value).toArray 103 (0, 0)), (sb b277 #[(vi s201.2), (vi (W64 (s246.2 + 1)))] 27), (sb b272 #[(vi s201.2), (vi s246.2)] 27), (sb b238 (kTrack x224 ae236_2 ne236_2 ae236_3 ne236_3) 54), e292, (sb b1 (kSystem x0 (some ⟨b228, o229, none⟩) n0_0 a0_1 n0_1) 25)]) hr295 => ?_)
      refine V 3 57 (ma 104 (.slice a290 r287.length n291)) ?_
      refine Nss ?_
      refine Sq ?_
      obtain ⟨j301, hj311, h312⟩ := bind_some h289
      refine CWP.regionD (by kernel_rfl) (by kernel_rfl) (by kernel_rfl) (by kernel_rfl) (z := 14) (F := F11) (Lc := [(some b282, .cells ([(vi s201.2), (vi (W64 (s246.2 + 1))), (vi s201.2), (vi s246.2), (vi 0), (vi 2), (vi s246.2)] : List Value).toArray 103 (0, 0)), (sb b277 #[(vi s201.2), (vi (W64 (s246.2 + 1)))] 27), (sb b272 #[(vi s201.2), (vi s246.2)] 27), (sb b238 (kTrack x224 ae236_2 ne236_2 ae236_3 ne236_3) 54), e292, (sb b1 (kSystem x0 (some ⟨b228, o229, none⟩) n0_0 a0_1 n0_1) 25)]) (Lz := []) (l := [false, false, false, false, false, false, false, false, false, false, false, false, false, false]) (fuel := 14) (by kernel_rfl) (by kernel_rfl) hs294 (by simp) (by simp) (fun f w => ∃ (F13 : Mem), HS w0 F0 w F13 [(sb b277 #[(vi s201.2), (vi (W64 (s246.2 + 1)))] 27), (sb b272 #[(vi s201.2), (vi s246.2)] 27), (sb b238 (kTrack x224 ae236_2 ne236_2 ae236_3 ne236_3) 54), e292, (sb b1 (kSystem x0 (some ⟨b228, o229, none⟩) n0_0 a0_1 n0_1) 25)] ∧ Mem.le F11 F13 ∧ f.d = [] ∧ f 1 = (.pointer (some ⟨b1, 0, none⟩)) ∧ f 3 = (.slice a290 r287.length n291) ∧ f 8 = (vi s201.2) ∧ f 9 = (.pointer (some ⟨b238, 0, none⟩)) ∧ f 10 = (vi s246.2) ∧ f 11 = (.pointer (some ⟨b272, 0, none⟩)) ∧ f 12 = (.pointer (some ⟨b277, 0, none⟩)) ∧ f 118 = (.bool j301)) (fun wd296 hw297 => ?_) ?_
      ·refine Dt 0 105 0 (.pointer (some ⟨b238, 0, none⟩)) (fun _ hq => fa 54 9 0 0 3 b238 0 0 e254) ?_
       refine Dt 1 106 52 _ (fun _ hq => ld 52 105 b238 0 true 3 (.agg (kClock x224.Clock ae236_2 ne236_2)) (hq.1.2 3 _ _ rfl)) ?_
       refine Dt 2 107 0 (.pointer (some ⟨b238, 3, none⟩)) (fun _ hq => fa 54 9 1 3 1 b238 0 3 e254) ?_
       refine Dt 3 108 50 _ (fun _ hq => ld 50 107 b238 3 false 1 (.slice ae236_3 x224.Times.length ne236_3) (hq.1.2 3 _ _ rfl)) ?_
       refine Dt 4 109 3 _ (fun _ hq => mv 10 (vi s246.2) e255) ?_
       obtain ⟨x313, hx314, h316⟩ := bind_some hj311
       obtain ⟨hi315, hx314'⟩ := idx_spec hx314
       obtain ⟨b317, o318, C319, E320, fz321, rfl, hF323, hE324⟩ := SlA.open (SlA.mono hse236_3 le249) hx314'
       have hc326 := hE324 _ _ hx314'
       refine Dt 5 110 0 (.pointer (some ⟨b317, (o318 + (s246.2 : Int).toNat * 1), none⟩)) (fun _ hq => ix 50 108 109 b317 o318 3 1 8 hi315) ?_
       refine Dt 6 111 3 _ (fun _ hq => lx 3 110 0 1 false 1 (vi x313) (hq.1.1 _ _ hF323) hc326) ?_
       refine Dt 7 112 0 (.pointer (some ⟨b238, 3, none⟩)) (fun _ hq => fa 54 9 1 3 1 b238 0 3 e254) ?_
       refine Dt 8 113 50 _ (fun _ hq => ld 50 112 b238 3 false 1 (.slice (some ⟨b317, o318, none⟩) x224.Times.length ne236_3) (hq.1.2 3 _ _ rfl)) ?_
       refine Dt 9 114 3 _ (fun _ hq => mv 10 (vi s246.2) e255) ?_
       refine Dt 10 115 3 (vi (W64 (s246.2 + 1))) (fun _ hq => run_add (t := 3) (t' := 3) (x := (.tmp 114)) (y := (.const (vi 1))) (k := .i64) (a := s246.2) (b := 1) rfl rfl) ?_
       obtain ⟨x327, hx328, h330⟩ := bind_some h316
       obtain ⟨hi329, hx328'⟩ := idx_spec hx328
       have hc332 := hE324 _ _ hx328'
       refine Dt 11 116 0 (.pointer (some ⟨b317, (o318 + ((W64 (s246.2 + 1)) : Int).toNat * 1), none⟩)) (fun _ hq => ix 50 113 115 b317 o318 3 1 8 hi329) ?_
       refine Dt 12 117 3 _ (fun _ hq => lx 3 116 0 1 false 1 (vi x327) (hq.1.1 _ _ hF323) hc332) ?_
       refine DWP.one (i := 13) (by kernel_rfl) ?_
       obtain ⟨r333, hr334, h335⟩ := bind_some h330
       refine DStep.call (l' := [true, true, true, true, true, true, true, true, true, true, true, true, true, true]) (zd := true) (by kernel_rfl) (by kernel_rfl) (by kernel_rfl) (dst := (some 118)) (ty := 4) (g := none) (by kernel_rfl) rfl (f0 := (.func 124)) (aos := #[(.tmp 106), (.tmp 111), (.tmp 117)]) (ats := #[52, 3, 3]) (fid := 124) (first := #[]) (cap := #[]) (args := [(.agg (kClock x224.Clock ae236_2 ne236_2)), (vi x313), (vi x327)]) rfl co_ref03_jumped (rfl) hw297 (c_ref03_jumped N wd296 F11 hw297.pers (x224.Clock) ae236_2 ne236_2 hbe236_2 (SlA.mono hse236_2 le249) (x313) (x327) _ hr334) ?_
       intro v336 F14 w337 hs338 le339 hp340
       obtain rfl := hp340
       obtain rfl := some_inj h335
       have hs341 : HS w0 F0 w337 F14 [(sb b277 #[(vi s201.2), (vi (W64 (s246.2 + 1)))] 27), (sb b272 #[(vi s201.2), (vi s246.2)] 27), (sb b238 (kTrack x224 ae236_2 ne236_2 (some ⟨b317, o318, none⟩) ne236_3) 54), e292, (sb b1 (kSystem x0 (some ⟨b228, o229, none⟩) n0_0 a0_1 n0_1) 25)] := hs338.drop 0
       exact DWP.done (by kernel_rfl) ⟨F14, hs341, le339, e250, e251, rfl, e253, e254, e255, rfl, rfl, rfl⟩
      ·rintro f w298 ⟨F13, hs299, le300, e302, e303, e304, e305, e306, e307, e308, e309, e310⟩
       refine thenQ_nrm ?_
       refine CWP.cond (t := j301) (by kernel_rfl) e310 (fun hb342 => ?_) (fun hb342 => ?_)
       ·have h343 := cond_t h312 hb342
        refine CWP.exit (by kernel_rfl) ?_
        refine thenQ_ex ?_
        refine blockQ_hit rfl ?_
        refine thenQ_nrm ?_
        refine Rg [0, 1, 2] ?_
        refine V 89 3 (mv 10 (vi s246.2) e307) ?_
        refine V 90 3 (run_add (t := 3) (t' := 3) (x := (.tmp 89)) (y := (.const (vi 1))) (k := .i64) (a := s246.2) (b := 1) rfl rfl) ?_
        refine V 10 3 (ma 90 (vi (W64 (s246.2 + 1)))) ?_
        refine RWP.nil ?_
        have hs344 : HS w0 F0 w298 F13 [(sb b272 #[(vi s201.2), (vi s246.2)] 27), (sb b238 (kTrack x224 ae236_2 ne236_2 ae236_3 ne236_3) 54), e292, (sb b1 (kSystem x0 (some ⟨b228, o229, none⟩) n0_0 a0_1 n0_1) 25)] := hs299.drop 0
        have hs345 : HS w0 F0 w298 F13 [(sb b238 (kTrack x224 ae236_2 ne236_2 ae236_3 ne236_3) 54), e292, (sb b1 (kSystem x0 (some ⟨b228, o229, none⟩) n0_0 a0_1 n0_1) 25)] := hs344.drop 0
        have hn346 := iter_next h343 hnx269
        exact ⟨m266, Nat.lt_succ_self _, (r287, (W64 (s246.2 + 1))), F13, a290, n291, e292, hn346, hs345, (le249.trans le300), e302, e303, e304, e305, e306, rfl, (hr295.mono le300)⟩
       ·have h347 := cond_f h312 hb342
        refine Sc ?_
        refine thenQ_nrm ?_
        refine Sq ?_
        obtain ⟨j353, hj363, h364⟩ := bind_some h347
        refine CWP.regionD (by kernel_rfl) (by kernel_rfl) (by kernel_rfl) (by kernel_rfl) (z := 13) (F := F13) (Lc := [(sb b277 #[(vi s201.2), (vi (W64 (s246.2 + 1)))] 27), (sb b272 #[(vi s201.2), (vi s246.2)] 27), (sb b238 (kTrack x224 ae236_2 ne236_2 ae236_3 ne236_3) 54), e292, (sb b1 (kSystem x0 (some ⟨b228, o229, none⟩) n0_0 a0_1 n0_1) 25)]) (Lz := []) (l := [false, false, false, false, false, false, false, false, false, false, false, false, false]) (fuel := 13) (by kernel_rfl) (by kernel_rfl) hs299 (by simp) (by simp) (fun f w => ∃ (F15 : Mem), HS w0 F0 w F15 [(sb b277 #[(vi s201.2), (vi (W64 (s246.2 + 1)))] 27), (sb b272 #[(vi s201.2), (vi s246.2)] 27), (sb b238 (kTrack x224 ae236_2 ne236_2 ae236_3 ne236_3) 54), e292, (sb b1 (kSystem x0 (some ⟨b228, o229, none⟩) n0_0 a0_1 n0_1) 25)] ∧ Mem.le F13 F15 ∧ f.d = [] ∧ f 1 = (.pointer (some ⟨b1, 0, none⟩)) ∧ f 3 = (.slice a290 r287.length n291) ∧ f 8 = (vi s201.2) ∧ f 9 = (.pointer (some ⟨b238, 0, none⟩)) ∧ f 10 = (vi s246.2) ∧ f 11 = (.pointer (some ⟨b272, 0, none⟩)) ∧ f 12 = (.pointer (some ⟨b277, 0, none⟩)) ∧ f 13 = (vi j353)) (fun wd348 hw349 => ?_) ?_
        ·refine Dt 0 119 0 (.pointer (some ⟨b238, 3, none⟩)) (fun _ hq => fa 54 9 1 3 1 b238 0 3 e306) ?_
         refine Dt 1 120 50 _ (fun _ hq => ld 50 119 b238 3 false 1 (.slice ae236_3 x224.Times.length ne236_3) (hq.1.2 2 _ _ rfl)) ?_
         refine Dt 2 121 3 _ (fun _ hq => mv 10 (vi s246.2) e307) ?_
         refine Dt 3 122 3 (vi (W64 (s246.2 + 1))) (fun _ hq => run_add (t := 3) (t' := 3) (x := (.tmp 121)) (y := (.const (vi 1))) (k := .i64) (a := s246.2) (b := 1) rfl rfl) ?_
         obtain ⟨x365, hx366, h368⟩ := bind_some hj363
         obtain ⟨hi367, hx366'⟩ := idx_spec hx366
         obtain ⟨b369, o370, C371, E372, fz373, rfl, hF375, hE376⟩ := SlA.open (SlA.mono hse236_3 (le249.trans le300)) hx366'
         have hc378 := hE376 _ _ hx366'
         refine Dt 4 123 0 (.pointer (some ⟨b369, (o370 + ((W64 (s246.2 + 1)) : Int).toNat * 1), none⟩)) (fun _ hq => ix 50 120 122 b369 o370 3 1 8 hi367) ?_
         refine Dt 5 124 3 _ (fun _ hq => lx 3 123 0 1 false 1 (vi x365) (hq.1.1 _ _ hF375) hc378) ?_
         refine Dt 6 125 0 (.pointer (some ⟨b238, 3, none⟩)) (fun _ hq => fa 54 9 1 3 1 b238 0 3 e306) ?_
         refine Dt 7 126 50 _ (fun _ hq => ld 50 125 b238 3 false 1 (.slice (some ⟨b369, o370, none⟩) x224.Times.length ne236_3) (hq.1.2 2 _ _ rfl)) ?_
         refine Dt 8 127 3 _ (fun _ hq => mv 10 (vi s246.2) e307) ?_
         obtain ⟨x379, hx380, h382⟩ := bind_some h368
         obtain ⟨hi381, hx380'⟩ := idx_spec hx380
         have hc384 := hE376 _ _ hx380'
         refine Dt 9 128 0 (.pointer (some ⟨b369, (o370 + (s246.2 : Int).toNat * 1), none⟩)) (fun _ hq => ix 50 126 127 b369 o370 3 1 8 hi381) ?_
         refine Dt 10 129 3 _ (fun _ hq => lx 3 128 0 1 false 1 (vi x379) (hq.1.1 _ _ hF375) hc384) ?_
         refine Dt 11 130 3 (vi (W64 (x365 - x379))) (fun _ hq => run_sub (t := 3) (t' := 3) (x := (.tmp 124)) (y := (.tmp 129)) (k := .i64) (a := x365) (b := x379) rfl rfl) ?_
         refine Dt 12 13 3 _ (fun _ hq => ma 130 (vi (W64 (x365 - x379)))) ?_
         obtain rfl := some_inj h382
         exact DWP.done (by kernel_rfl) ⟨F13, hw349, (Mem.le.refl _), e302, e303, e304, e305, e306, e307, e308, e309, rfl⟩
        ·rintro f w350 ⟨F15, hs351, le352, e354, e355, e356, e357, e358, e359, e360, e361, e362⟩
         refine thenQ_nrm ?_
         refine Sq (Rg [0, 1, 2, 3, 4, 5, 6, 7, 8] ?_)
         refine V 131 0 (fa 54 9 0 0 3 b238 0 0 e358) ?_
         refine V 132 0 (fa 52 131 1 1 1 b238 0 1) ?_
         refine V 133 3 (ld 3 132 b238 1 false 1 (vi x224.Clock.Drift) (hs351.ownAt (k := 2) rfl)) ?_
         refine V 134 3 (mv 13 (vi j353) e362) ?_
         refine V 135 3 (run_mul (t := 3) (t' := 3) (x := (.tmp 133)) (y := (.tmp 134)) (k := .i64) (a := x224.Clock.Drift) (b := j353) rfl rfl) ?_
         refine V 136 3 (run_add (t := 3) (t' := 3) (x := (.tmp 135)) (y := (.const (vi 999))) (k := .i64) (a := (W64 (x224.Clock.Drift * j353))) (b := 999) rfl rfl) ?_
         refine V 137 3 (run_quo (t := 3) (t' := 3) (x := (.tmp 136)) (y := (.const (vi 1000))) (k := .i64) (a := (W64 ((W64 (x224.Clock.Drift * j353)) + 999))) (b := 1000) rfl rfl (by decide)) ?_
         refine V 138 3 (run_add (t := 3) (t' := 3) (x := (.const (vi 1))) (y := (.tmp 137)) (k := .i64) (a := 1) (b := (W64 (Int.tdiv (W64 ((W64 (x224.Clock.Drift * j353)) + 999)) 1000))) rfl rfl) ?_
         refine V 14 3 (ma 138 (vi (W64 (1 + (W64 (Int.tdiv (W64 ((W64 (x224.Clock.Drift * j353)) + 999)) 1000)))))) ?_
         refine Nss (Rg [0, 1, 2, 3, 4, 5, 6, 7, 8, 9, 10] ?_)
         refine V 139 57 (mv 3 (.slice a290 r287.length n291) e356) ?_
         refine V 140 27 (ld 27 11 b272 0 true 2 (.agg #[(vi s201.2), (vi s246.2)]) (hs351.ownAt (k := 1) rfl) e360) ?_
         refine V 141 27 (ld 27 12 b277 0 true 2 (.agg #[(vi s201.2), (vi (W64 (s246.2 + 1)))]) (hs351.ownAt (k := 0) rfl) e361) ?_
         refine V 142 3 (mv 13 (vi j353) e362) ?_
         refine V 143 3 (mv 14 (vi (W64 (1 + (W64 (Int.tdiv (W64 ((W64 (x224.Clock.Drift * j353)) + 999)) 1000)))))) ?_
         refine V 144 3 (run_add (t := 3) (t' := 3) (x := (.tmp 142)) (y := (.tmp 143)) (k := .i64) (a := j353) (b := (W64 (1 + (W64 (Int.tdiv (W64 ((W64 (x224.Clock.Drift * j353)) + 999)) 1000))))) rfl rfl) ?_
         refine V 145 3 (mv 10 (vi s246.2) e359) ?_
         refine V 146 103 (run_build2 (t := 103) (parts := #[(0, (.tmp 140)), (1, (.tmp 141)), (2, (.tmp 144)), (3, (.const (vi 3))), (4, (.tmp 145))]) (vs := [(0, (.agg #[(vi s201.2), (vi s246.2)])), (1, (.agg #[(vi s201.2), (vi (W64 (s246.2 + 1)))])), (2, (vi (W64 (j353 + (W64 (1 + (W64 (Int.tdiv (W64 ((W64 (x224.Clock.Drift * j353)) + 999)) 1000)))))))), (3, (vi 3)), (4, (vi s246.2))]) (rfl) (cs := [(vi s201.2), (vi s246.2), (vi s201.2), (vi (W64 (s246.2 + 1))), (vi (W64 (j353 + (W64 (1 + (W64 (Int.tdiv (W64 ((W64 (x224.Clock.Drift * j353)) + 999)) 1000))))))), (vi 3), (vi s246.2)]) (by kernel_rfl)) ?_
         refine RWP.buildSlice (dst := (some 147)) (ty := 57) (g := none) (by kernel_rfl) rfl (t := 57) (len := 1) (parts := #[(0, (.tmp 146))]) (vs := [(0, (.agg #[(vi s201.2), (vi s246.2), (vi s201.2), (vi (W64 (s246.2 + 1))), (vi (W64 (j353 + (W64 (1 + (W64 (Int.tdiv (W64 ((W64 (x224.Clock.Drift * j353)) + 999)) 1000))))))), (vi 3), (vi s246.2)]))]) (rfl) (E := 103) (cs := [(vi s201.2), (vi s246.2), (vi s201.2), (vi (W64 (s246.2 + 1))), (vi (W64 (j353 + (W64 (1 + (W64 (Int.tdiv (W64 ((W64 (x224.Clock.Drift * j353)) + 999)) 1000))))))), (vi 3), (vi s246.2)]) (by kernel_rfl) hs351 (fun b385 w386 (hs387 : HS w0 F0 w386 F15 [(some b385, .cells ([(vi s201.2), (vi s246.2), (vi s201.2), (vi (W64 (s246.2 + 1))), (vi (W64 (j353 + (W64 (1 + (W64 (Int.tdiv (W64 ((W64 (x224.Clock.Drift * j353)) + 999)) 1000))))))), (vi 3), (vi s246.2)] : List Value).toArray 103 (0, 0)), (sb b277 #[(vi s201.2), (vi (W64 (s246.2 + 1)))] 27), (sb b272 #[(vi s201.2), (vi s246.2)] 27), (sb b238 (kTrack x224 ae236_2 ne236_2 ae236_3 ne236_3) 54), e292, (sb b1 (kSystem x0 (some ⟨b228, o229, none⟩) n0_0 a0_1 n0_1) 25)]) => ?_)
         have hr389 : RowR tBound 103 F15 (some ⟨b385, 0, none⟩) 1 [({ From := ({ Log := s201.2, Line := s246.2 } : Ref), To := ({ Log := s201.2, Line := (W64 (s246.2 + 1)) } : Ref), Most := (W64 (j353 + (W64 (1 + (W64 (Int.tdiv (W64 ((W64 (x224.Clock.Drift * j353)) + 999)) 1000)))))), Kind := 3, ID := s246.2 } : Bound)] (some b385, .cells ([(vi s201.2), (vi s246.2), (vi s201.2), (vi (W64 (s246.2 + 1))), (vi (W64 (j353 + (W64 (1 + (W64 (Int.tdiv (W64 ((W64 (x224.Clock.Drift * j353)) + 999)) 1000))))))), (vi 3), (vi s246.2)] : List Value).toArray 103 (0, 0)) := RowR.lit ⟨rfl, rfl⟩ (by simp)
         obtain ⟨r390, hap391, h392⟩ := bind_some h364
         refine RWP.append (dst := (some 148)) (ty := 57) (g := none) (by kernel_rfl) rfl (x := (.tmp 139)) (y := (.tmp 147)) (t := 57) (t2 := 57) (by_ := 56) (z := (.agg #[(vi 0), (vi 0), (vi 0), (vi 0), (vi 0), (vi 0), (vi 0)])) (a2 := (some ⟨b385, 0, none⟩)) (c2 := 1) (m := [({ From := ({ Log := s201.2, Line := s246.2 } : Ref), To := ({ Log := s201.2, Line := (W64 (s246.2 + 1)) } : Ref), Most := (W64 (j353 + (W64 (1 + (W64 (Int.tdiv (W64 ((W64 (x224.Clock.Drift * j353)) + 999)) 1000)))))), Kind := 3, ID := s246.2 } : Bound)]) (T := tBound) (E := 103) (a := a290) (cap := n291) (l := r287) rfl rfl (by kernel_rfl) (by decide) (by kernel_rfl) (by kernel_rfl) rfl oBound hs387 (k := 4) rfl (hr295.mono (le300.trans le352)) (RowR.rd hs387 (k := 0) rfl hr389) (r := r390) hap391 (fun a393 n394 e395 w396 (hs397 : HS w0 F0 w396 F15 [(some b385, .cells ([(vi s201.2), (vi s246.2), (vi s201.2), (vi (W64 (s246.2 + 1))), (vi (W64 (j353 + (W64 (1 + (W64 (Int.tdiv (W64 ((W64 (x224.Clock.Drift * j353)) + 999)) 1000))))))), (vi 3), (vi s246.2)] : List Value).toArray 103 (0, 0)), (sb b277 #[(vi s201.2), (vi (W64 (s246.2 + 1)))] 27), (sb b272 #[(vi s201.2), (vi s246.2)] 27), (sb b238 (kTrack x224 ae236_2 ne236_2 ae236_3 ne236_3) 54), e395, (sb b1 (kSystem x0 (some ⟨b228, o229, none⟩) n0_0 a0_1 n0_1) 25)]) hr398 => ?_)
         refine V 3 57 (ma 148 (.slice a393 r390.length n394)) ?_
         refine Nt ?_
         refine Rg [0, 1, 2, 3, 4, 5, 6, 7, 8, 9, 10] ?_
         refine V 149 57 (mv 3 (.slice a393 r390.length n394)) ?_
         refine V 150 27 (ld 27 12 b277 0 true 2 (.agg #[(vi s201.2), (vi (W64 (s246.2 + 1)))]) (hs397.ownAt (k := 1) rfl) e361) ?_
         refine V 151 27 (ld 27 11 b272 0 true 2 (.agg #[(vi s201.2), (vi s246.2)]) (hs397.ownAt (k := 2) rfl) e360) ?_
         refine V 152 3 (mv 14 (vi (W64 (1 + (W64 (Int.tdiv (W64 ((W64 (x224.Clock.Drift * j353)) + 999)) 1000)))))) ?_
         refine V 153 3 (mv 13 (vi j353) e362) ?_
         refine V 154 3 (run_sub (t := 3) (t' := 3) (x := (.tmp 152)) (y := (.tmp 153)) (k := .i64) (a := (W64 (1 + (W64 (Int.tdiv (W64 ((W64 (x224.Clock.Drift * j353)) + 999)) 1000))))) (b := j353) rfl rfl) ?_
         refine V 155 3 (mv 10 (vi s246.2) e359) ?_
         refine V 156 103 (run_build2 (t := 103) (parts := #[(0, (.tmp 150)), (1, (.tmp 151)), (2, (.tmp 154)), (3, (.const (vi 3))), (4, (.tmp 155))]) (vs := [(0, (.agg #[(vi s201.2), (vi (W64 (s246.2 + 1)))])), (1, (.agg #[(vi s201.2), (vi s246.2)])), (2, (vi (W64 ((W64 (1 + (W64 (Int.tdiv (W64 ((W64 (x224.Clock.Drift * j353)) + 999)) 1000)))) - j353)))), (3, (vi 3)), (4, (vi s246.2))]) (rfl) (cs := [(vi s201.2), (vi (W64 (s246.2 + 1))), (vi s201.2), (vi s246.2), (vi (W64 ((W64 (1 + (W64 (Int.tdiv (W64 ((W64 (x224.Clock.Drift * j353)) + 999)) 1000)))) - j353))), (vi 3), (vi s246.2)]) (by kernel_rfl)) ?_
         refine RWP.buildSlice (dst := (some 157)) (ty := 57) (g := none) (by kernel_rfl) rfl (t := 57) (len := 1) (parts := #[(0, (.tmp 156))]) (vs := [(0, (.agg #[(vi s201.2), (vi (W64 (s246.2 + 1))), (vi s201.2), (vi s246.2), (vi (W64 ((W64 (1 + (W64 (Int.tdiv (W64 ((W64 (x224.Clock.Drift * j353)) + 999)) 1000)))) - j353))), (vi 3), (vi s246.2)]))]) (rfl) (E := 103) (cs := [(vi s201.2), (vi (W64 (s246.2 + 1))), (vi s201.2), (vi s246.2), (vi (W64 ((W64 (1 + (W64 (Int.tdiv (W64 ((W64 (x224.Clock.Drift * j353)) + 999)) 1000)))) - j353))), (vi 3), (vi s246.2)]) (by kernel_rfl) hs397 (fun b399 w400 (hs401 : HS w0 F0 w400 F15 [(some b399, .cells ([(vi s201.2), (vi (W64 (s246.2 + 1))), (vi s201.2), (vi s246.2), (vi (W64 ((W64 (1 + (W64 (Int.tdiv (W64 ((W64 (x224.Clock.Drift * j353)) + 999)) 1000)))) - j353))), (vi 3), (vi s246.2)] : List Value).toArray 103 (0, 0)), (some b385, .cells ([(vi s201.2), (vi s246.2), (vi s201.2), (vi (W64 (s246.2 + 1))), (vi (W64 (j353 + (W64 (1 + (W64 (Int.tdiv (W64 ((W64 (x224.Clock.Drift * j353)) + 999)) 1000))))))), (vi 3), (vi s246.2)] : List Value).toArray 103 (0, 0)), (sb b277 #[(vi s201.2), (vi (W64 (s246.2 + 1)))] 27), (sb b272 #[(vi s201.2), (vi s246.2)] 27), (sb b238 (kTrack x224 ae236_2 ne236_2 ae236_3 ne236_3) 54), e395, (sb b1 (kSystem x0 (some ⟨b228, o229, none⟩) n0_0 a0_1 n0_1) 25)]) => ?_)
         have hr403 : RowR tBound 103 F15 (some ⟨b399, 0, none⟩) 1 [({ From := ({ Log := s201.2, Line := (W64 (s246.2 + 1)) } : Ref), To := ({ Log := s201.2, Line := s246.2 } : Ref), Most := (W64 ((W64 (1 + (W64 (Int.tdiv (W64 ((W64 (x224.Clock.Drift * j353)) + 999)) 1000)))) - j353)), Kind := 3, ID := s246.2 } : Bound)] (some b399, .cells ([(vi s201.2), (vi (W64 (s246.2 + 1))), (vi s201.2), (vi s246.2), (vi (W64 ((W64 (1 + (W64 (Int.tdiv (W64 ((W64 (x224.Clock.Drift * j353)) + 999)) 1000)))) - j353))), (vi 3), (vi s246.2)] : List Value).toArray 103 (0, 0)) := RowR.lit ⟨rfl, rfl⟩ (by simp)
         obtain ⟨r404, hap405, h406⟩ := bind_some h392
         refine RWP.append (dst := (some 158)) (ty := 57) (g := none) (by kernel_rfl) rfl (x := (.tmp 149)) (y := (.tmp 157)) (t := 57) (t2 := 57) (by_ := 56) (z := (.agg #[(vi 0), (vi 0), (vi 0), (vi 0), (vi 0), (vi 0), (vi 0)])) (a2 := (some ⟨b399, 0, none⟩)) (c2 := 1) (m := [({ From := ({ Log := s201.2, Line := (W64 (s246.2 + 1)) } : Ref), To := ({ Log := s201.2, Line := s246.2 } : Ref), Most := (W64 ((W64 (1 + (W64 (Int.tdiv (W64 ((W64 (x224.Clock.Drift * j353)) + 999)) 1000)))) - j353)), Kind := 3, ID := s246.2 } : Bound)]) (T := tBound) (E := 103) (a := a393) (cap := n394) (l := r390) rfl rfl (by kernel_rfl) (by decide) (by kernel_rfl) (by kernel_rfl) rfl oBound hs401 (k := 5) rfl hr398 (RowR.rd hs401 (k := 0) rfl hr403) (r := r404) hap405 (fun a407 n408 e409 w410 (hs411 : HS w0 F0 w410 F15 [(some b399, .cells ([(vi s201.2), (vi (W64 (s246.2 + 1))), (vi s201.2), (vi s246.2), (vi (W64 ((W64 (1 + (W64 (Int.tdiv (W64 ((W64 (x224.Clock.Drift * j353)) + 999)) 1000)))) - j353))), (vi 3), (vi s246.2)] : List Value).toArray 103 (0, 0)), (some b385, .cells ([(vi s201.2), (vi s246.2), (vi s201.2), (vi (W64 (s246.2 + 1))), (vi (W64 (j353 + (W64 (1 + (W64 (Int.tdiv (W64 ((W64 (x224.Clock.Drift * j353)) + 999)) 1000))))))), (vi 3), (vi s246.2)] : List Value).toArray 103 (0, 0)), (sb b277 #[(vi s201.2), (vi (W64 (s246.2 + 1)))] 27), (sb b272 #[(vi s201.2), (vi s246.2)] 27), (sb b238 (kTrack x224 ae236_2 ne236_2 ae236_3 ne236_3) 54), e409, (sb b1 (kSystem x0 (some ⟨b228, o229, none⟩) n0_0 a0_1 n0_1) 25)]) hr412 => ?_)
         refine V 3 57 (ma 158 (.slice a407 r404.length n408)) ?_
         refine RWP.nil ?_
         refine blockQ_nrm ?_
         refine thenQ_nrm ?_
         refine Rg [0, 1, 2] ?_
         refine V 89 3 (mv 10 (vi s246.2) e359) ?_
         refine V 90 3 (run_add (t := 3) (t' := 3) (x := (.tmp 89)) (y := (.const (vi 1))) (k := .i64) (a := s246.2) (b := 1) rfl rfl) ?_
         refine V 10 3 (ma 90 (vi (W64 (s246.2 + 1)))) ?_
         refine RWP.nil ?_
         have hs413 : HS w0 F0 w410 F15 [(some b385, .cells ([(vi s201.2), (vi s246.2), (vi s201.2), (vi (W64 (s246.2 + 1))), (vi (W64 (j353 + (W64 (1 + (W64 (Int.tdiv (W64 ((W64 (x224.Clock.Drift * j353)) + 999)) 1000))))))), (vi 3), (vi s246.2)] : List Value).toArray 103 (0, 0)), (sb b277 #[(vi s201.2), (vi (W64 (s246.2 + 1)))] 27), (sb b272 #[(vi s201.2), (vi s246.2)] 27), (sb b238 (kTrack x224 ae236_2 ne236_2 ae236_3 ne236_3) 54), e409, (sb b1 (kSystem x0 (some ⟨b228, o229, none⟩) n0_0 a0_1 n0_1) 25)] := hs411.drop 0
         have hs414 : HS w0 F0 w410 F15 [(sb b277 #[(vi s201.2), (vi (W64 (s246.2 + 1)))] 27), (sb b272 #[(vi s201.2), (vi s246.2)] 27), (sb b238 (kTrack x224 ae236_2 ne236_2 ae236_3 ne236_3) 54), e409, (sb b1 (kSystem x0 (some ⟨b228, o229, none⟩) n0_0 a0_1 n0_1) 25)] := hs413.drop 0
         have hs415 : HS w0 F0 w410 F15 [(sb b272 #[(vi s201.2), (vi s246.2)] 27), (sb b238 (kTrack x224 ae236_2 ne236_2 ae236_3 ne236_3) 54), e409, (sb b1 (kSystem x0 (some ⟨b228, o229, none⟩) n0_0 a0_1 n0_1) 25)] := hs414.drop 0
         have hs416 : HS w0 F0 w410 F15 [(sb b238 (kTrack x224 ae236_2 ne236_2 ae236_3 ne236_3) 54), e409, (sb b1 (kSystem x0 (some ⟨b228, o229, none⟩) n0_0 a0_1 n0_1) 25)] := hs415.drop 0
         have hn417 := iter_next h406 hnx269
         exact ⟨m266, Nat.lt_succ_self _, (r404, (W64 (s246.2 + 1))), F15, a407, n408, e409, hn417, hs416, ((le249.trans le300).trans le352), e354, e355, rfl, e357, e358, rfl, hr412⟩
     ·have h418 := cond_f hb268 hb270
      refine CWP.exit (by kernel_rfl) ?_
      refine thenQ_ex ?_
      refine thenQ_ex ?_
      refine blockQ_hit rfl ?_
      have hs419 : HS w0 F0 w247 F11 [es246_0, (sb b1 (kSystem x0 (some ⟨b228, o229, none⟩) n0_0 a0_1 n0_1) 25)] := hs248.drop 0
      have ho420 := iter_done h418 hnx269
      exact .inl ⟨rfl, (s246.1, s246.2), F11, as246_0, ns246_0, es246_0, ho420, hs419, le249, e250, e251, e252, e253, hrs246_0⟩
    ·rintro f w257 ⟨s256, F12, as256_0, ns256_0, es256_0, rfl, hs258, le259, e260, e261, e262, e263, hrs256_0⟩
     have h421 := k_done h245
     refine blockQ_nrm ?_
     refine thenQ_nrm ?_
     refine Rg [0, 1, 2] ?_
     refine V 76 3 (mv 8 (vi s201.2) e263) ?_
     refine V 77 3 (run_add (t := 3) (t' := 3) (x := (.tmp 76)) (y := (.const (vi 1))) (k := .i64) (a := s201.2) (b := 1) rfl rfl) ?_
     refine V 8 3 (ma 77 (vi (W64 (s201.2 + 1)))) ?_
     refine RWP.nil ?_
     have hn422 := iter_next h421 hnx221
     exact ⟨m218, Nat.lt_succ_self _, (s256.1, (W64 (s201.2 + 1))), F12, as256_0, ns256_0, es256_0, hn422, hs258, (le204.trans le259), e260, e261, e262, rfl, hrs256_0⟩
   ·have h423 := cond_f hb220 hb222
    refine CWP.exit (by kernel_rfl) ?_
    refine thenQ_ex ?_
    refine thenQ_ex ?_
    refine blockQ_hit rfl ?_
    have ho424 := iter_done h423 hnx221
    exact .inl ⟨rfl, (s201.1, s201.2), F9, as201_0, ns201_0, es201_0, ho424, hs203, le204, e205, e206, e207, hrs201_0⟩
  ·rintro f w210 ⟨s209, F10, as209_0, ns209_0, es209_0, rfl, hs211, le212, e213, e214, e215, hrs209_0⟩
   have h425 := k_done h200
   refine thenQ_nrm ?_
   refine Sq ?_
   refine Sq (Rg [0] ?_)
   refine V 15 3 (mc (vi 0) (vi 0)) ?_
   refine Nt ?_
   obtain ⟨o426, ho427, h428⟩ := bind_some h425
   refine CWP.cut (fun f w => ∃ (s437 : (List Bound × Int)) (F17 : Mem) (as437_0 : Option Addr) (ns437_0 : Nat) (es437_0 : Option Nat × Obj), o426 = .done s437 ∧ HS w0 F0 w F17 [es437_0] ∧ Mem.le F10 F17 ∧ f.d = [] ∧ f 3 = (.slice as437_0 s437.1.length ns437_0) ∧ RowR tBound 103 F17 as437_0 ns437_0 s437.1 es437_0) ?_ ?_
   ·refine Bk ?_
    refine CWP.loop (by kernel_rfl) (fun m f w => ∃ (s429 : (List Bound × Int)) (F16 : Mem) (as429_0 : Option Addr) (ns429_0 : Nat) (es429_0 : Option Nat × Obj), iter (ref03_bounds_L4 N x0 s17 s209) m s429 = some o426 ∧ HS w0 F0 w F16 [es429_0, (sb b1 (kSystem x0 a0_0 n0_0 a0_1 n0_1) 25)] ∧ Mem.le F10 F16 ∧ f.d = [] ∧ f 1 = (.pointer (some ⟨b1, 0, none⟩)) ∧ f 3 = (.slice as429_0 s429.1.length ns429_0) ∧ f 15 = (vi s429.2) ∧ RowR tBound 103 F16 as429_0 ns429_0 s429.1 es429_0) N ⟨(s209.1, 0), F10, as209_0, ns209_0, es209_0, ho427, hs211, (Mem.le.refl _), e213, e214, e215, rfl, hrs209_0⟩ ?_
    rintro m443 f w430 ⟨s429, F16, as429_0, ns429_0, es429_0, hit444, hs431, le432, e433, e434, e435, e436, hrs429_0⟩
    obtain ⟨m445, fl446, rfl, hb447, hnx448⟩ := iter_step hit444
    refine Sq ?_
    refine Sq (Rg [0, 1, 2, 3, 4] ?_)
    refine V 159 3 (mv 15 (vi s429.2) e436) ?_
    refine V 160 0 (fa 25 1 1 1 1 b1 0 1 e434) ?_
    refine V 161 23 (ld 23 160 b1 1 false 1 (.slice a0_1 x0.Ties.length n0_1) (hs431.ownAt (k := 1) rfl)) ?_
    refine V 162 3 (ln 161 23 a0_1 x0.Ties.length n0_1 46 4 32) ?_
    refine V 163 4 (run_lss (t := 3) (t' := 3) (x := (.tmp 159)) (y := (.tmp 162)) (k := .i64) (a := s429.2) (b := (x0.Ties.length : Int)) rfl rfl) ?_
    refine Nt ?_
    refine CWP.cond (t := (decide (s429.2 < (x0.Ties.length : Int)))) (by kernel_rfl) rfl (fun hb449 => ?_) (fun hb449 => ?_)
    ·have h450 := cond_t hb447 hb449
     refine Sc ?_
     refine thenQ_nrm ?_
     refine Sq ?_
     refine Bk ?_
     refine Sq (Rg [0, 1, 2, 3, 4, 5, 6] ?_)
     refine V 166 0 (fa 25 1 1 1 1 b1 0 1 e434) ?_
     refine V 167 23 (ld 23 166 b1 1 false 1 (.slice a0_1 x0.Ties.length n0_1) (hs431.ownAt (k := 1) rfl)) ?_
     refine V 168 3 (mv 15 (vi s429.2) e436) ?_
     obtain ⟨x451, hx452, h454⟩ := bind_some h450
     obtain ⟨hi453, hx452'⟩ := idx_spec hx452
     obtain ⟨b455, o456, C457, E458, fz459, rfl, hF461, hE462⟩ := SlA.open (SlA.mono hs0_1 ((le20.trans le212).trans le432)) hx452'
     have hc464 := hE462 _ _ hx452'
     refine V 169 0 (ix 23 167 168 b455 o456 46 4 32 hi453) ?_
     refine V 170 46 (lx 46 169 0 4 true 4 (.agg (kTie x451)) (hs431.pers _ _ hF461) hc464) ?_
     refine Al 16 0 46 #[(vi 0), (vi 0), (vi 0), (vi 0)] hs431 (fun b465 w466 (hs467 : HS w0 F0 w466 F16 [(sb b465 #[(vi 0), (vi 0), (vi 0), (vi 0)] 46), es429_0, (sb b1 (kSystem x0 a0_0 n0_0 (some ⟨b455, o456, none⟩) n0_1) 25)]) => ?_)
     refine RWP.store (ty := 0) (g := none) (by kernel_rfl) rfl (x := (.tmp 16)) (y := (.tmp 170)) (t := 46) (gg := true) (s := 4) (v := (.agg (kTie x451))) (b := b465) (o := 0) (C := #[(vi 0), (vi 0), (vi 0), (vi 0)]) rfl rfl (by kernel_rfl) hs467 (k := 0) rfl rfl rfl rfl (C' := (kTie x451)) rfl (fun w468 (hs469 : HS w0 F0 w468 F16 [(sb b465 (kTie x451) 46), es429_0, (sb b1 (kSystem x0 a0_0 n0_0 (some ⟨b455, o456, none⟩) n0_1) 25)]) => ?_)
     refine Nss (Rg [0, 1, 2, 3, 4, 5, 6, 7, 8, 9, 10, 11] ?_)
     refine V 171 57 (mv 3 (.slice as429_0 s429.1.length ns429_0) e435) ?_
     refine V 172 0 (fa 46 16 0 0 2 b465 0 0) ?_
     refine V 173 27 (ld 27 172 b465 0 true 2 (.agg (kRef x451.A)) (hs469.ownAt (k := 0) rfl)) ?_
     refine V 174 0 (fa 46 16 1 2 2 b465 0 2) ?_
     refine V 175 27 (ld 27 174 b465 2 true 2 (.agg (kRef x451.B)) (hs469.ownAt (k := 0) rfl)) ?_
     refine V 176 0 (fa 25 1 2 2 1 b1 0 2 e434) ?_
     refine V 177 3 (ld 3 176 b1 2 false 1 (vi x0.Window) (hs469.ownAt (k := 2) rfl)) ?_
     refine V 178 3 (mv 15 (vi s429.2) e436) ?_
     refine V 179 103 (run_build2 (t := 103) (parts := #[(0, (.tmp 173)), (1, (.tmp 175)), (2, (.tmp 177)), (3, (.const (vi 4))), (4, (.tmp 178))]) (vs := [(0, (.agg (kRef x451.A))), (1, (.agg (kRef x451.B))), (2, (vi x0.Window)), (3, (vi 4)), (4, (vi s429.2))]) (rfl) (cs := [(vi x451.A.Log), (vi x451.A.Line), (vi x451.B.Log), (vi x451.B.Line), (vi x0.Window), (vi 4), (vi s429.2)]) (by kernel_rfl)) ?_
     refine RWP.buildSlice (dst := (some 180)) (ty := 57) (g := none) (by kernel_rfl) rfl (t := 57) (len := 1) (parts := #[(0, (.tmp 179))]) (vs := [(0, (.agg #[(vi x451.A.Log), (vi x451.A.Line), (vi x451.B.Log), (vi x451.B.Line), (vi x0.Window), (vi 4), (vi s429.2)]))]) (rfl) (E := 103) (cs := [(vi x451.A.Log), (vi x451.A.Line), (vi x451.B.Log), (vi x451.B.Line), (vi x0.Window), (vi 4), (vi s429.2)]) (by kernel_rfl) hs469 (fun b470 w471 (hs472 : HS w0 F0 w471 F16 [(some b470, .cells ([(vi x451.A.Log), (vi x451.A.Line), (vi x451.B.Log), (vi x451.B.Line), (vi x0.Window), (vi 4), (vi s429.2)] : List Value).toArray 103 (0, 0)), (sb b465 (kTie x451) 46), es429_0, (sb b1 (kSystem x0 a0_0 n0_0 (some ⟨b455, o456, none⟩) n0_1) 25)]) => ?_)
     have hr474 : RowR tBound 103 F16 (some ⟨b470, 0, none⟩) 1 [({ From := x451.A, To := x451.B, Most := x0.Window, Kind := 4, ID := s429.2 } : Bound)] (some b470, .cells ([(vi x451.A.Log), (vi x451.A.Line), (vi x451.B.Log), (vi x451.B.Line), (vi x0.Window), (vi 4), (vi s429.2)] : List Value).toArray 103 (0, 0)) := RowR.lit ⟨rfl, rfl⟩ (by simp)
     obtain ⟨r475, hap476, h477⟩ := bind_some h454
     refine RWP.append (dst := (some 181)) (ty := 57) (g := none) (by kernel_rfl) rfl (x := (.tmp 171)) (y := (.tmp 180)) (t := 57) (t2 := 57) (by_ := 56) (z := (.agg #[(vi 0), (vi 0), (vi 0), (vi 0), (vi 0), (vi 0), (vi 0)])) (a2 := (some ⟨b470, 0, none⟩)) (c2 := 1) (m := [({ From := x451.A, To := x451.B, Most := x0.Window, Kind := 4, ID := s429.2 } : Bound)]) (T := tBound) (E := 103) (a := as429_0) (cap := ns429_0) (l := s429.1) rfl rfl (by kernel_rfl) (by decide) (by kernel_rfl) (by kernel_rfl) rfl oBound hs472 (k := 2) rfl hrs429_0 (RowR.rd hs472 (k := 0) rfl hr474) (r := r475) hap476 (fun a478 n479 e480 w481 (hs482 : HS w0 F0 w481 F16 [(some b470, .cells ([(vi x451.A.Log), (vi x451.A.Line), (vi x451.B.Log), (vi x451.B.Line), (vi x0.Window), (vi 4), (vi s429.2)] : List Value).toArray 103 (0, 0)), (sb b465 (kTie x451) 46), e480, (sb b1 (kSystem x0 a0_0 n0_0 (some ⟨b455, o456, none⟩) n0_1) 25)]) hr483 => ?_)
     refine V 3 57 (ma 181 (.slice a478 r475.length n479)) ?_
     refine Nt ?_
     refine Rg [0, 1, 2, 3, 4, 5, 6, 7, 8, 9, 10, 11] ?_
     refine V 182 57 (mv 3 (.slice a478 r475.length n479)) ?_
     refine V 183 0 (fa 46 16 1 2 2 b465 0 2) ?_
     refine V 184 27 (ld 27 183 b465 2 true 2 (.agg (kRef x451.B)) (hs482.ownAt (k := 1) rfl)) ?_
     refine V 185 0 (fa 46 16 0 0 2 b465 0 0) ?_
     refine V 186 27 (ld 27 185 b465 0 true 2 (.agg (kRef x451.A)) (hs482.ownAt (k := 1) rfl)) ?_
     refine V 187 0 (fa 25 1 2 2 1 b1 0 2 e434) ?_
     refine V 188 3 (ld 3 187 b1 2 false 1 (vi x0.Window) (hs482.ownAt (k := 3) rfl)) ?_
     refine V 189 3 (mv 15 (vi s429.2) e436) ?_
     refine V 190 103 (run_build2 (t := 103) (parts := #[(0, (.tmp 184)), (1, (.tmp 186)), (2, (.tmp 188)), (3, (.const (vi 4))), (4, (.tmp 189))]) (vs := [(0, (.agg (kRef x451.B))), (1, (.agg (kRef x451.A))), (2, (vi x0.Window)), (3, (vi 4)), (4, (vi s429.2))]) (rfl) (cs := [(vi x451.B.Log), (vi x451.B.Line), (vi x451.A.Log), (vi x451.A.Line), (vi x0.Window), (vi 4), (vi s429.2)]) (by kernel_rfl)) ?_
     refine RWP.buildSlice (dst := (some 191)) (ty := 57) (g := none) (by kernel_rfl) rfl (t := 57) (len := 1) (parts := #[(0, (.tmp 190))]) (vs := [(0, (.agg #[(vi x451.B.Log), (vi x451.B.Line), (vi x451.A.Log), (vi x451.A.Line), (vi x0.Window), (vi 4), (vi s429.2)]))]) (rfl) (E := 103) (cs := [(vi x451.B.Log), (vi x451.B.Line), (vi x451.A.Log), (vi x451.A.Line), (vi x0.Window), (vi 4), (vi s429.2)]) (by kernel_rfl) hs482 (fun b484 w485 (hs486 : HS w0 F0 w485 F16 [(some b484, .cells ([(vi x451.B.Log), (vi x451.B.Line), (vi x451.A.Log), (vi x451.A.Line), (vi x0.Window), (vi 4), (vi s429.2)] : List Value).toArray 103 (0, 0)), (some b470, .cells ([(vi x451.A.Log), (vi x451.A.Line), (vi x451.B.Log), (vi x451.B.Line), (vi x0.Window), (vi 4), (vi s429.2)] : List Value).toArray 103 (0, 0)), (sb b465 (kTie x451) 46), e480, (sb b1 (kSystem x0 a0_0 n0_0 (some ⟨b455, o456, none⟩) n0_1) 25)]) => ?_)
     have hr488 : RowR tBound 103 F16 (some ⟨b484, 0, none⟩) 1 [({ From := x451.B, To := x451.A, Most := x0.Window, Kind := 4, ID := s429.2 } : Bound)] (some b484, .cells ([(vi x451.B.Log), (vi x451.B.Line), (vi x451.A.Log), (vi x451.A.Line), (vi x0.Window), (vi 4), (vi s429.2)] : List Value).toArray 103 (0, 0)) := RowR.lit ⟨rfl, rfl⟩ (by simp)
     obtain ⟨r489, hap490, h491⟩ := bind_some h477
     refine RWP.append (dst := (some 192)) (ty := 57) (g := none) (by kernel_rfl) rfl (x := (.tmp 182)) (y := (.tmp 191)) (t := 57) (t2 := 57) (by_ := 56) (z := (.agg #[(vi 0), (vi 0), (vi 0), (vi 0), (vi 0), (vi 0), (vi 0)])) (a2 := (some ⟨b484, 0, none⟩)) (c2 := 1) (m := [({ From := x451.B, To := x451.A, Most := x0.Window, Kind := 4, ID := s429.2 } : Bound)]) (T := tBound) (E := 103) (a := a478) (cap := n479) (l := r475) rfl rfl (by kernel_rfl) (by decide) (by kernel_rfl) (by kernel_rfl) rfl oBound hs486 (k := 3) rfl hr483 (RowR.rd hs486 (k := 0) rfl hr488) (r := r489) hap490 (fun a492 n493 e494 w495 (hs496 : HS w0 F0 w495 F16 [(some b484, .cells ([(vi x451.B.Log), (vi x451.B.Line), (vi x451.A.Log), (vi x451.A.Line), (vi x0.Window), (vi 4), (vi s429.2)] : List Value).toArray 103 (0, 0)), (some b470, .cells ([(vi x451.A.Log), (vi x451.A.Line), (vi x451.B.Log), (vi x451.B.Line), (vi x0.Window), (vi 4), (vi s429.2)] : List Value).toArray 103 (0, 0)), (sb b465 (kTie x451) 46), e494, (sb b1 (kSystem x0 a0_0 n0_0 (some ⟨b455, o456, none⟩) n0_1) 25)]) hr497 => ?_)
     refine V 3 57 (ma 192 (.slice a492 r489.length n493)) ?_
     refine RWP.nil ?_
     refine blockQ_nrm ?_
     refine thenQ_nrm ?_
     refine Rg [0, 1, 2] ?_
     refine V 164 3 (mv 15 (vi s429.2) e436) ?_
     refine V 165 3 (run_add (t := 3) (t' := 3) (x := (.tmp 164)) (y := (.const (vi 1))) (k := .i64) (a := s429.2) (b := 1) rfl rfl) ?_
     refine V 15 3 (ma 165 (vi (W64 (s429.2 + 1)))) ?_
     refine RWP.nil ?_
     have hs498 : HS w0 F0 w495 F16 [(some b470, .cells ([(vi x451.A.Log), (vi x451.A.Line), (vi x451.B.Log), (vi x451.B.Line), (vi x0.Window), (vi 4), (vi s429.2)] : List Value).toArray 103 (0, 0)), (sb b465 (kTie x451) 46), e494, (sb b1 (kSystem x0 a0_0 n0_0 (some ⟨b455, o456, none⟩) n0_1) 25)] := hs496.drop 0
     have hs499 : HS w0 F0 w495 F16 [(sb b465 (kTie x451) 46), e494, (sb b1 (kSystem x0 a0_0 n0_0 (some ⟨b455, o456, none⟩) n0_1) 25)] := hs498.drop 0
     have hs500 : HS w0 F0 w495 F16 [e494, (sb b1 (kSystem x0 a0_0 n0_0 (some ⟨b455, o456, none⟩) n0_1) 25)] := hs499.drop 0
     have hn501 := iter_next h491 hnx448
     exact ⟨m445, Nat.lt_succ_self _, (r489, (W64 (s429.2 + 1))), F16, a492, n493, e494, hn501, hs500, le432, e433, e434, rfl, rfl, hr497⟩
    ·have h502 := cond_f hb447 hb449
     refine CWP.exit (by kernel_rfl) ?_
     refine thenQ_ex ?_
     refine thenQ_ex ?_
     refine blockQ_hit rfl ?_
     have hs503 : HS w0 F0 w430 F16 [es429_0] := hs431.drop 1
     have ho504 := iter_done h502 hnx448
     exact .inl ⟨rfl, (s429.1, s429.2), F16, as429_0, ns429_0, es429_0, ho504, hs503, le432, e433, e435, hrs429_0⟩
   ·rintro f w438 ⟨s437, F17, as437_0, ns437_0, es437_0, rfl, hs439, le440, e441, e442, hrs437_0⟩
    have h505 := k_done h428
    refine thenQ_nrm ?_
    refine Sq (Rg [0, 1] ?_)
    refine V 193 57 (mv 3 (.slice as437_0 s437.1.length ns437_0) e442) ?_
    refine V 2 57 (ma 193 (.slice as437_0 s437.1.length ns437_0)) ?_
    refine Nt ?_
    refine CWP.ret (by kernel_rfl) ?_
    have hb509 := RowR.bound hrs437_0
    obtain ⟨F18, hs506, le507, hs508⟩ : ∃ Fq, HS w0 F0 w438 Fq [] ∧ Mem.le F17 Fq ∧ SlA tBound Fq as437_0 s437.1 := HS.freezeRow hs439 (k := 0) rfl hrs437_0
    have hfin := some_inj h505
    subst hfin
    exact ⟨e441, (.slice as437_0 s437.1.length ns437_0), res_of (l := [.tmp 2]) (by kernel_rfl) (vs := [(.slice as437_0 s437.1.length ns437_0)]) ⟨rfl, trivial⟩, (.slice as437_0 s437.1.length ns437_0), F18, rfl, hs506.clear, ⟨as437_0, ns437_0, rfl, hb509, hs508⟩⟩
end Go.Proofs.Ythbcnabeabcmlaa
namespace Go.Proofs.Ythbcnabeabcmlaa
open Go.Proofs
end Go.Proofs.Ythbcnabeabcmlaa
namespace Go.Proofs.Ythbcnabeabcmlaa
theorem jumped_r {N : Nat} {c : Clock} (h : Fit N c.Jumps.length) (a b : Int) : ref03_jumped N c a b = some (jmp c.Jumps a b) := by
 unfold ref03_jumped
 have h1 := h.1
 rw [iter_check' (n := c.Jumps.length) (atB c.Jumps fun x => !(decide (a < x) && decide (x ≤ b))) true (fun i hi => by
  unfold ref03_jumped_L0
  rw [lt_t hi, cond_true, idx_nat hi, Option.bind_some, atB_at hi, W64_succ (by omega)]
  cases decide (a < c.Jumps[i]) with
  | false => rfl
  | true => simp only [cond_true, Option.bind_some, Bool.true_and]; cases decide (c.Jumps[i] ≤ b) <;> rfl) (by unfold ref03_jumped_L0; rw [lt_f]; rfl) h.2, ← all_allB]
 unfold jmp
 have : (c.Jumps.all fun x => !(decide (a < x) && decide (x ≤ b))) = !(c.Jumps.any fun x => decide (a < x) && decide (x ≤ b)) := by
  generalize c.Jumps = J
  induction J with
  | nil => rfl
  | cons x J ih => rw [List.all_cons, List.any_cons, ih, Bool.not_or]
 rw [this]
 cases (c.Jumps.any fun x => decide (a < x) && decide (x ≤ b)) <;> rfl
section
variable {N : Nat} {s : System}
theorem bounds_r (hf : FitS N s) (h : vCheck s = 0) : ref03_bounds N s = some (bnds s) := by
 obtain ⟨k1, k2, k3, k4, k5, k6⟩ := check_ok h
 unfold ref03_bounds
 have hn := hf.n.2
 rw [iter_cat' (body := ref03_bounds_L0 N s) (n := s.Tracks.length) 800 (slips s) (fun i hi => slips_len h hi) (fun i st hi hst => by
  unfold ref03_bounds_L0
  have ht := hf.t _ (List.getElem_mem hi)
  have h400 := (track_facts (k3 _ (List.getElem_mem hi))).2.2
  simp only [lt_t hi, cond_true, idx_nat hi, Option.bind_some]
  rw [iter_cat' (body := ref03_bounds_L1 N s (st, (i : Int)) s.Tracks[i]) (n := s.Tracks[i].Times.length) 2 (slipB (i : Int) s.Tracks[i]) (fun _ _ => Nat.le_refl _) (fun j st2 hj hst2 => by
   unfold ref03_bounds_L1
   simp only [lt_t hj, cond_true, idx_nat hj, Option.bind_some, ref03_Beginning]
   simp only [List.length_nil] at hst
   rw [apnd_ok (by simp; omega)]
   simp only [Option.bind_some]
   rw [apnd_ok (by simp; omega)]
   simp only [Option.bind_some]
   rw [W64_succ (by omega)]
   simp [slipB, hj, beg]) (fun st2 => by unfold ref03_bounds_L1; simp only [lt_f]; rfl) ht.t.2]
  simp only [Option.bind_some, Flow.k]
  rw [W64_succ (by omega)]
  simp [slips, hi]) (fun st => by unfold ref03_bounds_L0; simp only [lt_f]; rfl) hn]
 simp only [Option.bind_some, Flow.k, List.nil_append]
 have hl1 := cat_le (n := s.Tracks.length) (K := 800) (f := slips s) (fun i hi => slips_len h hi)
 generalize hA : cat s.Tracks.length (slips s) = A at *
 rw [iter_cat' (body := ref03_bounds_L2 N s (A, (s.Tracks.length : Int))) (n := s.Tracks.length) 1200 (ords s) (fun i hi => ords_len h hi) (fun i st hi hst => by
  unfold ref03_bounds_L2
  have ht := hf.t _ (List.getElem_mem hi)
  have hv := k3 _ (List.getElem_mem hi)
  have h400 := (track_facts hv).2.2
  simp only [lt_t hi, cond_true, idx_nat hi, Option.bind_some]
  have ht2 := ht.t.2
  rw [iter_cat' (body := ref03_bounds_L3 N s (A, (s.Tracks.length : Int)) (st, (i : Int)) s.Tracks[i]) (n := s.Tracks[i].Times.length - 1) 3 (ordB (i : Int) s.Tracks[i]) (fun j _ => ordB_len _ _ j) (fun j st2 hj hst2 => by
   unfold ref03_bounds_L3
   have hj1 : j + 1 < s.Tracks[i].Times.length := by omega
   have hj0 : j < s.Tracks[i].Times.length := by omega
   simp only
   rw [W64_succ (by omega)]
   simp only [lt_t hj1, cond_true, idx_nat hj1, idx_nat hj0, Option.bind_some, jumped_r ht.j]
   rw [apnd_ok (by simp; omega)]
   simp only [Option.bind_some]
   cases hjm : jmp s.Tracks[i].Clock.Jumps s.Tracks[i].Times[j] s.Tracks[i].Times[j + 1] with
   | true => simp [ordB, hj0, hj1, hjm]
   | false =>
    simp only [cond_false]
    rw [apnd_ok (by simp; omega)]
    simp only [Option.bind_some]
    rw [apnd_ok (by simp; omega)]
    simp [ordB, hj0, hj1, hjm, gapB, widB]) (fun st2 => by
     unfold ref03_bounds_L3
     have e : decide (W64 (((s.Tracks[i].Times.length - 1 : Nat) : Int) + 1) < (s.Tracks[i].Times.length : Int)) = false := by
      rw [W64_succ (by omega)]; simp; omega
     simp only [e]; rfl) (by omega)]
  simp only [Option.bind_some, Flow.k]
  rw [W64_succ (by omega)]
  simp [ords, hi]) (fun st => by unfold ref03_bounds_L2; simp only [lt_f]; rfl) hn]
 simp only [Option.bind_some, Flow.k]
 have hl2 := cat_le (n := s.Tracks.length) (K := 1200) (f := ords s) (fun i hi => ords_len h hi)
 have he := hf.e.2
 rw [iter_cat' (body := ref03_bounds_L4 N s (A, (s.Tracks.length : Int)) (A ++ cat s.Tracks.length (ords s), (s.Tracks.length : Int))) (n := s.Ties.length) 2 (tieB s) (fun j _ => tieB_len _ j) (fun j st hj hst => by
  unfold ref03_bounds_L4
  simp only [List.length_append] at hst
  simp only [lt_t hj, cond_true, idx_nat hj, Option.bind_some]
  rw [apnd_ok (by simp; omega)]
  simp only [Option.bind_some]
  rw [apnd_ok (by simp; omega)]
  simp only [Option.bind_some]
  rw [W64_succ (by omega)]
  simp [tieB, hj]) (fun st => by unfold ref03_bounds_L4; simp only [lt_f]; rfl) he]
 simp only [Option.bind_some, Flow.k, bnds, hA, List.append_assoc]
end
end Go.Proofs.Ythbcnabeabcmlaa
namespace Go.Proofs.Ythbcnabeabcmlaa
open Go.Proofs
def ref03_spots_L0 (N : Nat) (x0 : System) : (Int × List Int × Int) → Option (Flow Spot (Int × List Int × Int)) := fun s17 =>
 (bif (decide (s17.1 < (x0.Tracks.length : Int))) then ((apnd s17.2.1 [s17.2.2]).bind fun r46 => (((idx x0.Tracks s17.1).bind fun x70 => some (W64 (s17.2.2 + (x70.Times.length : Int)))).bind fun j62 => some (.next ((W64 (s17.1 + 1)), r46, j62)))) else some (.done (s17.1, s17.2.1, s17.2.2)))
def ref03_spots (N : Nat) (x0 : System) : Option Spot :=
 ((iter (ref03_spots_L0 N x0) N (0, ([] : List Int), 1)).bind fun o => o.k (fun r => some r) (fun s26 => some ({ first_ := s26.2.1, n_ := s26.2.2 } : Spot)))
theorem co_ref03_spots : CallOk Try.prog 80 := fun _ _ => by kernel_rfl
set_option maxHeartbeats 4000000 in
set_option maxRecDepth 100000 in
theorem c_ref03_spots (N : Nat) (w0 : World) (F0 : Mem) (hF : ∀ b o, F0 b = some o → w0.heap[b]? = some o) (x0 : System) (a0_0 : Option Addr) (n0_0 : Nat) (hb0_0 : LC x0.Tracks.length n0_0) (hs0_0 : SlA tTrack F0 a0_0 x0.Tracks) (a0_1 : Option Addr) (n0_1 : Nat) (hb0_1 : LC x0.Ties.length n0_1) (hs0_1 : SlA tTie F0 a0_1 x0.Ties) (r : Spot) (h : ref03_spots N x0 = some r) :
  Calls Try.prog 80 ([(.agg (kSystem x0 a0_0 n0_0 a0_1 n0_1))] : List Value).toArray w0 (FRet w0 F0 fun F' v => ∃ (aq0_0 : Option Addr) (nq0_0 : Nat), v = (.agg (kSpot r aq0_0 nq0_0)) ∧ LC r.first_.length nq0_0 ∧ SlA tInt F' aq0_0 r.first_) := by
 have hs0 := HS.start hF
 refine calls_of (n := 32) (c := bodyOf Try.f80) Try.func80 (by kernel_rfl) (by kernel_rfl) (by kernel_rfl) ?_
 refine Sq (Rg [0, 1] ?_)
 refine Bx 1 0 0 25 (kSystem x0 a0_0 n0_0 a0_1 n0_1) hs0 (fun b1 w2 (hs3 : HS w0 F0 w2 F0 [(sb b1 (kSystem x0 a0_0 n0_0 a0_1 n0_1) 25)]) => ?_)
 refine Al 2 0 112 #[(.slice none ([] : List Int).length 0), (vi 0)] hs3 (fun b4 w5 (hs6 : HS w0 F0 w5 F0 [(sb b4 #[(.slice none ([] : List Int).length 0), (vi 0)] 112), (sb b1 (kSystem x0 a0_0 n0_0 a0_1 n0_1) 25)]) => ?_)
 refine Nss (Rg [0, 1, 2] ?_)
 refine V 5 112 (run_build2 (t := 112) (parts := #[(1, (.const (vi 1)))]) (vs := [(1, (vi 1))]) (rfl) (cs := [(.slice none ([] : List Int).length 0), (vi 1)]) (by kernel_rfl)) ?_
 refine Al 3 0 112 #[(.slice none ([] : List Int).length 0), (vi 0)] hs6 (fun b7 w8 (hs9 : HS w0 F0 w8 F0 [(sb b7 #[(.slice none ([] : List Int).length 0), (vi 0)] 112), (sb b4 #[(.slice none ([] : List Int).length 0), (vi 0)] 112), (sb b1 (kSystem x0 a0_0 n0_0 a0_1 n0_1) 25)]) => ?_)
 refine RWP.store (ty := 0) (g := none) (by kernel_rfl) rfl (x := (.tmp 3)) (y := (.tmp 5)) (t := 112) (gg := true) (s := 2) (v := (.agg #[(.slice none ([] : List Int).length 0), (vi 1)])) (b := b7) (o := 0) (C := #[(.slice none ([] : List Int).length 0), (vi 0)]) rfl rfl (by kernel_rfl) hs9 (k := 0) rfl rfl rfl rfl (C' := #[(.slice none ([] : List Int).length 0), (vi 1)]) rfl (fun w10 (hs11 : HS w0 F0 w10 F0 [(sb b7 #[(.slice none ([] : List Int).length 0), (vi 1)] 112), (sb b4 #[(.slice none ([] : List Int).length 0), (vi 0)] 112), (sb b1 (kSystem x0 a0_0 n0_0 a0_1 n0_1) 25)]) => ?_)
 refine Nss ?_
 refine Sq (Rg [0] ?_)
 refine V 4 3 (mc (vi 0) (vi 0)) ?_
 refine Nt ?_
 have hs12 : HS w0 F0 w10 F0 [(none, .cells #[] 0 (0, 0)), (sb b7 #[(.slice none ([] : List Int).length 0), (vi 1)] 112), (sb b4 #[(.slice none ([] : List Int).length 0), (vi 0)] 112), (sb b1 (kSystem x0 a0_0 n0_0 a0_1 n0_1) 25)] := hs11.dummy _
 obtain ⟨o14, ho15, h16⟩ := bind_some h
 refine CWP.cut (fun f w => ∃ (s26 : (Int × List Int × Int)) (F2 : Mem) (as26_1 : Option Addr) (ns26_1 : Nat) (es26_1 : Option Nat × Obj), o14 = .done s26 ∧ HS w0 F0 w F2 [es26_1, (sb b7 #[(.slice as26_1 s26.2.1.length ns26_1), (vi s26.2.2)] 112), (sb b4 #[(.slice none ([] : List Int).length 0), (vi 0)] 112)] ∧ Mem.le F0 F2 ∧ f.d = [] ∧ f 2 = (.pointer (some ⟨b4, 0, none⟩)) ∧ f 3 = (.pointer (some ⟨b7, 0, none⟩)) ∧ RowR tInt 3 F2 as26_1 ns26_1 s26.2.1 es26_1) ?_ ?_
 ·refine Bk ?_
  refine CWP.loop (by kernel_rfl) (fun m f w => ∃ (s17 : (Int × List Int × Int)) (F1 : Mem) (as17_1 : Option Addr) (ns17_1 : Nat) (es17_1 : Option Nat × Obj), iter (ref03_spots_L0 N x0) m s17 = some o14 ∧ HS w0 F0 w F1 [es17_1, (sb b7 #[(.slice as17_1 s17.2.1.length ns17_1), (vi s17.2.2)] 112), (sb b4 #[(.slice none ([] : List Int).length 0), (vi 0)] 112), (sb b1 (kSystem x0 a0_0 n0_0 a0_1 n0_1) 25)] ∧ Mem.le F0 F1 ∧ f.d = [] ∧ f 1 = (.pointer (some ⟨b1, 0, none⟩)) ∧ f 2 = (.pointer (some ⟨b4, 0, none⟩)) ∧ f 3 = (.pointer (some ⟨b7, 0, none⟩)) ∧ f 4 = (vi s17.1) ∧ RowR tInt 3 F1 as17_1 ns17_1 s17.2.1 es17_1) N ⟨(0, ([] : List Int), 1), F0, none, 0, (none, .cells #[] 0 (0, 0)), ho15, hs12, (Mem.le.refl _), rfl, rfl, rfl, rfl, rfl, (RowR.nil tInt 3 F0 _)⟩ ?_
  rintro m33 f w18 ⟨s17, F1, as17_1, ns17_1, es17_1, hit34, hs19, le20, e21, e22, e23, e24, e25, hrs17_1⟩
  obtain ⟨m35, fl36, rfl, hb37, hnx38⟩ := iter_step hit34
  refine Sq ?_
  refine Sq (Rg [0, 1, 2, 3, 4] ?_)
  refine V 6 3 (mv 4 (vi s17.1) e25) ?_
  refine V 7 0 (fa 25 1 0 0 1 b1 0 0 e22) ?_
  refine V 8 22 (ld 22 7 b1 0 false 1 (.slice a0_0 x0.Tracks.length n0_0) (hs19.ownAt (k := 3) rfl)) ?_
  refine V 9 3 (ln 8 22 a0_0 x0.Tracks.length n0_0 54 4 64) ?_
  refine V 10 4 (run_lss (t := 3) (t' := 3) (x := (.tmp 6)) (y := (.tmp 9)) (k := .i64) (a := s17.1) (b := (x0.Tracks.length : Int)) rfl rfl) ?_
  refine Nt ?_
  refine CWP.cond (t := (decide (s17.1 < (x0.Tracks.length : Int)))) (by kernel_rfl) rfl (fun hb39 => ?_) (fun hb39 => ?_)
  ·have h40 := cond_t hb37 hb39
   refine Sc ?_
   refine thenQ_nrm ?_
   refine Sq ?_
   refine Bk ?_
   refine Sq (Rg [0, 1, 2, 3, 4, 5, 6, 7] ?_)
   refine V 13 0 (fa 112 3 0 0 1 b7 0 0 e24) ?_
   refine V 14 50 (ld 50 13 b7 0 false 1 (.slice as17_1 s17.2.1.length ns17_1) (hs19.ownAt (k := 1) rfl)) ?_
   refine V 15 0 (fa 112 3 1 1 1 b7 0 1 e24) ?_
   refine V 16 3 (ld 3 15 b7 1 false 1 (vi s17.2.2) (hs19.ownAt (k := 1) rfl)) ?_
   refine RWP.buildSlice (dst := (some 17)) (ty := 50) (g := none) (by kernel_rfl) rfl (t := 50) (len := 1) (parts := #[(0, (.tmp 16))]) (vs := [(0, (vi s17.2.2))]) (rfl) (E := 3) (cs := [(vi s17.2.2)]) (by kernel_rfl) hs19 (fun b41 w42 (hs43 : HS w0 F0 w42 F1 [(some b41, .cells ([(vi s17.2.2)] : List Value).toArray 3 (0, 0)), es17_1, (sb b7 #[(.slice as17_1 s17.2.1.length ns17_1), (vi s17.2.2)] 112), (sb b4 #[(.slice none ([] : List Int).length 0), (vi 0)] 112), (sb b1 (kSystem x0 a0_0 n0_0 a0_1 n0_1) 25)]) => ?_)
   have hr45 : RowR tInt 3 F1 (some ⟨b41, 0, none⟩) 1 [s17.2.2] (some b41, .cells ([(vi s17.2.2)] : List Value).toArray 3 (0, 0)) := RowR.lit ⟨rfl, rfl⟩ (by simp)
   obtain ⟨r46, hap47, h48⟩ := bind_some h40
   refine RWP.append (dst := (some 18)) (ty := 50) (g := none) (by kernel_rfl) rfl (x := (.tmp 14)) (y := (.tmp 17)) (t := 50) (t2 := 50) (by_ := 8) (z := (vi 0)) (a2 := (some ⟨b41, 0, none⟩)) (c2 := 1) (m := [s17.2.2]) (T := tInt) (E := 3) (a := as17_1) (cap := ns17_1) (l := s17.2.1) rfl rfl (by kernel_rfl) (by decide) (by kernel_rfl) (by kernel_rfl) rfl oInt hs43 (k := 1) rfl hrs17_1 (RowR.rd hs43 (k := 0) rfl hr45) (r := r46) hap47 (fun a49 n50 e51 w52 (hs53 : HS w0 F0 w52 F1 [(some b41, .cells ([(vi s17.2.2)] : List Value).toArray 3 (0, 0)), e51, (sb b7 #[(.slice as17_1 s17.2.1.length ns17_1), (vi s17.2.2)] 112), (sb b4 #[(.slice none ([] : List Int).length 0), (vi 0)] 112), (sb b1 (kSystem x0 a0_0 n0_0 a0_1 n0_1) 25)]) hr54 => ?_)
   refine V 19 0 (fa 112 3 0 0 1 b7 0 0 e24) ?_
   refine RWP.store (ty := 0) (g := none) (by kernel_rfl) rfl (x := (.tmp 19)) (y := (.tmp 18)) (t := 50) (gg := false) (s := 1) (v := (.slice a49 r46.length n50)) (b := b7) (o := 0) (C := #[(.slice as17_1 s17.2.1.length ns17_1), (vi s17.2.2)]) rfl rfl (by kernel_rfl) hs53 (k := 2) rfl rfl rfl rfl (C' := #[(.slice a49 r46.length n50), (vi s17.2.2)]) rfl (fun w55 (hs56 : HS w0 F0 w55 F1 [(some b41, .cells ([(vi s17.2.2)] : List Value).toArray 3 (0, 0)), e51, (sb b7 #[(.slice a49 r46.length n50), (vi s17.2.2)] 112), (sb b4 #[(.slice none ([] : List Int).length 0), (vi 0)] 112), (sb b1 (kSystem x0 a0_0 n0_0 a0_1 n0_1) 25)]) => ?_)
   refine Nt ?_
   obtain ⟨j62, hj68, h69⟩ := bind_some h48
   refine CWP.regionD (by kernel_rfl) (by kernel_rfl) (by kernel_rfl) (by kernel_rfl) (z := 11) (F := F1) (Lc := [(some b41, .cells ([(vi s17.2.2)] : List Value).toArray 3 (0, 0)), e51, (sb b4 #[(.slice none ([] : List Int).length 0), (vi 0)] 112), (sb b1 (kSystem x0 a0_0 n0_0 a0_1 n0_1) 25)]) (Lz := [(sb b7 #[(.slice a49 r46.length n50), (vi s17.2.2)] 112)]) (l := [false, false, false, false, false, false, false, false, false, false, false, false]) (fuel := 12) (by kernel_rfl) (by kernel_rfl) hs56 (by simp) (by simp) (fun f w => ∃ (F3 : Mem), HS w0 F0 w F3 [e51, (sb b7 #[(.slice a49 r46.length n50), (vi j62)] 112), (sb b4 #[(.slice none ([] : List Int).length 0), (vi 0)] 112), (sb b1 (kSystem x0 a0_0 n0_0 a0_1 n0_1) 25)] ∧ Mem.le F1 F3 ∧ f.d = [] ∧ f 1 = (.pointer (some ⟨b1, 0, none⟩)) ∧ f 2 = (.pointer (some ⟨b4, 0, none⟩)) ∧ f 3 = (.pointer (some ⟨b7, 0, none⟩)) ∧ f 4 = (vi s17.1)) (fun wd57 hw58 => ?_) ?_
   ·refine Df 0 20 0 (.pointer (some ⟨b7, 1, none⟩)) (fun _ hq => fa 112 3 1 1 1 b7 0 1 e24) ?_
    refine Df 1 21 3 _ (fun _ hq => ld 3 20 b7 1 false 1 (vi s17.2.2) ((hq.2 rfl).2 0 _ _ rfl)) ?_
    refine Df 2 22 0 (.pointer (some ⟨b1, 0, none⟩)) (fun _ hq => fa 25 1 0 0 1 b1 0 0 e22) ?_
    refine Df 3 23 22 _ (fun _ hq => ld 22 22 b1 0 false 1 (.slice a0_0 x0.Tracks.length n0_0) (hq.1.2 3 _ _ rfl)) ?_
    refine Df 4 24 3 _ (fun _ hq => mv 4 (vi s17.1) e25) ?_
    obtain ⟨x70, hx71, h73⟩ := bind_some hj68
    obtain ⟨hi72, hx71'⟩ := idx_spec hx71
    obtain ⟨b74, o75, C76, E77, fz78, rfl, hF80, hE81⟩ := SlA.open (SlA.mono hs0_0 le20) hx71'
    obtain ⟨ae82_2, ne82_2, ae82_3, ne82_3, hc83, hbe82_2, hse82_2, hbe82_3, hse82_3⟩ := hE81 _ _ hx71'
    refine Df 5 25 0 (.pointer (some ⟨b74, (o75 + (s17.1 : Int).toNat * 4), none⟩)) (fun _ hq => ix 22 23 24 b74 o75 54 4 64 hi72) ?_
    refine Df 6 26 0 (.pointer (some ⟨b74, ((o75 + (s17.1 : Int).toNat * 4) + 3), none⟩)) (fun _ hq => fa 54 25 1 3 1 b74 (o75 + (s17.1 : Int).toNat * 4) ((o75 + (s17.1 : Int).toNat * 4) + 3)) ?_
    refine Df 7 27 50 _ (fun _ hq => lx 50 26 3 4 false 1 (.slice ae82_3 x70.Times.length ne82_3) (hq.1.1 _ _ hF80) hc83) ?_
    refine Df 8 28 3 (vi (x70.Times.length : Int)) (fun _ hq => ln 27 50 ae82_3 x70.Times.length ne82_3 3 1 8) ?_
    refine Df 9 29 3 (vi (W64 (s17.2.2 + (x70.Times.length : Int)))) (fun _ hq => run_add (t := 3) (t' := 3) (x := (.tmp 21)) (y := (.tmp 28)) (k := .i64) (a := s17.2.2) (b := (x70.Times.length : Int)) rfl rfl) ?_
    refine Df 10 30 0 (.pointer (some ⟨b7, 1, none⟩)) (fun _ hq => fa 112 3 1 1 1 b7 0 1 e24) ?_
    refine DWP.one (i := 11) (by kernel_rfl) ?_
    refine DStep.store (l' := [true, true, true, true, true, true, true, true, true, true, true, true]) (zd := true) (by kernel_rfl) (by kernel_rfl) (ty := 0) (g := none) (by kernel_rfl) rfl (x := (.tmp 30)) (y := (.tmp 29)) (t := 3) (gg := false) (s := 1) (v := (vi (W64 (s17.2.2 + (x70.Times.length : Int))))) (b := b7) (o := 1) (C := #[(.slice a49 r46.length n50), (vi s17.2.2)]) rfl rfl (by kernel_rfl) hw58 (k := 2) rfl rfl rfl rfl (C' := #[(.slice a49 r46.length n50), (vi (W64 (s17.2.2 + (x70.Times.length : Int))))]) rfl (Mem.le.refl _) (by simp) (fun e => by cases e) (fun w84 (hs85 : HS w0 F0 w84 F1 [(some b41, .cells ([(vi s17.2.2)] : List Value).toArray 3 (0, 0)), e51, (sb b7 #[(.slice a49 r46.length n50), (vi (W64 (s17.2.2 + (x70.Times.length : Int))))] 112), (sb b4 #[(.slice none ([] : List Int).length 0), (vi 0)] 112), (sb b1 (kSystem x0 (some ⟨b74, o75, none⟩) n0_0 a0_1 n0_1) 25)]) => ?_)
    obtain rfl := some_inj h73
    have hs86 : HS w0 F0 w84 F1 [e51, (sb b7 #[(.slice a49 r46.length n50), (vi (W64 (s17.2.2 + (x70.Times.length : Int))))] 112), (sb b4 #[(.slice none ([] : List Int).length 0), (vi 0)] 112), (sb b1 (kSystem x0 (some ⟨b74, o75, none⟩) n0_0 a0_1 n0_1) 25)] := hs85.drop 0
    exact DWP.done (by kernel_rfl) ⟨F1, hs86, (Mem.le.refl _), e21, e22, e23, e24, e25⟩
   ·rintro f w59 ⟨F3, hs60, le61, e63, e64, e65, e66, e67⟩
    refine blockQ_nrm ?_
    refine thenQ_nrm ?_
    refine Rg [0, 1, 2] ?_
    refine V 11 3 (mv 4 (vi s17.1) e67) ?_
    refine V 12 3 (run_add (t := 3) (t' := 3) (x := (.tmp 11)) (y := (.const (vi 1))) (k := .i64) (a := s17.1) (b := 1) rfl rfl) ?_
    refine V 4 3 (ma 12 (vi (W64 (s17.1 + 1)))) ?_
    refine RWP.nil ?_
    have hn87 := iter_next h69 hnx38
    exact ⟨m35, Nat.lt_succ_self _, ((W64 (s17.1 + 1)), r46, j62), F3, a49, n50, e51, hn87, hs60, (le20.trans le61), e63, e64, e65, e66, rfl, (hr54.mono le61)⟩
  ·have h88 := cond_f hb37 hb39
   refine CWP.exit (by kernel_rfl) ?_
   refine thenQ_ex ?_
   refine thenQ_ex ?_
   refine blockQ_hit rfl ?_
   have hs89 : HS w0 F0 w18 F1 [es17_1, (sb b7 #[(.slice as17_1 s17.2.1.length ns17_1), (vi s17.2.2)] 112), (sb b4 #[(.slice none ([] : List Int).length 0), (vi 0)] 112)] := hs19.drop 3
   have ho90 := iter_done h88 hnx38
   exact .inl ⟨rfl, (s17.1, s17.2.1, s17.2.2), F1, as17_1, ns17_1, es17_1, ho90, hs89, le20, e21, e23, e24, hrs17_1⟩
 ·rintro f w27 ⟨s26, F2, as26_1, ns26_1, es26_1, rfl, hs28, le29, e30, e31, e32, hrs26_1⟩
  have h91 := k_done h16
  refine thenQ_nrm ?_
  refine Sq (Rg [0, 1] ?_)
  refine V 31 112 (ld 112 3 b7 0 true 2 (.agg #[(.slice as26_1 s26.2.1.length ns26_1), (vi s26.2.2)]) (hs28.ownAt (k := 1) rfl) e32) ?_
  refine RWP.store (ty := 0) (g := none) (by kernel_rfl) rfl (x := (.tmp 2)) (y := (.tmp 31)) (t := 112) (gg := true) (s := 2) (v := (.agg #[(.slice as26_1 s26.2.1.length ns26_1), (vi s26.2.2)])) (b := b4) (o := 0) (C := #[(.slice none ([] : List Int).length 0), (vi 0)]) e31 rfl (by kernel_rfl) hs28 (k := 2) rfl rfl rfl rfl (C' := #[(.slice as26_1 s26.2.1.length ns26_1), (vi s26.2.2)]) rfl (fun w92 (hs93 : HS w0 F0 w92 F2 [es26_1, (sb b7 #[(.slice as26_1 s26.2.1.length ns26_1), (vi s26.2.2)] 112), (sb b4 #[(.slice as26_1 s26.2.1.length ns26_1), (vi s26.2.2)] 112)]) => ?_)
  refine Nt ?_
  refine CWP.ret (by kernel_rfl) ?_
  have hb97 := RowR.bound hrs26_1
  obtain ⟨F4, hs94, le95, hs96⟩ : ∃ Fq, HS w0 F0 w92 Fq [(sb b7 #[(.slice as26_1 s26.2.1.length ns26_1), (vi s26.2.2)] 112), (sb b4 #[(.slice as26_1 s26.2.1.length ns26_1), (vi s26.2.2)] 112)] ∧ Mem.le F2 Fq ∧ SlA tInt Fq as26_1 s26.2.1 := HS.freezeRow hs93 (k := 0) rfl hrs26_1
  have hfin := some_inj h91
  subst hfin
  exact ⟨e30, (.agg #[(.slice as26_1 s26.2.1.length ns26_1), (vi s26.2.2)]), res_of (l := [.cell 2 112]) (by kernel_rfl) (vs := [(.agg #[(.slice as26_1 s26.2.1.length ns26_1), (vi s26.2.2)])]) ⟨b4, 0, e31, run_loadVar' (t := 112) (g := true) (s := 2) (by kernel_rfl) (hs94.ownAt (k := 1) rfl) rfl (by decide), trivial⟩, (.agg #[(.slice as26_1 s26.2.1.length ns26_1), (vi s26.2.2)]), F4, rfl, hs94.clear, ⟨as26_1, ns26_1, rfl, hb97, hs96⟩⟩
end Go.Proofs.Ythbcnabeabcmlaa
namespace Go.Proofs.Ythbcnabeabcmlaa
open Go.Proofs
def ref03_spot_of (N : Nat) (x0 : Spot) (x1 : Ref) : Option Int :=
 (bif (decide (x1.Log < 0)) then some 0 else (((idx x0.first_ x1.Log).bind fun x20 => some (W64 (x20 + x1.Line))).bind fun j15 => some j15))
theorem co_ref03_spot_of : CallOk Try.prog 81 := fun _ _ => by kernel_rfl
set_option maxHeartbeats 4000000 in
set_option maxRecDepth 100000 in
theorem c_ref03_spot_of (N : Nat) (w0 : World) (F0 : Mem) (hF : ∀ b o, F0 b = some o → w0.heap[b]? = some o) (x0 : Spot) (a0_0 : Option Addr) (n0_0 : Nat) (hb0_0 : LC x0.first_.length n0_0) (hs0_0 : SlA tInt F0 a0_0 x0.first_) (x1 : Ref) (r : Int) (h : ref03_spot_of N x0 x1 = some r) :
  Calls Try.prog 81 ([(.agg (kSpot x0 a0_0 n0_0)), (.agg (kRef x1))] : List Value).toArray w0 (FRet w0 F0 fun F' v => v = (vi r)) := by
 have hs0 := HS.start hF
 refine calls_of (n := 17) (c := bodyOf Try.f81) Try.func81 (by kernel_rfl) (by kernel_rfl) (by kernel_rfl) ?_
 refine Sq (Rg [0, 1, 2] ?_)
 refine Bx 2 0 0 112 (kSpot x0 a0_0 n0_0) hs0 (fun b1 w2 (hs3 : HS w0 F0 w2 F0 [(sb b1 (kSpot x0 a0_0 n0_0) 112)]) => ?_)
 refine Bx 3 0 1 27 (kRef x1) hs3 (fun b4 w5 (hs6 : HS w0 F0 w5 F0 [(sb b4 (kRef x1) 27), (sb b1 (kSpot x0 a0_0 n0_0) 112)]) => ?_)
 refine V 4 3 (mc (vi 0) (vi 0)) ?_
 refine Nss ?_
 refine Sq (Rg [0, 1, 2] ?_)
 refine V 5 0 (fa 27 3 0 0 1 b4 0 0) ?_
 refine V 6 3 (ld 3 5 b4 0 false 1 (vi x1.Log) (hs6.ownAt (k := 0) rfl)) ?_
 refine V 7 4 (run_lss (t := 3) (t' := 3) (x := (.tmp 6)) (y := (.const (vi 0))) (k := .i64) (a := x1.Log) (b := 0) rfl rfl) ?_
 refine Nt ?_
 refine CWP.cond (t := (decide (x1.Log < 0))) (by kernel_rfl) rfl (fun hb7 => ?_) (fun hb7 => ?_)
 ·have h8 := cond_t h hb7
  refine Sq (Rg [0] ?_)
  refine V 4 3 (mc (vi 0) (vi 0)) ?_
  refine Nt ?_
  refine CWP.ret (by kernel_rfl) ?_
  refine thenQ_ret ?_
  have hfin := some_inj h8
  subst hfin
  exact ⟨rfl, (vi 0), res_of (l := [.tmp 4]) (by kernel_rfl) (vs := [(vi 0)]) ⟨rfl, trivial⟩, (vi 0), F0, rfl, hs6.clear, rfl⟩
 ·have h9 := cond_f h hb7
  refine Sc ?_
  refine thenQ_nrm ?_
  refine Sq ?_
  obtain ⟨j15, hj18, h19⟩ := bind_some h9
  refine CWP.regionD (by kernel_rfl) (by kernel_rfl) (by kernel_rfl) (by kernel_rfl) (z := 10) (F := F0) (Lc := [(sb b4 (kRef x1) 27), (sb b1 (kSpot x0 a0_0 n0_0) 112)]) (Lz := []) (l := [false, false, false, false, false, false, false, false, false, false]) (fuel := 10) (by kernel_rfl) (by kernel_rfl) hs6 (by simp) (by simp) (fun f w => ∃ (F1 : Mem), HS w0 F0 w F1 [] ∧ Mem.le F0 F1 ∧ f.d = [] ∧ f 4 = (vi j15)) (fun wd10 hw11 => ?_) ?_
  ·refine Dt 0 8 0 (.pointer (some ⟨b1, 0, none⟩)) (fun _ hq => fa 112 2 0 0 1 b1 0 0) ?_
   refine Dt 1 9 50 _ (fun _ hq => ld 50 8 b1 0 false 1 (.slice a0_0 x0.first_.length n0_0) (hq.1.2 1 _ _ rfl)) ?_
   refine Dt 2 10 0 (.pointer (some ⟨b4, 0, none⟩)) (fun _ hq => fa 27 3 0 0 1 b4 0 0) ?_
   refine Dt 3 11 3 _ (fun _ hq => ld 3 10 b4 0 false 1 (vi x1.Log) (hq.1.2 0 _ _ rfl)) ?_
   obtain ⟨x20, hx21, h23⟩ := bind_some hj18
   obtain ⟨hi22, hx21'⟩ := idx_spec hx21
   obtain ⟨b24, o25, C26, E27, fz28, rfl, hF30, hE31⟩ := SlA.open hs0_0 hx21'
   have hc33 := hE31 _ _ hx21'
   refine Dt 4 12 0 (.pointer (some ⟨b24, (o25 + (x1.Log : Int).toNat * 1), none⟩)) (fun _ hq => ix 50 9 11 b24 o25 3 1 8 hi22) ?_
   refine Dt 5 13 3 _ (fun _ hq => lx 3 12 0 1 false 1 (vi x20) (hq.1.1 _ _ hF30) hc33) ?_
   refine Dt 6 14 0 (.pointer (some ⟨b4, 1, none⟩)) (fun _ hq => fa 27 3 1 1 1 b4 0 1) ?_
   refine Dt 7 15 3 _ (fun _ hq => ld 3 14 b4 1 false 1 (vi x1.Line) (hq.1.2 0 _ _ rfl)) ?_
   refine Dt 8 16 3 (vi (W64 (x20 + x1.Line))) (fun _ hq => run_add (t := 3) (t' := 3) (x := (.tmp 13)) (y := (.tmp 15)) (k := .i64) (a := x20) (b := x1.Line) rfl rfl) ?_
   refine Dt 9 4 3 _ (fun _ hq => ma 16 (vi (W64 (x20 + x1.Line)))) ?_
   obtain rfl := some_inj h23
   have hs34 : HS w0 F0 wd10 F0 [(sb b1 (kSpot x0 (some ⟨b24, o25, none⟩) n0_0) 112)] := hw11.drop 0
   have hs35 : HS w0 F0 wd10 F0 [] := hs34.drop 0
   exact DWP.done (by kernel_rfl) ⟨F0, hs35, (Mem.le.refl _), rfl, rfl⟩
  ·rintro f w12 ⟨F1, hs13, le14, e16, e17⟩
   refine thenQ_nrm ?_
   refine CWP.ret (by kernel_rfl) ?_
   have hfin := some_inj h19
   subst hfin
   exact ⟨e16, (vi j15), res_of (l := [.tmp 4]) (by kernel_rfl) (vs := [(vi j15)]) ⟨e17, trivial⟩, (vi j15), F1, rfl, hs13.clear, rfl⟩
end Go.Proofs.Ythbcnabeabcmlaa
namespace Go.Proofs.Ythbcnabeabcmlaa
open Go.Proofs
def ref03_reach_L0 (N : Nat) (x0 : System) (x1 : Int) (r4 : Spot) (r17 : (List Bound)) (r25 : List Int) (r35 : List Int) : (Int × List Int × List Int) → Option (Flow ((List Int) × (List Int) × Int) (Int × List Int × List Int)) := fun s49 =>
 (bif (decide (s49.1 < r4.n_)) then ((idx s49.2.1 s49.1).bind fun x78 => ((idx s49.2.2 s49.1).bind fun x94 => some (.next ((W64 (s49.1 + 1)), (s49.2.1.set (s49.1 : Int).toNat (1125899906842624)), (s49.2.2.set (s49.1 : Int).toNat ((-1))))))) else some (.done (s49.1, s49.2.1, s49.2.2)))
def ref03_reach_L2 (N : Nat) (x0 : System) (x1 : Int) (r4 : Spot) (r17 : (List Bound)) (r25 : List Int) (r35 : List Int) (s60 : (Int × List Int × List Int)) (x114 : Int) (s133 : (Int × List Int × List Int)) : (Int × Int × List Int × List Int) → Option (Flow ((List Int) × (List Int) × Int) (Int × Int × List Int × List Int)) := fun s161 =>
 (bif (decide (s161.2.1 < (r17.length : Int))) then (((idx r17 s161.2.1).bind fun x209 => ((ref03_spot_of N r4 x209.From).bind fun r223 => some r223)).bind fun j197 => (((idx r17 s161.2.1).bind fun x249 => ((ref03_spot_of N r4 x249.To).bind fun r263 => some r263)).bind fun j236 => (((idx s161.2.2.1 j197).bind fun x290 => (bif (decide (x290 < 1125899906842624)) then ((idx s161.2.2.1 j197).bind fun x304 => ((idx r17 s161.2.1).bind fun x315 => ((idx s161.2.2.1 j236).bind fun x329 => some (decide ((W64 (x304 + x315.Most)) < x329))))) else some false)).bind fun j276 => ((bif j276 then (((idx s161.2.2.1 j197).bind fun x373 => ((idx r17 s161.2.1).bind fun x385 => ((idx s161.2.2.1 j236).bind fun x399 => some (s161.2.2.1.set (j236 : Int).toNat ((W64 (x373 + x385.Most))))))).bind fun j362 => ((idx s161.2.2.2 j236).bind fun x414 => some (j362, (s161.2.2.2.set (j236 : Int).toNat (s161.2.1)), j236))) else some (s161.2.2.1, s161.2.2.2, s161.1)).bind fun j344 => some (.next (j344.2.2, (W64 (s161.2.1 + 1)), j344.1, j344.2.1)))))) else some (.done (s161.1, s161.2.1, s161.2.2.1, s161.2.2.2)))
def ref03_reach_L1 (N : Nat) (x0 : System) (x1 : Int) (r4 : Spot) (r17 : (List Bound)) (r25 : List Int) (r35 : List Int) (s60 : (Int × List Int × List Int)) (x114 : Int) : (Int × List Int × List Int) → Option (Flow ((List Int) × (List Int) × Int) (Int × List Int × List Int)) := fun s133 =>
 (bif (decide (s133.1 ≤ r4.n_)) then ((iter (ref03_reach_L2 N x0 x1 r4 r17 r25 r35 s60 x114 s133) N ((-1), 0, s133.2.1, s133.2.2)).bind fun o => o.k (fun r => some (.ret r)) (fun s173 => (bif (decide (s173.1 < 0)) then some (.ret (s173.2.2.1, s173.2.2.2, (-1))) else (bif (s133.1 == r4.n_) then some (.ret (s173.2.2.1, s173.2.2.2, s173.1)) else some (.next ((W64 (s133.1 + 1)), s173.2.2.1, s173.2.2.2)))))) else some (.done (s133.1, s133.2.1, s133.2.2)))
def ref03_reach (N : Nat) (x0 : System) (x1 : Int) : Option ((List Int) × (List Int) × Int) :=
 ((ref03_spots N x0).bind fun r4 => ((ref03_bounds N x0).bind fun r17 => ((mk0 0 r4.n_).bind fun r25 => ((mk0 0 r4.n_).bind fun r35 => ((iter (ref03_reach_L0 N x0 x1 r4 r17 r25 r35) N (0, r25, r35)).bind fun o => o.k (fun r => some r) (fun s60 => ((idx s60.2.1 x1).bind fun x114 => ((iter (ref03_reach_L1 N x0 x1 r4 r17 r25 r35 s60 x114) N (0, (s60.2.1.set (x1 : Int).toNat (0)), s60.2.2)).bind fun o => o.k (fun r => some r) (fun s143 => some (s143.2.1, s143.2.2, (-1)))))))))))
theorem co_ref03_reach : CallOk Try.prog 92 := fun _ _ => by kernel_rfl
set_option maxHeartbeats 4000000 in
set_option maxRecDepth 100000 in
theorem c_ref03_reach (N : Nat) (w0 : World) (F0 : Mem) (hF : ∀ b o, F0 b = some o → w0.heap[b]? = some o) (x0 : System) (a0_0 : Option Addr) (n0_0 : Nat) (hb0_0 : LC x0.Tracks.length n0_0) (hs0_0 : SlA tTrack F0 a0_0 x0.Tracks) (a0_1 : Option Addr) (n0_1 : Nat) (hb0_1 : LC x0.Ties.length n0_1) (hs0_1 : SlA tTie F0 a0_1 x0.Ties) (x1 : Int) (r : ((List Int) × (List Int) × Int)) (h : ref03_reach N x0 x1 = some r) :
  Calls Try.prog 92 ([(.agg (kSystem x0 a0_0 n0_0 a0_1 n0_1)), (vi x1)] : List Value).toArray w0 (FRet w0 F0 fun F' v => ∃ (aq0_0 : Option Addr) (nq0_0 : Nat) (aq1_0 : Option Addr) (nq1_0 : Nat), v = (.tuple #[(.slice aq0_0 r.1.length nq0_0), (.slice aq1_0 r.2.1.length nq1_0), (vi r.2.2)]) ∧ LC r.1.length nq0_0 ∧ SlA tInt F' aq0_0 r.1 ∧ LC r.2.1.length nq1_0 ∧ SlA tInt F' aq1_0 r.2.1) := by
 have hs0 := HS.start hF
 refine calls_of (n := 121) (c := bodyOf Try.f92) Try.func92 (by kernel_rfl) (by kernel_rfl) (by kernel_rfl) ?_
 refine Sq (Rg [0, 1, 2, 3] ?_)
 refine Bx 2 0 0 25 (kSystem x0 a0_0 n0_0 a0_1 n0_1) hs0 (fun b1 w2 (hs3 : HS w0 F0 w2 F0 [(sb b1 (kSystem x0 a0_0 n0_0 a0_1 n0_1) 25)]) => ?_)
 refine V 4 50 (mc (.slice none 0 0) (.slice none ([] : List Int).length 0)) ?_
 refine V 5 50 (mc (.slice none 0 0) (.slice none ([] : List Int).length 0)) ?_
 refine V 6 3 (mc (vi 0) (vi 0)) ?_
 refine Nss (Rg [0, 1, 2, 3] ?_)
 refine V 17 25 (ld 25 2 b1 0 true 3 (.agg (kSystem x0 a0_0 n0_0 a0_1 n0_1)) (hs3.ownAt (k := 0) rfl)) ?_
 obtain ⟨r4, hr5, h6⟩ := bind_some h
 refine Cl 18 112 80 #[(.tmp 17)] #[25] co_ref03_spots hs3 (c_ref03_spots N w2 F0 hs3.pers (x0) a0_0 n0_0 hb0_0 hs0_0 a0_1 n0_1 hb0_1 hs0_1 _ hr5) ?_
 intro v7 F1 w8 hs9 le10 hp11
 obtain ⟨ar4_0_0, nr4_0_0, rfl, hbr4_0_0, hsr4_0_0⟩ := hp11
 refine Al 7 0 112 #[(.slice none ([] : List Int).length 0), (vi 0)] hs9 (fun b12 w13 (hs14 : HS w0 F0 w13 F1 [(sb b12 #[(.slice none ([] : List Int).length 0), (vi 0)] 112), (sb b1 (kSystem x0 a0_0 n0_0 a0_1 n0_1) 25)]) => ?_)
 refine RWP.store (ty := 0) (g := none) (by kernel_rfl) rfl (x := (.tmp 7)) (y := (.tmp 18)) (t := 112) (gg := true) (s := 2) (v := (.agg (kSpot r4 ar4_0_0 nr4_0_0))) (b := b12) (o := 0) (C := #[(.slice none ([] : List Int).length 0), (vi 0)]) rfl rfl (by kernel_rfl) hs14 (k := 0) rfl rfl rfl rfl (C' := (kSpot r4 ar4_0_0 nr4_0_0)) rfl (fun w15 (hs16 : HS w0 F0 w15 F1 [(sb b12 (kSpot r4 ar4_0_0 nr4_0_0) 112), (sb b1 (kSystem x0 a0_0 n0_0 a0_1 n0_1) 25)]) => ?_)
 refine Nss (Rg [0, 1, 2] ?_)
 refine V 19 25 (ld 25 2 b1 0 true 3 (.agg (kSystem x0 a0_0 n0_0 a0_1 n0_1)) (hs16.ownAt (k := 1) rfl)) ?_
 obtain ⟨r17, hr18, h19⟩ := bind_some h6
 refine Cl 20 57 84 #[(.tmp 19)] #[25] co_ref03_bounds hs16 (c_ref03_bounds N w15 F1 hs16.pers (x0) a0_0 n0_0 hb0_0 (SlA.mono hs0_0 le10) a0_1 n0_1 hb0_1 (SlA.mono hs0_1 le10) _ hr18) ?_
 intro v20 F2 w21 hs22 le23 hp24
 obtain ⟨ar17_0_0, nr17_0_0, rfl, hbr17_0_0, hsr17_0_0⟩ := hp24
 refine V 8 57 (ma 20 (.slice ar17_0_0 r17.length nr17_0_0)) ?_
 refine Nss (Rg [0, 1, 2, 3] ?_)
 refine V 21 0 (fa 112 7 1 1 1 b12 0 1) ?_
 refine V 22 3 (ld 3 21 b12 1 false 1 (vi r4.n_) (hs22.ownAt (k := 0) rfl)) ?_
 obtain ⟨r25, hm26, h27⟩ := bind_some h19
 refine RWP.makeSlice (dst := (some 23)) (ty := 50) (g := none) (by kernel_rfl) rfl (x := (.tmp 22)) (y := (.tmp 22)) (t := 50) (by_ := 8) (z := (vi 0)) (T := tInt) (E := 3) rfl rfl (by kernel_rfl) (by decide) (by kernel_rfl) (z0 := 0) (fun _ => rfl) (by decide) hs22 hm26 (fun b28 n29 C30 w31 (hs32 : HS w0 F0 w31 F2 [(some b28, .cells C30 3 (0, 0)), (sb b12 (kSpot r4 ar4_0_0 nr4_0_0) 112), (sb b1 (kSystem x0 a0_0 n0_0 a0_1 n0_1) 25)]) hr33 => ?_)
 refine V 9 50 (ma 23 (.slice (some ⟨b28, 0, none⟩) r25.length n29)) ?_
 refine Nss (Rg [0, 1, 2, 3] ?_)
 refine V 24 0 (fa 112 7 1 1 1 b12 0 1) ?_
 refine V 25 3 (ld 3 24 b12 1 false 1 (vi r4.n_) (hs32.ownAt (k := 1) rfl)) ?_
 obtain ⟨r35, hm36, h37⟩ := bind_some h27
 refine RWP.makeSlice (dst := (some 26)) (ty := 50) (g := none) (by kernel_rfl) rfl (x := (.tmp 25)) (y := (.tmp 25)) (t := 50) (by_ := 8) (z := (vi 0)) (T := tInt) (E := 3) rfl rfl (by kernel_rfl) (by decide) (by kernel_rfl) (z0 := 0) (fun _ => rfl) (by decide) hs32 hm36 (fun b38 n39 C40 w41 (hs42 : HS w0 F0 w41 F2 [(some b38, .cells C40 3 (0, 0)), (some b28, .cells C30 3 (0, 0)), (sb b12 (kSpot r4 ar4_0_0 nr4_0_0) 112), (sb b1 (kSystem x0 a0_0 n0_0 a0_1 n0_1) 25)]) hr43 => ?_)
 refine V 10 50 (ma 26 (.slice (some ⟨b38, 0, none⟩) r35.length n39)) ?_
 refine Nss ?_
 refine Sq (Rg [0] ?_)
 refine V 11 3 (mc (vi 0) (vi 0)) ?_
 refine Nt ?_
 have hs45 : HS w0 F0 w41 F2 [(some b38, .cells C40 3 (0, 0)), (some b28, .cells C30 3 (0, 0)), (sb b12 (kSpot r4 ar4_0_0 nr4_0_0) 112)] := hs42.drop 3
 obtain ⟨o46, ho47, h48⟩ := bind_some h37
 refine CWP.cut (fun f w => ∃ (s60 : (Int × List Int × List Int)) (F4 : Mem) (es60_1 : Option Nat × Obj) (es60_2 : Option Nat × Obj), o46 = .done s60 ∧ HS w0 F0 w F4 [es60_2, es60_1, (sb b12 (kSpot r4 ar4_0_0 nr4_0_0) 112)] ∧ Mem.le F2 F4 ∧ f.d = [] ∧ f 1 = (vi x1) ∧ f 7 = (.pointer (some ⟨b12, 0, none⟩)) ∧ f 8 = (.slice ar17_0_0 r17.length nr17_0_0) ∧ f 9 = (.slice (some ⟨b28, 0, none⟩) s60.2.1.length n29) ∧ f 10 = (.slice (some ⟨b38, 0, none⟩) s60.2.2.length n39) ∧ RowR tInt 3 F4 (some ⟨b28, 0, none⟩) n29 s60.2.1 es60_1 ∧ RowR tInt 3 F4 (some ⟨b38, 0, none⟩) n39 s60.2.2 es60_2) ?_ ?_
 ·refine Bk ?_
  refine CWP.loop (by kernel_rfl) (fun m f w => ∃ (s49 : (Int × List Int × List Int)) (F3 : Mem) (es49_1 : Option Nat × Obj) (es49_2 : Option Nat × Obj), iter (ref03_reach_L0 N x0 x1 r4 r17 r25 r35) m s49 = some o46 ∧ HS w0 F0 w F3 [es49_2, es49_1, (sb b12 (kSpot r4 ar4_0_0 nr4_0_0) 112)] ∧ Mem.le F2 F3 ∧ f.d = [] ∧ f 1 = (vi x1) ∧ f 7 = (.pointer (some ⟨b12, 0, none⟩)) ∧ f 8 = (.slice ar17_0_0 r17.length nr17_0_0) ∧ f 9 = (.slice (some ⟨b28, 0, none⟩) s49.2.1.length n29) ∧ f 10 = (.slice (some ⟨b38, 0, none⟩) s49.2.2.length n39) ∧ f 11 = (vi s49.1) ∧ RowR tInt 3 F3 (some ⟨b28, 0, none⟩) n29 s49.2.1 es49_1 ∧ RowR tInt 3 F3 (some ⟨b38, 0, none⟩) n39 s49.2.2 es49_2) N ⟨(0, r25, r35), F2, (some b28, .cells C30 3 (0, 0)), (some b38, .cells C40 3 (0, 0)), ho47, hs45, (Mem.le.refl _), rfl, rfl, rfl, rfl, rfl, rfl, rfl, hr33, hr43⟩ ?_
  rintro m70 f w50 ⟨s49, F3, es49_1, es49_2, hit71, hs51, le52, e53, e54, e55, e56, e57, e58, e59, hrs49_1, hrs49_2⟩
  obtain ⟨m72, fl73, rfl, hb74, hnx75⟩ := iter_step hit71
  refine Sq ?_
  refine Sq (Rg [0, 1, 2, 3] ?_)
  refine V 27 3 (mv 11 (vi s49.1) e59) ?_
  refine V 28 0 (fa 112 7 1 1 1 b12 0 1 e55) ?_
  refine V 29 3 (ld 3 28 b12 1 false 1 (vi r4.n_) (hs51.ownAt (k := 2) rfl)) ?_
  refine V 30 4 (run_lss (t := 3) (t' := 3) (x := (.tmp 27)) (y := (.tmp 29)) (k := .i64) (a := s49.1) (b := r4.n_) rfl rfl) ?_
  refine Nt ?_
  refine CWP.cond (t := (decide (s49.1 < r4.n_))) (by kernel_rfl) rfl (fun hb76 => ?_) (fun hb76 => ?_)
  ·have h77 := cond_t hb74 hb76
   refine Sc ?_
   refine thenQ_nrm ?_
   refine Sq ?_
   refine Bk ?_
   refine Sq (Rg [0, 1, 2, 3] ?_)
   refine V 33 50 (mv 9 (.slice (some ⟨b28, 0, none⟩) s49.2.1.length n29) e57) ?_
   refine V 34 3 (mv 11 (vi s49.1) e59) ?_
   obtain ⟨x78, hx79, h81⟩ := bind_some h77
   obtain ⟨hi80, hx79'⟩ := idx_spec hx79
   obtain ⟨b82, C83, ha84, rfl, hE86⟩ := RowR.open hrs49_1 hx79'
   cases ha84
   have hr87 := hrs49_1
   have hc89 := hE86 _ _ hx79'
   refine V 35 0 (run_index0 (t := 50) (x := (.tmp 33)) (y := (.tmp 34)) (b := b28) (E := 3) (s := 1) (by_ := 8) rfl rfl (by kernel_rfl) hi80) ?_
   refine RWP.storeRow (ty := 0) (g := none) (by kernel_rfl) rfl (x := (.tmp 35)) (y := (.const (vi 1125899906842624))) (t := 3) (v := (vi 1125899906842624)) (gg := false) (b := b28) (j := (s49.1 : Int).toNat) (C := C83) (T := tInt) (E := 3) (u := (1125899906842624)) rfl rfl (by kernel_rfl) hs51 (k := 1) rfl hr87 hx79' rfl rfl (fun C90 w91 (hs92 : HS w0 F0 w91 F3 [es49_2, (some b28, .cells C90 3 (0, 0)), (sb b12 (kSpot r4 ar4_0_0 nr4_0_0) 112)]) hr93 => ?_)
   refine Nt ?_
   refine Rg [0, 1, 2, 3] ?_
   refine V 36 50 (mv 10 (.slice (some ⟨b38, 0, none⟩) s49.2.2.length n39) e58) ?_
   refine V 37 3 (mv 11 (vi s49.1) e59) ?_
   obtain ⟨x94, hx95, h97⟩ := bind_some h81
   obtain ⟨hi96, hx95'⟩ := idx_spec hx95
   obtain ⟨b98, C99, ha100, rfl, hE102⟩ := RowR.open hrs49_2 hx95'
   cases ha100
   have hr103 := hrs49_2
   have hc105 := hE102 _ _ hx95'
   refine V 38 0 (run_index0 (t := 50) (x := (.tmp 36)) (y := (.tmp 37)) (b := b38) (E := 3) (s := 1) (by_ := 8) rfl rfl (by kernel_rfl) hi96) ?_
   refine RWP.storeRow (ty := 0) (g := none) (by kernel_rfl) rfl (x := (.tmp 38)) (y := (.const (vi (-1)))) (t := 3) (v := (vi (-1))) (gg := false) (b := b38) (j := (s49.1 : Int).toNat) (C := C99) (T := tInt) (E := 3) (u := ((-1))) rfl rfl (by kernel_rfl) hs92 (k := 0) rfl hr103 hx95' rfl rfl (fun C106 w107 (hs108 : HS w0 F0 w107 F3 [(some b38, .cells C106 3 (0, 0)), (some b28, .cells C90 3 (0, 0)), (sb b12 (kSpot r4 ar4_0_0 nr4_0_0) 112)]) hr109 => ?_)
   refine RWP.nil ?_
   refine blockQ_nrm ?_
   refine thenQ_nrm ?_
   refine Rg [0, 1, 2] ?_
   refine V 31 3 (mv 11 (vi s49.1) e59) ?_
   refine V 32 3 (run_add (t := 3) (t' := 3) (x := (.tmp 31)) (y := (.const (vi 1))) (k := .i64) (a := s49.1) (b := 1) rfl rfl) ?_
   refine V 11 3 (ma 32 (vi (W64 (s49.1 + 1)))) ?_
   refine RWP.nil ?_
   have hn110 := iter_next h97 hnx75
   exact ⟨m72, Nat.lt_succ_self _, ((W64 (s49.1 + 1)), (s49.2.1.set (s49.1 : Int).toNat (1125899906842624)), (s49.2.2.set (s49.1 : Int).toNat ((-1)))), F3, (some b28, .cells C90 3 (0, 0)), (some b38, .cells C106 3 (0, 0)), hn110, hs108, le52, e53, e54, e55, e56, (len_set e57), (len_set e58), rfl, hr93, hr109⟩
  ·have h111 := cond_f hb74 hb76
   refine CWP.exit (by kernel_rfl) ?_
   refine thenQ_ex ?_
   refine thenQ_ex ?_
   refine blockQ_hit rfl ?_
   have ho112 := iter_done h111 hnx75
   exact .inl ⟨rfl, (s49.1, s49.2.1, s49.2.2), F3, es49_1, es49_2, ho112, hs51, le52, e53, e54, e55, e56, e57, e58, hrs49_1, hrs49_2⟩
 ·rintro f w61 ⟨s60, F4, es60_1, es60_2, rfl, hs62, le63, e64, e65, e66, e67, e68, e69, hrs60_1, hrs60_2⟩
  have h113 := k_done h48
  refine thenQ_nrm ?_
  refine Sq (Rg [0, 1, 2, 3] ?_)
  refine V 39 50 (mv 9 (.slice (some ⟨b28, 0, none⟩) s60.2.1.length n29) e68) ?_
  refine V 40 3 (mv 1 (vi x1) e65) ?_
  obtain ⟨x114, hx115, h117⟩ := bind_some h113
  obtain ⟨hi116, hx115'⟩ := idx_spec hx115
  obtain ⟨b118, C119, ha120, rfl, hE122⟩ := RowR.open hrs60_1 hx115'
  cases ha120
  have hr123 := hrs60_1
  have hc125 := hE122 _ _ hx115'
  refine V 41 0 (run_index0 (t := 50) (x := (.tmp 39)) (y := (.tmp 40)) (b := b28) (E := 3) (s := 1) (by_ := 8) rfl rfl (by kernel_rfl) hi116) ?_
  refine RWP.storeRow (ty := 0) (g := none) (by kernel_rfl) rfl (x := (.tmp 41)) (y := (.const (vi 0))) (t := 3) (v := (vi 0)) (gg := false) (b := b28) (j := (x1 : Int).toNat) (C := C119) (T := tInt) (E := 3) (u := (0)) rfl rfl (by kernel_rfl) hs62 (k := 1) rfl hr123 hx115' rfl rfl (fun C126 w127 (hs128 : HS w0 F0 w127 F4 [es60_2, (some b28, .cells C126 3 (0, 0)), (sb b12 (kSpot r4 ar4_0_0 nr4_0_0) 112)]) hr129 => ?_)
  refine Nss ?_
  refine Sq (Rg [0] ?_)
  refine V 12 3 (mc (vi 0) (vi 0)) ?_
  refine Nt ?_
  obtain ⟨o130, ho131, h132⟩ := bind_some h117
  refine CWP.cut (fun f w => ∃ (s143 : (Int × List Int × List Int)) (F6 : Mem) (es143_1 : Option Nat × Obj) (es143_2 : Option Nat × Obj), o130 = .done s143 ∧ HS w0 F0 w F6 [es143_2, es143_1] ∧ Mem.le F4 F6 ∧ f.d = [] ∧ f 9 = (.slice (some ⟨b28, 0, none⟩) s143.2.1.length n29) ∧ f 10 = (.slice (some ⟨b38, 0, none⟩) s143.2.2.length n39) ∧ RowR tInt 3 F6 (some ⟨b28, 0, none⟩) n29 s143.2.1 es143_1 ∧ RowR tInt 3 F6 (some ⟨b38, 0, none⟩) n39 s143.2.2 es143_2) ?_ ?_
  ·refine Bk ?_
   refine CWP.loop (by kernel_rfl) (fun m f w => ∃ (s133 : (Int × List Int × List Int)) (F5 : Mem) (es133_1 : Option Nat × Obj) (es133_2 : Option Nat × Obj), iter (ref03_reach_L1 N x0 x1 r4 r17 r25 r35 s60 x114) m s133 = some o130 ∧ HS w0 F0 w F5 [es133_2, es133_1, (sb b12 (kSpot r4 ar4_0_0 nr4_0_0) 112)] ∧ Mem.le F4 F5 ∧ f.d = [] ∧ f 7 = (.pointer (some ⟨b12, 0, none⟩)) ∧ f 8 = (.slice ar17_0_0 r17.length nr17_0_0) ∧ f 9 = (.slice (some ⟨b28, 0, none⟩) s133.2.1.length n29) ∧ f 10 = (.slice (some ⟨b38, 0, none⟩) s133.2.2.length n39) ∧ f 12 = (vi s133.1) ∧ RowR tInt 3 F5 (some ⟨b28, 0, none⟩) n29 s133.2.1 es133_1 ∧ RowR tInt 3 F5 (some ⟨b38, 0, none⟩) n39 s133.2.2 es133_2) N ⟨(0, (s60.2.1.set (x1 : Int).toNat (0)), s60.2.2), F4, (some b28, .cells C126 3 (0, 0)), es60_2, ho131, hs128, (Mem.le.refl _), e64, e66, e67, (len_set e68), e69, rfl, hr129, hrs60_2⟩ ?_
   rintro m150 f w134 ⟨s133, F5, es133_1, es133_2, hit151, hs135, le136, e137, e138, e139, e140, e141, e142, hrs133_1, hrs133_2⟩
   obtain ⟨m152, fl153, rfl, hb154, hnx155⟩ := iter_step hit151
   refine Sq ?_
   refine Sq (Rg [0, 1, 2, 3] ?_)
   refine V 42 3 (mv 12 (vi s133.1) e142) ?_
   refine V 43 0 (fa 112 7 1 1 1 b12 0 1 e138) ?_
   refine V 44 3 (ld 3 43 b12 1 false 1 (vi r4.n_) (hs135.ownAt (k := 2) rfl)) ?_
   refine V 45 4 (run_leq (t := 3) (t' := 3) (x := (.tmp 42)) (y := (.tmp 44)) (k := .i64) (a := s133.1) (b := r4.n_) rfl rfl) ?_
   refine Nt ?_
   refine CWP.cond (t := (decide (s133.1 ≤ r4.n_))) (by kernel_rfl) rfl (fun hb156 => ?_) (fun hb156 => ?_)
   ·have h157 := cond_t hb154 hb156
    refine Sc ?_
    refine thenQ_nrm ?_
    refine Sq ?_
    refine Bk ?_
    refine Sq (Rg [0] ?_)
    refine V 13 3 (mc (vi (-1)) (vi (-1))) ?_
    refine Nss ?_
    refine Sq (Rg [0] ?_)
    refine V 14 3 (mc (vi 0) (vi 0)) ?_
    refine Nt ?_
    obtain ⟨o158, ho159, h160⟩ := bind_some h157
    refine CWP.cut (fun f w => ∃ (s173 : (Int × Int × List Int × List Int)) (F8 : Mem) (es173_2 : Option Nat × Obj) (es173_3 : Option Nat × Obj), o158 = .done s173 ∧ HS w0 F0 w F8 [es173_3, es173_2, (sb b12 (kSpot r4 ar4_0_0 nr4_0_0) 112)] ∧ Mem.le F5 F8 ∧ f.d = [] ∧ f 7 = (.pointer (some ⟨b12, 0, none⟩)) ∧ f 8 = (.slice ar17_0_0 r17.length nr17_0_0) ∧ f 9 = (.slice (some ⟨b28, 0, none⟩) s173.2.2.1.length n29) ∧ f 10 = (.slice (some ⟨b38, 0, none⟩) s173.2.2.2.length n39) ∧ f 12 = (vi s133.1) ∧ f 13 = (vi s173.1) ∧ RowR tInt 3 F8 (some ⟨b28, 0, none⟩) n29 s173.2.2.1 es173_2 ∧ RowR tInt 3 F8 (some ⟨b38, 0, none⟩) n39 s173.2.2.2 es173_3) ?_ ?_
    ·refine Bk ?_
     refine CWP.loop (by kernel_rfl) (fun m f w => ∃ (s161 : (Int × Int × List Int × List Int)) (F7 : Mem) (es161_2 : Option Nat × Obj) (es161_3 : Option Nat × Obj), iter (ref03_reach_L2 N x0 x1 r4 r17 r25 r35 s60 x114 s133) m s161 = some o158 ∧ HS w0 F0 w F7 [es161_3, es161_2, (sb b12 (kSpot r4 ar4_0_0 nr4_0_0) 112)] ∧ Mem.le F5 F7 ∧ f.d = [] ∧ f 7 = (.pointer (some ⟨b12, 0, none⟩)) ∧ f 8 = (.slice ar17_0_0 r17.length nr17_0_0) ∧ f 9 = (.slice (some ⟨b28, 0, none⟩) s161.2.2.1.length n29) ∧ f 10 = (.slice (some ⟨b38, 0, none⟩) s161.2.2.2.length n39) ∧ f 12 = (vi s133.1) ∧ f 13 = (vi s161.1) ∧ f 14 = (vi s161.2.1) ∧ RowR tInt 3 F7 (some ⟨b28, 0, none⟩) n29 s161.2.2.1 es161_2 ∧ RowR tInt 3 F7 (some ⟨b38, 0, none⟩) n39 s161.2.2.2 es161_3) N ⟨((-1), 0, s133.2.1, s133.2.2), F5, es133_1, es133_2, ho159, hs135, (Mem.le.refl _), e137, e138, e139, e140, e141, e142, rfl, rfl, hrs133_1, hrs133_2⟩ ?_
     rintro m184 f w162 ⟨s161, F7, es161_2, es161_3, hit185, hs163, le164, e165, e166, e167, e168, e169, e170, e171, e172, hrs161_2, hrs161_3⟩
     obtain ⟨m186, fl187, rfl, hb188, hnx189⟩ := iter_step hit185
     refine Sq ?_
     refine Sq (Rg [0, 1, 2, 3] ?_)
     refine V 48 3 (mv 14 (vi s161.2.1) e172) ?_
     refine V 49 57 (mv 8 (.slice ar17_0_0 r17.length nr17_0_0) e167) ?_
     refine V 50 3 (ln 49 57 ar17_0_0 r17.length nr17_0_0 103 7 56) ?_
     refine V 51 4 (run_lss (t := 3) (t' := 3) (x := (.tmp 48)) (y := (.tmp 50)) (k := .i64) (a := s161.2.1) (b := (r17.length : Int)) rfl rfl) ?_
     refine Nt ?_
     refine CWP.cond (t := (decide (s161.2.1 < (r17.length : Int)))) (by kernel_rfl) rfl (fun hb190 => ?_) (fun hb190 => ?_)
     ·have h191 := cond_t hb188 hb190
      refine Sc ?_
      refine thenQ_nrm ?_
      refine Sq ?_
      refine Bk ?_
      refine Sq ?_
      obtain ⟨j197, hj207, h208⟩ := bind_some h191
      refine CWP.regionD (by kernel_rfl) (by kernel_rfl) (by kernel_rfl) (by kernel_rfl) (z := 8) (F := F7) (Lc := [es161_3, es161_2, (sb b12 (kSpot r4 ar4_0_0 nr4_0_0) 112)]) (Lz := []) (l := [false, false, false, false, false, false, false, false]) (fuel := 8) (by kernel_rfl) (by kernel_rfl) hs163 (by simp) (by simp) (fun f w => ∃ (F9 : Mem), HS w0 F0 w F9 [es161_3, es161_2, (sb b12 (kSpot r4 ar4_0_0 nr4_0_0) 112)] ∧ Mem.le F7 F9 ∧ f.d = [] ∧ f 7 = (.pointer (some ⟨b12, 0, none⟩)) ∧ f 8 = (.slice ar17_0_0 r17.length nr17_0_0) ∧ f 9 = (.slice (some ⟨b28, 0, none⟩) s161.2.2.1.length n29) ∧ f 10 = (.slice (some ⟨b38, 0, none⟩) s161.2.2.2.length n39) ∧ f 12 = (vi s133.1) ∧ f 13 = (vi s161.1) ∧ f 14 = (vi s161.2.1) ∧ f 15 = (vi j197)) (fun wd192 hw193 => ?_) ?_
      ·refine Dt 0 54 112 _ (fun _ hq => ld 112 7 b12 0 true 2 (.agg (kSpot r4 ar4_0_0 nr4_0_0)) (hq.1.2 2 _ _ rfl) e166) ?_
       refine Dt 1 55 57 _ (fun _ hq => mv 8 (.slice ar17_0_0 r17.length nr17_0_0) e167) ?_
       refine Dt 2 56 3 _ (fun _ hq => mv 14 (vi s161.2.1) e172) ?_
       obtain ⟨x209, hx210, h212⟩ := bind_some hj207
       obtain ⟨hi211, hx210'⟩ := idx_spec hx210
       obtain ⟨b213, o214, C215, E216, fz217, rfl, hF219, hE220⟩ := SlA.open (SlA.mono hsr17_0_0 ((le63.trans le136).trans le164)) hx210'
       have hc222 := hE220 _ _ hx210'
       refine Dt 3 57 0 (.pointer (some ⟨b213, (o214 + (s161.2.1 : Int).toNat * 7), none⟩)) (fun _ hq => ix 57 55 56 b213 o214 103 7 56 hi211) ?_
       refine Dt 4 58 0 (.pointer (some ⟨b213, (o214 + (s161.2.1 : Int).toNat * 7), none⟩)) (fun _ hq => fa 103 57 0 0 2 b213 (o214 + (s161.2.1 : Int).toNat * 7) (o214 + (s161.2.1 : Int).toNat * 7)) ?_
       refine Dt 5 59 27 _ (fun _ hq => lx 27 58 0 7 true 2 (.agg (kRef x209.From)) (hq.1.1 _ _ hF219) hc222) ?_
       refine DWP.one (i := 6) (by kernel_rfl) ?_
       obtain ⟨r223, hr224, h225⟩ := bind_some h212
       refine DStep.call (l' := [true, true, true, true, true, true, true, false]) (zd := true) (by kernel_rfl) (by kernel_rfl) (by kernel_rfl) (dst := (some 60)) (ty := 3) (g := none) (by kernel_rfl) rfl (f0 := (.func 81)) (aos := #[(.tmp 54), (.tmp 59)]) (ats := #[112, 27]) (fid := 81) (first := #[]) (cap := #[]) (args := [(.agg (kSpot r4 ar4_0_0 nr4_0_0)), (.agg (kRef x209.From))]) rfl co_ref03_spot_of (rfl) hw193 (c_ref03_spot_of N wd192 F7 hw193.pers (r4) ar4_0_0 nr4_0_0 hbr4_0_0 (SlA.mono hsr4_0_0 (((le23.trans le63).trans le136).trans le164)) (x209.From) _ hr224) ?_
       intro v226 F10 w227 hs228 le229 hp230
       obtain rfl := hp230
       refine Dt 7 15 3 _ (fun _ hq => ma 60 (vi r223)) ?_
       obtain rfl := some_inj h225
       exact DWP.done (by kernel_rfl) ⟨F10, hs228, le229, e165, e166, e167, e168, e169, e170, e171, e172, rfl⟩
      ·rintro f w194 ⟨F9, hs195, le196, e198, e199, e200, e201, e202, e203, e204, e205, e206⟩
       refine thenQ_nrm ?_
       refine Sq ?_
       obtain ⟨j236, hj247, h248⟩ := bind_some h208
       refine CWP.regionD (by kernel_rfl) (by kernel_rfl) (by kernel_rfl) (by kernel_rfl) (z := 8) (F := F9) (Lc := [es161_3, es161_2, (sb b12 (kSpot r4 ar4_0_0 nr4_0_0) 112)]) (Lz := []) (l := [false, false, false, false, false, false, false, false]) (fuel := 8) (by kernel_rfl) (by kernel_rfl) hs195 (by simp) (by simp) (fun f w => ∃ (F11 : Mem), HS w0 F0 w F11 [es161_3, es161_2, (sb b12 (kSpot r4 ar4_0_0 nr4_0_0) 112)] ∧ Mem.le F9 F11 ∧ f.d = [] ∧ f 7 = (.pointer (some ⟨b12, 0, none⟩)) ∧ f 8 = (.slice ar17_0_0 r17.length nr17_0_0) ∧ f 9 = (.slice (some ⟨b28, 0, none⟩) s161.2.2.1.length n29) ∧ f 10 = (.slice (some ⟨b38, 0, none⟩) s161.2.2.2.length n39) ∧ f 12 = (vi s133.1) ∧ f 13 = (vi s161.1) ∧ f 14 = (vi s161.2.1) ∧ f 15 = (vi j197) ∧ f 16 = (vi j236)) (fun wd231 hw232 => ?_) ?_
       ·refine Dt 0 61 112 _ (fun _ hq => ld 112 7 b12 0 true 2 (.agg (kSpot r4 ar4_0_0 nr4_0_0)) (hq.1.2 2 _ _ rfl) e199) ?_
        refine Dt 1 62 57 _ (fun _ hq => mv 8 (.slice ar17_0_0 r17.length nr17_0_0) e200) ?_
        refine Dt 2 63 3 _ (fun _ hq => mv 14 (vi s161.2.1) e205) ?_
        obtain ⟨x249, hx250, h252⟩ := bind_some hj247
        obtain ⟨hi251, hx250'⟩ := idx_spec hx250
        obtain ⟨b253, o254, C255, E256, fz257, rfl, hF259, hE260⟩ := SlA.open (SlA.mono hsr17_0_0 (((le63.trans le136).trans le164).trans le196)) hx250'
        have hc262 := hE260 _ _ hx250'
        refine Dt 3 64 0 (.pointer (some ⟨b253, (o254 + (s161.2.1 : Int).toNat * 7), none⟩)) (fun _ hq => ix 57 62 63 b253 o254 103 7 56 hi251) ?_
        refine Dt 4 65 0 (.pointer (some ⟨b253, ((o254 + (s161.2.1 : Int).toNat * 7) + 2), none⟩)) (fun _ hq => fa 103 64 1 2 2 b253 (o254 + (s161.2.1 : Int).toNat * 7) ((o254 + (s161.2.1 : Int).toNat * 7) + 2)) ?_
        refine Dt 5 66 27 _ (fun _ hq => lx 27 65 2 7 true 2 (.agg (kRef x249.To)) (hq.1.1 _ _ hF259) hc262) ?_
        refine DWP.one (i := 6) (by kernel_rfl) ?_
        obtain ⟨r263, hr264, h265⟩ := bind_some h252
        refine DStep.call (l' := [true, true, true, true, true, true, true, false]) (zd := true) (by kernel_rfl) (by kernel_rfl) (by kernel_rfl) (dst := (some 67)) (ty := 3) (g := none) (by kernel_rfl) rfl (f0 := (.func 81)) (aos := #[(.tmp 61), (.tmp 66)]) (ats := #[112, 27]) (fid := 81) (first := #[]) (cap := #[]) (args := [(.agg (kSpot r4 ar4_0_0 nr4_0_0)), (.agg (kRef x249.To))]) rfl co_ref03_spot_of (rfl) hw232 (c_ref03_spot_of N wd231 F9 hw232.pers (r4) ar4_0_0 nr4_0_0 hbr4_0_0 (SlA.mono hsr4_0_0 ((((le23.trans le63).trans le136).trans le164).trans le196)) (x249.To) _ hr264) ?_
        intro v266 F12 w267 hs268 le269 hp270
        obtain rfl := hp270
        refine Dt 7 16 3 _ (fun _ hq => ma 67 (vi r263)) ?_
        obtain rfl := some_inj h265
        exact DWP.done (by kernel_rfl) ⟨F12, hs268, le269, e198, e199, e200, e201, e202, e203, e204, e205, e206, rfl⟩
       ·rintro f w233 ⟨F11, hs234, le235, e237, e238, e239, e240, e241, e242, e243, e244, e245, e246⟩
        refine thenQ_nrm ?_
        refine Sq ?_
        obtain ⟨j276, hj288, h289⟩ := bind_some h248
        refine CWP.regionD (by kernel_rfl) (by kernel_rfl) (by kernel_rfl) (by kernel_rfl) (z := 22) (F := F11) (Lc := [es161_3, es161_2, (sb b12 (kSpot r4 ar4_0_0 nr4_0_0) 112)]) (Lz := []) (l := [false, false, false, false, false, false, false, false, false, false, false, false, false, false, false, false, false, false, false, false, false, false]) (fuel := 22) (by kernel_rfl) (by kernel_rfl) hs234 (by simp) (by simp) (fun f w => ∃ (F13 : Mem), HS w0 F0 w F13 [es161_3, es161_2, (sb b12 (kSpot r4 ar4_0_0 nr4_0_0) 112)] ∧ Mem.le F11 F13 ∧ f.d = [] ∧ f 7 = (.pointer (some ⟨b12, 0, none⟩)) ∧ f 8 = (.slice ar17_0_0 r17.length nr17_0_0) ∧ f 9 = (.slice (some ⟨b28, 0, none⟩) s161.2.2.1.length n29) ∧ f 10 = (.slice (some ⟨b38, 0, none⟩) s161.2.2.2.length n39) ∧ f 12 = (vi s133.1) ∧ f 13 = (vi s161.1) ∧ f 14 = (vi s161.2.1) ∧ f 15 = (vi j197) ∧ f 16 = (vi j236) ∧ f 89 = (.bool j276)) (fun wd271 hw272 => ?_) ?_
        ·refine Dtl 0 68 50 _ [tt, ff, ff, ff, ff, ff, ff, ff, ff, ff, ff, ff, ff, ff, ff, ff, ff, ff, ff, ff, ff, ff] (fun _ hq => mv 9 (.slice (some ⟨b28, 0, none⟩) s161.2.2.1.length n29) e240) ?_
         refine Dtl 1 69 3 _ [tt, tt, ff, ff, ff, ff, ff, ff, ff, ff, ff, ff, ff, ff, ff, ff, ff, ff, ff, ff, ff, ff] (fun _ hq => mv 15 (vi j197) e245) ?_
         obtain ⟨x290, hx291, h293⟩ := bind_some hj288
         obtain ⟨hi292, hx291'⟩ := idx_spec hx291
         obtain ⟨b294, C295, ha296, rfl, hE298⟩ := RowR.open (hrs161_2.mono (le196.trans le235)) hx291'
         cases ha296
         have hr299 := (hrs161_2.mono (le196.trans le235))
         have hc301 := hE298 _ _ hx291'
         refine Dtl 2 70 0 (.pointer (some ⟨b28, ((j197 : Int).toNat * 1), none⟩)) [tt, tt, tt, ff, ff, ff, ff, ff, ff, ff, ff, ff, ff, ff, ff, ff, ff, ff, ff, ff, ff, ff] (fun _ hq => run_index0 (t := 50) (x := (.tmp 68)) (y := (.tmp 69)) (b := b28) (E := 3) (s := 1) (by_ := 8) rfl rfl (by kernel_rfl) hi292) ?_
         refine Dtl 3 71 3 _ [tt, tt, tt, tt, ff, ff, ff, ff, ff, ff, ff, ff, ff, ff, ff, ff, ff, ff, ff, ff, ff, ff] (fun _ hq => lx 3 70 0 1 false 1 (vi x290) (hq.1.2 1 _ _ rfl) hc301) ?_
         refine Dtl 4 72 4 (.bool (decide (x290 < 1125899906842624))) [tt, tt, tt, tt, tt, ff, ff, ff, ff, ff, ff, ff, ff, ff, ff, ff, ff, ff, ff, ff, ff, ff] (fun _ hq => run_lss (t := 3) (t' := 3) (x := (.tmp 71)) (y := (.const (vi 1125899906842624))) (k := .i64) (a := x290) (b := 1125899906842624) rfl rfl) ?_
         refine Dtl 5 73 4 _ [tt, tt, tt, tt, tt, tt, ff, ff, ff, ff, ff, ff, ff, ff, ff, ff, ff, ff, ff, ff, ff, ff] (fun _ hq => mv 72 (.bool (decide (x290 < 1125899906842624)))) ?_
         refine DWP.split (decide (x290 < 1125899906842624)) (fun hb302 => ?_) (fun hb302 => ?_)
         ·have h303 := cond_t h293 hb302
          refine Dgl 6 74 50 _ [tt, tt, tt, tt, tt, tt, tt, ff, ff, ff, ff, ff, ff, ff, ff, ff, ff, ff, ff, ff, ff, ff] 5 true 73 hb302 (fun _ hq => mv 9 (.slice (some ⟨b28, 0, none⟩) s161.2.2.1.length n29) e240) ?_
          refine Dgl 7 75 3 _ [tt, tt, tt, tt, tt, tt, tt, tt, ff, ff, ff, ff, ff, ff, ff, ff, ff, ff, ff, ff, ff, ff] 5 true 73 hb302 (fun _ hq => mv 15 (vi j197) e245) ?_
          obtain ⟨x304, hx305, h307⟩ := bind_some h303
          obtain ⟨hi306, hx305'⟩ := idx_spec hx305
          obtain ⟨b308, C309, ha310, he311, hE312⟩ := RowR.open hr299 hx305'
          cases ha310
          cases he311
          have hc314 := hE312 _ _ hx305'
          refine Dgl 8 76 0 (.pointer (some ⟨b28, ((j197 : Int).toNat * 1), none⟩)) [tt, tt, tt, tt, tt, tt, tt, tt, tt, ff, ff, ff, ff, ff, ff, ff, ff, ff, ff, ff, ff, ff] 5 true 73 hb302 (fun _ hq => run_index0 (t := 50) (x := (.tmp 74)) (y := (.tmp 75)) (b := b28) (E := 3) (s := 1) (by_ := 8) rfl rfl (by kernel_rfl) hi306) ?_
          refine Dgl 9 77 3 _ [tt, tt, tt, tt, tt, tt, tt, tt, tt, tt, ff, ff, ff, ff, ff, ff, ff, ff, ff, ff, ff, ff] 5 true 73 hb302 (fun _ hq => lx 3 76 0 1 false 1 (vi x304) (hq.1.2 1 _ _ rfl) hc314) ?_
          refine Dgl 10 78 57 _ [tt, tt, tt, tt, tt, tt, tt, tt, tt, tt, tt, ff, ff, ff, ff, ff, ff, ff, ff, ff, ff, ff] 5 true 73 hb302 (fun _ hq => mv 8 (.slice ar17_0_0 r17.length nr17_0_0) e239) ?_
          refine Dgl 11 79 3 _ [tt, tt, tt, tt, tt, tt, tt, tt, tt, tt, tt, tt, ff, ff, ff, ff, ff, ff, ff, ff, ff, ff] 5 true 73 hb302 (fun _ hq => mv 14 (vi s161.2.1) e244) ?_
          obtain ⟨x315, hx316, h318⟩ := bind_some h307
          obtain ⟨hi317, hx316'⟩ := idx_spec hx316
          obtain ⟨b319, o320, C321, E322, fz323, rfl, hF325, hE326⟩ := SlA.open (SlA.mono hsr17_0_0 ((((le63.trans le136).trans le164).trans le196).trans le235)) hx316'
          have hc328 := hE326 _ _ hx316'
          refine Dgl 12 80 0 (.pointer (some ⟨b319, (o320 + (s161.2.1 : Int).toNat * 7), none⟩)) [tt, tt, tt, tt, tt, tt, tt, tt, tt, tt, tt, tt, tt, ff, ff, ff, ff, ff, ff, ff, ff, ff] 5 true 73 hb302 (fun _ hq => ix 57 78 79 b319 o320 103 7 56 hi317) ?_
          refine Dgl 13 81 0 (.pointer (some ⟨b319, ((o320 + (s161.2.1 : Int).toNat * 7) + 4), none⟩)) [tt, tt, tt, tt, tt, tt, tt, tt, tt, tt, tt, tt, tt, tt, ff, ff, ff, ff, ff, ff, ff, ff] 5 true 73 hb302 (fun _ hq => fa 103 80 2 4 1 b319 (o320 + (s161.2.1 : Int).toNat * 7) ((o320 + (s161.2.1 : Int).toNat * 7) + 4)) ?_
          refine Dgl 14 82 3 _ [tt, tt, tt, tt, tt, tt, tt, tt, tt, tt, tt, tt, tt, tt, tt, ff, ff, ff, ff, ff, ff, ff] 5 true 73 hb302 (fun _ hq => lx 3 81 4 7 false 1 (vi x315.Most) (hq.1.1 _ _ hF325) hc328) ?_
          refine Dgl 15 83 3 (vi (W64 (x304 + x315.Most))) [tt, tt, tt, tt, tt, tt, tt, tt, tt, tt, tt, tt, tt, tt, tt, tt, ff, ff, ff, ff, ff, ff] 5 true 73 hb302 (fun _ hq => run_add (t := 3) (t' := 3) (x := (.tmp 77)) (y := (.tmp 82)) (k := .i64) (a := x304) (b := x315.Most) rfl rfl) ?_
          refine Dgl 16 84 50 _ [tt, tt, tt, tt, tt, tt, tt, tt, tt, tt, tt, tt, tt, tt, tt, tt, tt, ff, ff, ff, ff, ff] 5 true 73 hb302 (fun _ hq => mv 9 (.slice (some ⟨b28, 0, none⟩) s161.2.2.1.length n29) e240) ?_
          refine Dgl 17 85 3 _ [tt, tt, tt, tt, tt, tt, tt, tt, tt, tt, tt, tt, tt, tt, tt, tt, tt, tt, ff, ff, ff, ff] 5 true 73 hb302 (fun _ hq => mv 16 (vi j236) e246) ?_
          obtain ⟨x329, hx330, h332⟩ := bind_some h318
          obtain ⟨hi331, hx330'⟩ := idx_spec hx330
          obtain ⟨b333, C334, ha335, he336, hE337⟩ := RowR.open hr299 hx330'
          cases ha335
          cases he336
          have hc339 := hE337 _ _ hx330'
          refine Dgl 18 86 0 (.pointer (some ⟨b28, ((j236 : Int).toNat * 1), none⟩)) [tt, tt, tt, tt, tt, tt, tt, tt, tt, tt, tt, tt, tt, tt, tt, tt, tt, tt, tt, ff, ff, ff] 5 true 73 hb302 (fun _ hq => run_index0 (t := 50) (x := (.tmp 84)) (y := (.tmp 85)) (b := b28) (E := 3) (s := 1) (by_ := 8) rfl rfl (by kernel_rfl) hi331) ?_
          refine Dgl 19 87 3 _ [tt, tt, tt, tt, tt, tt, tt, tt, tt, tt, tt, tt, tt, tt, tt, tt, tt, tt, tt, tt, ff, ff] 5 true 73 hb302 (fun _ hq => lx 3 86 0 1 false 1 (vi x329) (hq.1.2 1 _ _ rfl) hc339) ?_
          refine Dgl 20 88 4 (.bool (decide ((W64 (x304 + x315.Most)) < x329))) [tt, tt, tt, tt, tt, tt, tt, tt, tt, tt, tt, tt, tt, tt, tt, tt, tt, tt, tt, tt, tt, ff] 5 true 73 hb302 (fun _ hq => run_lss (t := 3) (t' := 3) (x := (.tmp 83)) (y := (.tmp 87)) (k := .i64) (a := (W64 (x304 + x315.Most))) (b := x329) rfl rfl) ?_
          refine Dtl 21 89 4 _ [tt, tt, tt, tt, tt, tt, tt, tt, tt, tt, tt, tt, tt, tt, tt, tt, tt, tt, tt, tt, tt, tt] (fun _ hq => p1 73 (.tmp 88) (.const (.bool false)) (.bool (decide ((W64 (x304 + x315.Most)) < x329))) hb302) ?_
          obtain rfl := some_inj h332
          exact DWP.done (by kernel_rfl) ⟨F11, hw272, (Mem.le.refl _), e237, e238, e239, e240, e241, e242, e243, e244, e245, e246, rfl⟩
         ·have h340 := cond_f h293 hb302
          refine Dkl [(6, 74), (7, 75), (8, 76), (9, 77), (10, 78), (11, 79)] 5 true 73 hb302 [tt, tt, tt, tt, tt, tt, tt, tt, tt, tt, tt, tt, ff, ff, ff, ff, ff, ff, ff, ff, ff, ff] ?_
          refine Dkl [(12, 80), (13, 81), (14, 82), (15, 83), (16, 84), (17, 85)] 5 true 73 hb302 [tt, tt, tt, tt, tt, tt, tt, tt, tt, tt, tt, tt, tt, tt, tt, tt, tt, tt, ff, ff, ff, ff] ?_
          refine Dkl [(18, 86), (19, 87), (20, 88)] 5 true 73 hb302 [tt, tt, tt, tt, tt, tt, tt, tt, tt, tt, tt, tt, tt, tt, tt, tt, tt, tt, tt, tt, tt, ff] ?_
          refine Dtl 21 89 4 _ [tt, tt, tt, tt, tt, tt, tt, tt, tt, tt, tt, tt, tt, tt, tt, tt, tt, tt, tt, tt, tt, tt] (fun _ hq => p0 73 (.tmp 88) (.const (.bool false)) (.bool false) hb302) ?_
          obtain rfl := some_inj h340
          exact DWP.done (by kernel_rfl) ⟨F11, hw272, (Mem.le.refl _), e237, e238, e239, e240, e241, e242, e243, e244, e245, e246, rfl⟩
        ·rintro f w273 ⟨F13, hs274, le275, e277, e278, e279, e280, e281, e282, e283, e284, e285, e286, e287⟩
         refine thenQ_nrm ?_
         obtain ⟨j344, hj353, h354⟩ := bind_some h289
         refine CWP.cut (fun f w => ∃ (F14 : Mem) (ej344_0 : Option Nat × Obj) (ej344_1 : Option Nat × Obj), HS w0 F0 w F14 [ej344_1, ej344_0, (sb b12 (kSpot r4 ar4_0_0 nr4_0_0) 112)] ∧ Mem.le F13 F14 ∧ f.d = [] ∧ f 7 = (.pointer (some ⟨b12, 0, none⟩)) ∧ f 8 = (.slice ar17_0_0 r17.length nr17_0_0) ∧ f 9 = (.slice (some ⟨b28, 0, none⟩) j344.1.length n29) ∧ f 10 = (.slice (some ⟨b38, 0, none⟩) j344.2.1.length n39) ∧ f 12 = (vi s133.1) ∧ f 13 = (vi j344.2.2) ∧ f 14 = (vi s161.2.1) ∧ RowR tInt 3 F14 (some ⟨b28, 0, none⟩) n29 j344.1 ej344_0 ∧ RowR tInt 3 F14 (some ⟨b38, 0, none⟩) n39 j344.2.1 ej344_1) ?_ ?_
         ·refine CWP.cond (t := j276) (by kernel_rfl) e287 (fun hb355 => ?_) (fun hb355 => ?_)
          ·have h356 := cond_t hj353 hb355
           refine Sq ?_
           obtain ⟨j362, hj371, h372⟩ := bind_some h356
           refine CWP.regionD (by kernel_rfl) (by kernel_rfl) (by kernel_rfl) (by kernel_rfl) (z := 13) (F := F13) (Lc := [es161_3, (sb b12 (kSpot r4 ar4_0_0 nr4_0_0) 112)]) (Lz := [es161_2]) (l := [false, false, false, false, false, false, false, false, false, false, false, false, false, false]) (fuel := 14) (by kernel_rfl) (by kernel_rfl) hs274 (by simp) (by simp) (fun f w => ∃ (F15 : Mem) (ej362_0 : Option Nat × Obj), HS w0 F0 w F15 [es161_3, ej362_0, (sb b12 (kSpot r4 ar4_0_0 nr4_0_0) 112)] ∧ Mem.le F13 F15 ∧ f.d = [] ∧ f 7 = (.pointer (some ⟨b12, 0, none⟩)) ∧ f 8 = (.slice ar17_0_0 r17.length nr17_0_0) ∧ f 9 = (.slice (some ⟨b28, 0, none⟩) j362.length n29) ∧ f 10 = (.slice (some ⟨b38, 0, none⟩) s161.2.2.2.length n39) ∧ f 12 = (vi s133.1) ∧ f 14 = (vi s161.2.1) ∧ f 16 = (vi j236) ∧ RowR tInt 3 F15 (some ⟨b28, 0, none⟩) n29 j362 ej362_0) (fun wd357 hw358 => ?_) ?_
           ·refine Df 0 90 50 _ (fun _ hq => mv 9 (.slice (some ⟨b28, 0, none⟩) s161.2.2.1.length n29) e280) ?_
            refine Df 1 91 3 _ (fun _ hq => mv 16 (vi j236) e286) ?_
            refine Df 2 92 50 _ (fun _ hq => mv 9 (.slice (some ⟨b28, 0, none⟩) s161.2.2.1.length n29) e280) ?_
            refine Df 3 93 3 _ (fun _ hq => mv 15 (vi j197) e285) ?_
            obtain ⟨x373, hx374, h376⟩ := bind_some hj371
            obtain ⟨hi375, hx374'⟩ := idx_spec hx374
            obtain ⟨b377, C378, ha379, rfl, hE381⟩ := RowR.open (hrs161_2.mono ((le196.trans le235).trans le275)) hx374'
            cases ha379
            have hr382 := (hrs161_2.mono ((le196.trans le235).trans le275))
            have hc384 := hE381 _ _ hx374'
            refine Df 4 94 0 (.pointer (some ⟨b28, ((j197 : Int).toNat * 1), none⟩)) (fun _ hq => run_index0 (t := 50) (x := (.tmp 92)) (y := (.tmp 93)) (b := b28) (E := 3) (s := 1) (by_ := 8) rfl rfl (by kernel_rfl) hi375) ?_
            refine Df 5 95 3 _ (fun _ hq => lx 3 94 0 1 false 1 (vi x373) ((hq.2 rfl).2 0 _ _ rfl) hc384) ?_
            refine Df 6 96 57 _ (fun _ hq => mv 8 (.slice ar17_0_0 r17.length nr17_0_0) e279) ?_
            refine Df 7 97 3 _ (fun _ hq => mv 14 (vi s161.2.1) e284) ?_
            obtain ⟨x385, hx386, h388⟩ := bind_some h376
            obtain ⟨hi387, hx386'⟩ := idx_spec hx386
            obtain ⟨b389, o390, C391, E392, fz393, rfl, hF395, hE396⟩ := SlA.open (SlA.mono hsr17_0_0 (((((le63.trans le136).trans le164).trans le196).trans le235).trans le275)) hx386'
            have hc398 := hE396 _ _ hx386'
            refine Df 8 98 0 (.pointer (some ⟨b389, (o390 + (s161.2.1 : Int).toNat * 7), none⟩)) (fun _ hq => ix 57 96 97 b389 o390 103 7 56 hi387) ?_
            refine Df 9 99 0 (.pointer (some ⟨b389, ((o390 + (s161.2.1 : Int).toNat * 7) + 4), none⟩)) (fun _ hq => fa 103 98 2 4 1 b389 (o390 + (s161.2.1 : Int).toNat * 7) ((o390 + (s161.2.1 : Int).toNat * 7) + 4)) ?_
            refine Df 10 100 3 _ (fun _ hq => lx 3 99 4 7 false 1 (vi x385.Most) (hq.1.1 _ _ hF395) hc398) ?_
            refine Df 11 101 3 (vi (W64 (x373 + x385.Most))) (fun _ hq => run_add (t := 3) (t' := 3) (x := (.tmp 95)) (y := (.tmp 100)) (k := .i64) (a := x373) (b := x385.Most) rfl rfl) ?_
            obtain ⟨x399, hx400, h402⟩ := bind_some h388
            obtain ⟨hi401, hx400'⟩ := idx_spec hx400
            obtain ⟨b403, C404, ha405, he406, hE407⟩ := RowR.open hr382 hx400'
            cases ha405
            cases he406
            have hc409 := hE407 _ _ hx400'
            refine Df 12 102 0 (.pointer (some ⟨b28, ((j236 : Int).toNat * 1), none⟩)) (fun _ hq => run_index0 (t := 50) (x := (.tmp 90)) (y := (.tmp 91)) (b := b28) (E := 3) (s := 1) (by_ := 8) rfl rfl (by kernel_rfl) hi401) ?_
            refine DWP.one (i := 13) (by kernel_rfl) ?_
            refine DStep.storeRow (l' := [true, true, true, true, true, true, true, true, true, true, true, true, true, true]) (zd := true) (by kernel_rfl) (by kernel_rfl) (ty := 0) (g := none) (by kernel_rfl) rfl (x := (.tmp 102)) (y := (.tmp 101)) (t := 3) (v := (vi (W64 (x373 + x385.Most)))) (gg := false) (b := b28) (j := (j236 : Int).toNat) (C := C378) (T := tInt) (E := 3) (u := ((W64 (x373 + x385.Most)))) rfl rfl (by kernel_rfl) hw358 (k := 1) rfl hr382 hx400' rfl rfl (Mem.le.refl _) (fun _ => by simp) (fun e => by cases e) (fun C410 w411 (hs412 : HS w0 F0 w411 F13 [es161_3, (some b28, .cells C410 3 (0, 0)), (sb b12 (kSpot r4 ar4_0_0 nr4_0_0) 112)]) hr413 => ?_)
            obtain rfl := some_inj h402
            exact DWP.done (by kernel_rfl) ⟨F13, (some b28, .cells C410 3 (0, 0)), hs412, (Mem.le.refl _), e277, e278, e279, (len_set e280), e281, e282, e284, e286, hr413⟩
           ·rintro f w359 ⟨F15, ej362_0, hs360, le361, e363, e364, e365, e366, e367, e368, e369, e370, hrj362_0⟩
            refine thenQ_nrm ?_
            refine Sq (Rg [0, 1, 2, 3, 4] ?_)
            refine V 103 50 (mv 10 (.slice (some ⟨b38, 0, none⟩) s161.2.2.2.length n39) e367) ?_
            refine V 104 3 (mv 16 (vi j236) e370) ?_
            refine V 105 3 (mv 14 (vi s161.2.1) e369) ?_
            obtain ⟨x414, hx415, h417⟩ := bind_some h372
            obtain ⟨hi416, hx415'⟩ := idx_spec hx415
            obtain ⟨b418, C419, ha420, rfl, hE422⟩ := RowR.open (hrs161_3.mono (((le196.trans le235).trans le275).trans le361)) hx415'
            cases ha420
            have hr423 := (hrs161_3.mono (((le196.trans le235).trans le275).trans le361))
            have hc425 := hE422 _ _ hx415'
            refine V 106 0 (run_index0 (t := 50) (x := (.tmp 103)) (y := (.tmp 104)) (b := b38) (E := 3) (s := 1) (by_ := 8) rfl rfl (by kernel_rfl) hi416) ?_
            refine RWP.storeRow (ty := 0) (g := none) (by kernel_rfl) rfl (x := (.tmp 106)) (y := (.tmp 105)) (t := 3) (v := (vi s161.2.1)) (gg := false) (b := b38) (j := (j236 : Int).toNat) (C := C419) (T := tInt) (E := 3) (u := (s161.2.1)) rfl rfl (by kernel_rfl) hs360 (k := 0) rfl hr423 hx415' rfl rfl (fun C426 w427 (hs428 : HS w0 F0 w427 F15 [(some b38, .cells C426 3 (0, 0)), ej362_0, (sb b12 (kSpot r4 ar4_0_0 nr4_0_0) 112)]) hr429 => ?_)
            refine Nt ?_
            refine Rg [0, 1] ?_
            refine V 107 3 (mv 16 (vi j236) e370) ?_
            refine V 13 3 (ma 107 (vi j236)) ?_
            refine RWP.nil ?_
            obtain rfl := some_inj h417
            exact .inl ⟨rfl, F15, ej362_0, (some b38, .cells C426 3 (0, 0)), hs428, le361, e363, e364, e365, e366, (len_set e367), e368, rfl, e369, hrj362_0, hr429⟩
          ·have h430 := cond_f hj353 hb355
           refine Sc ?_
           obtain rfl := some_inj h430
           exact .inl ⟨rfl, F13, es161_2, es161_3, hs274, (Mem.le.refl _), e277, e278, e279, e280, e281, e282, e283, e284, (hrs161_2.mono ((le196.trans le235).trans le275)), (hrs161_3.mono ((le196.trans le235).trans le275))⟩
         ·rintro f w341 ⟨F14, ej344_0, ej344_1, hs342, le343, e345, e346, e347, e348, e349, e350, e351, e352, hrj344_0, hrj344_1⟩
          refine blockQ_nrm ?_
          refine thenQ_nrm ?_
          refine Rg [0, 1, 2] ?_
          refine V 52 3 (mv 14 (vi s161.2.1) e352) ?_
          refine V 53 3 (run_add (t := 3) (t' := 3) (x := (.tmp 52)) (y := (.const (vi 1))) (k := .i64) (a := s161.2.1) (b := 1) rfl rfl) ?_
          refine V 14 3 (ma 53 (vi (W64 (s161.2.1 + 1)))) ?_
          refine RWP.nil ?_
          have hn431 := iter_next h354 hnx189
          exact ⟨m186, Nat.lt_succ_self _, (j344.2.2, (W64 (s161.2.1 + 1)), j344.1, j344.2.1), F14, ej344_0, ej344_1, hn431, hs342, ((((le164.trans le196).trans le235).trans le275).trans le343), e345, e346, e347, e348, e349, e350, e351, rfl, hrj344_0, hrj344_1⟩
     ·have h432 := cond_f hb188 hb190
      refine CWP.exit (by kernel_rfl) ?_
      refine thenQ_ex ?_
      refine thenQ_ex ?_
      refine blockQ_hit rfl ?_
      have ho433 := iter_done h432 hnx189
      exact .inl ⟨rfl, (s161.1, s161.2.1, s161.2.2.1, s161.2.2.2), F7, es161_2, es161_3, ho433, hs163, le164, e165, e166, e167, e168, e169, e170, e171, hrs161_2, hrs161_3⟩
    ·rintro f w174 ⟨s173, F8, es173_2, es173_3, rfl, hs175, le176, e177, e178, e179, e180, e181, e182, e183, hrs173_2, hrs173_3⟩
     have h434 := k_done h160
     refine thenQ_nrm ?_
     refine Sq ?_
     refine Sq (Rg [0, 1] ?_)
     refine V 108 3 (mv 13 (vi s173.1) e183) ?_
     refine V 109 4 (run_lss (t := 3) (t' := 3) (x := (.tmp 108)) (y := (.const (vi 0))) (k := .i64) (a := s173.1) (b := 0) rfl rfl) ?_
     refine Nt ?_
     refine CWP.cond (t := (decide (s173.1 < 0))) (by kernel_rfl) rfl (fun hb435 => ?_) (fun hb435 => ?_)
     ·have h436 := cond_t h434 hb435
      refine Sq (Rg [0, 1, 2, 3, 4] ?_)
      refine V 110 50 (mv 9 (.slice (some ⟨b28, 0, none⟩) s173.2.2.1.length n29) e180) ?_
      refine V 111 50 (mv 10 (.slice (some ⟨b38, 0, none⟩) s173.2.2.2.length n39) e181) ?_
      refine V 4 50 (ma 110 (.slice (some ⟨b28, 0, none⟩) s173.2.2.1.length n29)) ?_
      refine V 5 50 (ma 111 (.slice (some ⟨b38, 0, none⟩) s173.2.2.2.length n39)) ?_
      refine V 6 3 (mc (vi (-1)) (vi (-1))) ?_
      refine Nt ?_
      refine CWP.ret (by kernel_rfl) ?_
      refine thenQ_ret ?_
      refine blockQ_ret ?_
      refine thenQ_ret ?_
      refine thenQ_ret ?_
      refine blockQ_ret ?_
      have hret := iter_ret h436 hnx155
      subst hret
      refine .inr ?_
      refine thenQ_ret ?_
      have hb440 := RowR.bound hrs173_2
      obtain ⟨F16, hs437, le438, hs439⟩ : ∃ Fq, HS w0 F0 w174 Fq [es173_3, (sb b12 (kSpot r4 ar4_0_0 nr4_0_0) 112)] ∧ Mem.le F8 Fq ∧ SlA tInt Fq (some ⟨b28, 0, none⟩) s173.2.2.1 := HS.freezeRow hs175 (k := 1) rfl hrs173_2
      have hb444 := RowR.bound (hrs173_3.mono le438)
      obtain ⟨F17, hs441, le442, hs443⟩ : ∃ Fq, HS w0 F0 w174 Fq [(sb b12 (kSpot r4 ar4_0_0 nr4_0_0) 112)] ∧ Mem.le F16 Fq ∧ SlA tInt Fq (some ⟨b38, 0, none⟩) s173.2.2.2 := HS.freezeRow hs437 (k := 0) rfl (hrs173_3.mono le438)
      have hfin := some_inj h132
      subst hfin
      exact ⟨e177, (.tuple #[(.slice (some ⟨b28, 0, none⟩) s173.2.2.1.length n29), (.slice (some ⟨b38, 0, none⟩) s173.2.2.2.length n39), (vi (-1))]), res_of (l := [.tmp 4, .tmp 5, .tmp 6]) (by kernel_rfl) (vs := [(.slice (some ⟨b28, 0, none⟩) s173.2.2.1.length n29), (.slice (some ⟨b38, 0, none⟩) s173.2.2.2.length n39), (vi (-1))]) ⟨rfl, ⟨rfl, ⟨rfl, trivial⟩⟩⟩, (.tuple #[(.slice (some ⟨b28, 0, none⟩) s173.2.2.1.length n29), (.slice (some ⟨b38, 0, none⟩) s173.2.2.2.length n39), (vi (-1))]), F17, rfl, hs441.clear, ⟨(some ⟨b28, 0, none⟩), n29, (some ⟨b38, 0, none⟩), n39, rfl, hb440, (SlA.mono hs439 le442), hb444, hs443⟩⟩
     ·have h445 := cond_f h434 hb435
      refine Sc ?_
      refine thenQ_nrm ?_
      refine Sq (Rg [0, 1, 2, 3] ?_)
      refine V 112 3 (mv 12 (vi s133.1) e182) ?_
      refine V 113 0 (fa 112 7 1 1 1 b12 0 1 e178) ?_
      refine V 114 3 (ld 3 113 b12 1 false 1 (vi r4.n_) (hs175.ownAt (k := 2) rfl)) ?_
      refine V 115 4 (run_eql (t := 3) (t' := 3) (x := (.tmp 112)) (y := (.tmp 114)) (k := .i64) (a := s133.1) (b := r4.n_) rfl rfl) ?_
      refine Nt ?_
      refine CWP.cond (t := (s133.1 == r4.n_)) (by kernel_rfl) rfl (fun hb446 => ?_) (fun hb446 => ?_)
      ·have h447 := cond_t h445 hb446
       refine Sq (Rg [0, 1, 2, 3, 4, 5] ?_)
       refine V 116 50 (mv 9 (.slice (some ⟨b28, 0, none⟩) s173.2.2.1.length n29) e180) ?_
       refine V 117 50 (mv 10 (.slice (some ⟨b38, 0, none⟩) s173.2.2.2.length n39) e181) ?_
       refine V 118 3 (mv 13 (vi s173.1) e183) ?_
       refine V 4 50 (ma 116 (.slice (some ⟨b28, 0, none⟩) s173.2.2.1.length n29)) ?_
       refine V 5 50 (ma 117 (.slice (some ⟨b38, 0, none⟩) s173.2.2.2.length n39)) ?_
       refine V 6 3 (ma 118 (vi s173.1)) ?_
       refine Nt ?_
       refine CWP.ret (by kernel_rfl) ?_
       refine blockQ_ret ?_
       refine thenQ_ret ?_
       refine thenQ_ret ?_
       refine blockQ_ret ?_
       have hret := iter_ret h447 hnx155
       subst hret
       refine .inr ?_
       refine thenQ_ret ?_
       have hb451 := RowR.bound hrs173_2
       obtain ⟨F18, hs448, le449, hs450⟩ : ∃ Fq, HS w0 F0 w174 Fq [es173_3, (sb b12 (kSpot r4 ar4_0_0 nr4_0_0) 112)] ∧ Mem.le F8 Fq ∧ SlA tInt Fq (some ⟨b28, 0, none⟩) s173.2.2.1 := HS.freezeRow hs175 (k := 1) rfl hrs173_2
       have hb455 := RowR.bound (hrs173_3.mono le449)
       obtain ⟨F19, hs452, le453, hs454⟩ : ∃ Fq, HS w0 F0 w174 Fq [(sb b12 (kSpot r4 ar4_0_0 nr4_0_0) 112)] ∧ Mem.le F18 Fq ∧ SlA tInt Fq (some ⟨b38, 0, none⟩) s173.2.2.2 := HS.freezeRow hs448 (k := 0) rfl (hrs173_3.mono le449)
       have hfin := some_inj h132
       subst hfin
       exact ⟨e177, (.tuple #[(.slice (some ⟨b28, 0, none⟩) s173.2.2.1.length n29), (.slice (some ⟨b38, 0, none⟩) s173.2.2.2.length n39), (vi s173.1)]), res_of (l := [.tmp 4, .tmp 5, .tmp 6]) (by kernel_rfl) (vs := [(.slice (some ⟨b28, 0, none⟩) s173.2.2.1.length n29), (.slice (some ⟨b38, 0, none⟩) s173.2.2.2.length n39), (vi s173.1)]) ⟨rfl, ⟨rfl, ⟨rfl, trivial⟩⟩⟩, (.tuple #[(.slice (some ⟨b28, 0, none⟩) s173.2.2.1.length n29), (.slice (some ⟨b38, 0, none⟩) s173.2.2.2.length n39), (vi s173.1)]), F19, rfl, hs452.clear, ⟨(some ⟨b28, 0, none⟩), n29, (some ⟨b38, 0, none⟩), n39, rfl, hb451, (SlA.mono hs450 le453), hb455, hs454⟩⟩
      ·have h456 := cond_f h445 hb446
       refine Sc ?_
       refine blockQ_nrm ?_
       refine thenQ_nrm ?_
       refine Rg [0, 1, 2] ?_
       refine V 46 3 (mv 12 (vi s133.1) e182) ?_
       refine V 47 3 (run_add (t := 3) (t' := 3) (x := (.tmp 46)) (y := (.const (vi 1))) (k := .i64) (a := s133.1) (b := 1) rfl rfl) ?_
       refine V 12 3 (ma 47 (vi (W64 (s133.1 + 1)))) ?_
       refine RWP.nil ?_
       have hn457 := iter_next h456 hnx155
       exact ⟨m152, Nat.lt_succ_self _, ((W64 (s133.1 + 1)), s173.2.2.1, s173.2.2.2), F8, es173_2, es173_3, hn457, hs175, (le136.trans le176), e177, e178, e179, e180, e181, rfl, hrs173_2, hrs173_3⟩
   ·have h458 := cond_f hb154 hb156
    refine CWP.exit (by kernel_rfl) ?_
    refine thenQ_ex ?_
    refine thenQ_ex ?_
    refine blockQ_hit rfl ?_
    have hs459 : HS w0 F0 w134 F5 [es133_2, es133_1] := hs135.drop 2
    have ho460 := iter_done h458 hnx155
    exact .inl ⟨rfl, (s133.1, s133.2.1, s133.2.2), F5, es133_1, es133_2, ho460, hs459, le136, e137, e140, e141, hrs133_1, hrs133_2⟩
  ·rintro f w144 ⟨s143, F6, es143_1, es143_2, rfl, hs145, le146, e147, e148, e149, hrs143_1, hrs143_2⟩
   have h461 := k_done h132
   refine thenQ_nrm ?_
   refine Sq (Rg [0, 1, 2, 3, 4] ?_)
   refine V 119 50 (mv 9 (.slice (some ⟨b28, 0, none⟩) s143.2.1.length n29) e148) ?_
   refine V 120 50 (mv 10 (.slice (some ⟨b38, 0, none⟩) s143.2.2.length n39) e149) ?_
   refine V 4 50 (ma 119 (.slice (some ⟨b28, 0, none⟩) s143.2.1.length n29)) ?_
   refine V 5 50 (ma 120 (.slice (some ⟨b38, 0, none⟩) s143.2.2.length n39)) ?_
   refine V 6 3 (mc (vi (-1)) (vi (-1))) ?_
   refine Nt ?_
   refine CWP.ret (by kernel_rfl) ?_
   have hb465 := RowR.bound hrs143_1
   obtain ⟨F20, hs462, le463, hs464⟩ : ∃ Fq, HS w0 F0 w144 Fq [es143_2] ∧ Mem.le F6 Fq ∧ SlA tInt Fq (some ⟨b28, 0, none⟩) s143.2.1 := HS.freezeRow hs145 (k := 1) rfl hrs143_1
   have hb469 := RowR.bound (hrs143_2.mono le463)
   obtain ⟨F21, hs466, le467, hs468⟩ : ∃ Fq, HS w0 F0 w144 Fq [] ∧ Mem.le F20 Fq ∧ SlA tInt Fq (some ⟨b38, 0, none⟩) s143.2.2 := HS.freezeRow hs462 (k := 0) rfl (hrs143_2.mono le463)
   have hfin := some_inj h461
   subst hfin
   exact ⟨e147, (.tuple #[(.slice (some ⟨b28, 0, none⟩) s143.2.1.length n29), (.slice (some ⟨b38, 0, none⟩) s143.2.2.length n39), (vi (-1))]), res_of (l := [.tmp 4, .tmp 5, .tmp 6]) (by kernel_rfl) (vs := [(.slice (some ⟨b28, 0, none⟩) s143.2.1.length n29), (.slice (some ⟨b38, 0, none⟩) s143.2.2.length n39), (vi (-1))]) ⟨rfl, ⟨rfl, ⟨rfl, trivial⟩⟩⟩, (.tuple #[(.slice (some ⟨b28, 0, none⟩) s143.2.1.length n29), (.slice (some ⟨b38, 0, none⟩) s143.2.2.length n39), (vi (-1))]), F21, rfl, hs466.clear, ⟨(some ⟨b28, 0, none⟩), n29, (some ⟨b38, 0, none⟩), n39, rfl, hb465, (SlA.mono hs464 le467), hb469, hs468⟩⟩
end Go.Proofs.Ythbcnabeabcmlaa
namespace Go.Proofs.Ythbcnabeabcmlaa
open Go.Proofs
end Go.Proofs.Ythbcnabeabcmlaa
namespace Go.Proofs.Ythbcnabeabcmlaa
open Go.Proofs
def ref03_Closes (N : Nat) (x0 : System) : Option Bool :=
 ((ref03_reach N x0 0).bind fun r4 => some (decide (r4.2.2 < 0)))
theorem co_ref03_Closes : CallOk Try.prog 90 := fun _ _ => by kernel_rfl
set_option maxHeartbeats 4000000 in
set_option maxRecDepth 100000 in
theorem c_ref03_Closes (N : Nat) (w0 : World) (F0 : Mem) (hF : ∀ b o, F0 b = some o → w0.heap[b]? = some o) (x0 : System) (a0_0 : Option Addr) (n0_0 : Nat) (hb0_0 : LC x0.Tracks.length n0_0) (hs0_0 : SlA tTrack F0 a0_0 x0.Tracks) (a0_1 : Option Addr) (n0_1 : Nat) (hb0_1 : LC x0.Ties.length n0_1) (hs0_1 : SlA tTie F0 a0_1 x0.Ties) (r : Bool) (h : ref03_Closes N x0 = some r) :
  Calls Try.prog 90 ([(.agg (kSystem x0 a0_0 n0_0 a0_1 n0_1))] : List Value).toArray w0 (FRet w0 F0 fun F' v => v = (.bool r)) := by
 have hs0 := HS.start hF
 refine calls_of (n := 14) (c := bodyOf Try.f90) Try.func90 (by kernel_rfl) (by kernel_rfl) (by kernel_rfl) ?_
 refine Sq (Rg [0, 1] ?_)
 refine Bx 1 0 0 25 (kSystem x0 a0_0 n0_0 a0_1 n0_1) hs0 (fun b1 w2 (hs3 : HS w0 F0 w2 F0 [(sb b1 (kSystem x0 a0_0 n0_0 a0_1 n0_1) 25)]) => ?_)
 refine V 2 4 (mc (.bool false) (.bool false)) ?_
 refine Nss (Rg [0, 1, 2, 3, 4, 5, 6, 7, 8] ?_)
 refine V 7 25 (ld 25 1 b1 0 true 3 (.agg (kSystem x0 a0_0 n0_0 a0_1 n0_1)) (hs3.ownAt (k := 0) rfl)) ?_
 obtain ⟨r4, hr5, h6⟩ := bind_some h
 refine Cl 8 126 92 #[(.tmp 7), (.const (vi 0))] #[25, 3] co_ref03_reach hs3 (c_ref03_reach N w2 F0 hs3.pers (x0) a0_0 n0_0 hb0_0 hs0_0 a0_1 n0_1 hb0_1 hs0_1 (0) _ hr5) ?_
 intro v7 F1 w8 hs9 le10 hp11
 obtain ⟨ar4_0_0, nr4_0_0, ar4_1_0, nr4_1_0, rfl, hbr4_0_0, hsr4_0_0, hbr4_1_0, hsr4_1_0⟩ := hp11
 refine V 6 126 (mv 8 (.tuple #[(.slice ar4_0_0 r4.1.length nr4_0_0), (.slice ar4_1_0 r4.2.1.length nr4_1_0), (vi r4.2.2)])) ?_
 refine V 9 50 (ex 6 0 (.slice ar4_0_0 r4.1.length nr4_0_0) (vs := #[(.slice ar4_0_0 r4.1.length nr4_0_0), (.slice ar4_1_0 r4.2.1.length nr4_1_0), (vi r4.2.2)])) ?_
 refine V 10 50 (ex 6 1 (.slice ar4_1_0 r4.2.1.length nr4_1_0) (vs := #[(.slice ar4_0_0 r4.1.length nr4_0_0), (.slice ar4_1_0 r4.2.1.length nr4_1_0), (vi r4.2.2)])) ?_
 refine V 11 3 (ex 6 2 (vi r4.2.2) (vs := #[(.slice ar4_0_0 r4.1.length nr4_0_0), (.slice ar4_1_0 r4.2.1.length nr4_1_0), (vi r4.2.2)])) ?_
 refine V 3 50 (ma 9 (.slice ar4_0_0 r4.1.length nr4_0_0)) ?_
 refine V 4 50 (ma 10 (.slice ar4_1_0 r4.2.1.length nr4_1_0)) ?_
 refine V 5 3 (ma 11 (vi r4.2.2)) ?_
 refine Nss (Rg [0, 1, 2] ?_)
 refine V 12 3 (mv 5 (vi r4.2.2)) ?_
 refine V 13 4 (run_lss (t := 3) (t' := 3) (x := (.tmp 12)) (y := (.const (vi 0))) (k := .i64) (a := r4.2.2) (b := 0) rfl rfl) ?_
 refine V 2 4 (ma 13 (.bool (decide (r4.2.2 < 0)))) ?_
 refine Nt ?_
 refine CWP.ret (by kernel_rfl) ?_
 have hfin := some_inj h6
 subst hfin
 exact ⟨rfl, (.bool (decide (r4.2.2 < 0))), res_of (l := [.tmp 2]) (by kernel_rfl) (vs := [(.bool (decide (r4.2.2 < 0)))]) ⟨rfl, trivial⟩, (.bool (decide (r4.2.2 < 0))), F1, rfl, hs9.clear, rfl⟩
end Go.Proofs.Ythbcnabeabcmlaa
namespace Go.Proofs.Ythbcnabeabcmlaa
open BF
def lenAt (s : System) (i : Nat) : Nat := match s.Tracks[i]? with
 | none => 0
 | some t => t.Times.length
def first (s : System) : Nat → Nat
 | 0 => 1
 | i + 1 => first s i + lenAt s i
theorem first_mono (s : System) {i j : Nat} (h : i ≤ j) : first s i ≤ first s j := by
 induction h with
 | refl => exact Nat.le_refl _
 | step _ ih => exact Nat.le_trans ih (by simp [first])
theorem first_pos (s : System) (i : Nat) : 1 ≤ first s i := first_mono s (Nat.zero_le i)
def num (s : System) (r : Ref) : Nat := if r.Log < 0 then 0 else first s r.Log.toNat + r.Line.toNat
theorem num_beg (s : System) : num s beg = 0 := by unfold num beg; simp
theorem num_li (s : System) (i j : Nat) : num s (li i j) = first s i + j := by
 unfold num li
 simp only [Int.toNat_natCast]
 rw [if_neg (by omega)]
def nAll (s : System) : Nat := first s s.Tracks.length
section
variable {N : Nat} {s : System}
theorem lt_of_get {α : Type} {l : List α} {i : Nat} {x : α} (hx : l[i]? = some x) : i < l.length := by
 rcases Nat.lt_or_ge i l.length with h | h
 ·exact h
 ·rw [List.getElem?_eq_none h] at hx; cases hx
theorem num_lt {r : Ref} (h : Nd s r) : num s r < nAll s := by
 rcases h with rfl | h
 ·rw [num_beg]; exact first_pos _ _
 ·obtain ⟨i, t, j, rfl, ht, hj⟩ := li_has h
  rw [num_li]
  have h1 := first_mono s (show i + 1 ≤ s.Tracks.length from lt_of_get ht)
  have h2 : lenAt s i = t.Times.length := by unfold lenAt; rw [ht]
  simp only [first] at h1
  unfold nAll
  omega
theorem num_inj {a b : Ref} (ha : Nd s a) (hb : Nd s b) (h : num s a = num s b) : a = b := by
 rcases ha with rfl | ha <;> rcases hb with rfl | hb
 ·rfl
 ·obtain ⟨i, t, j, rfl, ht, hj⟩ := li_has hb
  rw [num_beg, num_li] at h
  have := first_pos s i
  omega
 ·obtain ⟨i, t, j, rfl, ht, hj⟩ := li_has ha
  rw [num_beg, num_li] at h
  have := first_pos s i
  omega
 ·obtain ⟨i, t, j, rfl, ht, hj⟩ := li_has ha
  obtain ⟨i', t', j', rfl, ht', hj'⟩ := li_has hb
  rw [num_li, num_li] at h
  have l1 : lenAt s i = t.Times.length := by unfold lenAt; rw [ht]
  have l2 : lenAt s i' = t'.Times.length := by unfold lenAt; rw [ht']
  rcases Nat.lt_trichotomy i i' with hlt | rfl | hlt
  ·have := first_mono s (show i + 1 ≤ i' from hlt)
   simp only [first] at this
   omega
  ·have : j = j' := by omega
   rw [this]
  ·have := first_mono s (show i' + 1 ≤ i from hlt)
   simp only [first] at this
   omega
theorem nodes_all : (nodesOf s).length = nAll s := by
 unfold nodesOf nAll
 rw [List.length_cons]
 have : ∀ n, (cat n fun i => match s.Tracks[i]? with
   | none => []
   | some t => (List.range t.Times.length).map fun j => li i j).length + 1 = first s n := by
  intro n
  induction n with
  | zero => rfl
  | succ n ih =>
   rw [cat_succ, List.length_append]
   have e : (match s.Tracks[n]? with
    | none => []
    | some t => (List.range t.Times.length).map fun j => li n j).length = lenAt s n := by
    unfold lenAt
    cases s.Tracks[n]? <;> simp
   rw [e]
   simp only [first]
   omega
 exact this _
theorem nAll_le (h : vCheck s = 0) : nAll s ≤ 25601 := by rw [← nodes_all]; exact nodes_len h
theorem first_le (h : vCheck s = 0) {i : Nat} (hi : i ≤ s.Tracks.length) : first s i ≤ 25601 := Nat.le_trans (first_mono s hi) (nAll_le h)
theorem spots_eq (hN : 1000000 ≤ N) (h : vCheck s = 0) : ref03_spots N s = some { first_ := (List.range s.Tracks.length).map fun i => (first s i : Int), n_ := (nAll s : Int) } := by
 unfold ref03_spots
 have hn := (check_ok h).1
 obtain ⟨o, ho, rfl⟩ := iter_ex (body := ref03_spots_L0 N s) s.Tracks.length (fun i q => q = ((i : Int), (List.range i).map (fun i => (first s i : Int)), (first s i : Int)))
  (fun o => o = .done ((s.Tracks.length : Int), (List.range s.Tracks.length).map (fun i => (first s i : Int)), (nAll s : Int))) (by
  rintro i q hi rfl
  unfold ref03_spots_L0
  simp only
  by_cases hlt : i < s.Tracks.length
  ·left
   rw [lt_t hlt, cond_true, apnd_ok (by simp; omega), Option.bind_some, idx_nat hlt]
   simp only [Option.bind_some]
   have h1 := first_le h (i := i) (by omega)
   have h2 := (track_facts (track_at h (List.getElem?_eq_getElem hlt))).2.2
   have h3 : lenAt s i = s.Tracks[i].Times.length := by unfold lenAt; rw [List.getElem?_eq_getElem hlt]
   rw [W64_succ (by omega), W64_id (by omega) (by omega)]
   refine ⟨_, rfl, ?_, hlt⟩
   simp only [List.range_succ, List.map_append, List.map_cons, List.map_nil, first, h3]
   simp
  ·have : i = s.Tracks.length := by omega
   subst this
   right
   rw [lt_f, cond_false]
   exact ⟨_, rfl, (fun _ h => by cases h), rfl⟩) s.Tracks.length N 0 (0, [], 1) (by omega) rfl (by omega)
 rw [ho]; rfl
abbrev spotS (s : System) : Spot := { first_ := (List.range s.Tracks.length).map fun i => (first s i : Int), n_ := (nAll s : Int) }
theorem of_eq (h : vCheck s = 0) {r : Ref} (hr : Nd s r) : ref03_spot_of N (spotS s) r = some (num s r : Int) := by
 unfold ref03_spot_of
 rcases hr with rfl | hr
 ·rw [num_beg]; rfl
 ·obtain ⟨i, t, j, rfl, ht, hj⟩ := li_has hr
  have hi := lt_of_get ht
  have e : decide ((li i j).Log < 0) = false := by simp [li]
  rw [e, cond_false, num_li]
  have h1 := first_le h (i := i) (by omega)
  have h2 := (track_facts (track_at h ht)).2.2
  simp only [li, idx_nat', List.getElem?_map, List.getElem?_range hi, Option.map_some, Option.bind_some]
  rw [W64_id (by omega) (by omega)]
  simp
open Classical in
noncomputable def stR (s : System) (at_ : List Int) (by_ : Ref → Option Bound) : St Ref Bound :=
 ⟨fun x => if Nd s x then (match at_[num s x]? with | some v => if v < 1125899906842624 then some v else none | none => none) else none, by_⟩
theorem stR_at {at_ : List Int} {by_ : Ref → Option Bound} {x : Ref} (hx : Nd s x) (hl : at_.length = nAll s) {v : Int} (hv : at_[num s x]? = some v) : (stR s at_ by_).at_ x = if v < 1125899906842624 then some v else none := by
 simp only [stR, if_pos hx, hv]
theorem stR_set {at_ : List Int} {by_ : Ref → Option Bound} {z : Ref} (hz : Nd s z) (hl : at_.length = nAll s) {v : Int} (hv : v < 1125899906842624) (e : Bound) :
  stR s (at_.set (num s z) v) (fun x => if x = z then some e else by_ x) = ⟨fun x => if x = z then some v else (stR s at_ by_).at_ x, fun x => if x = z then some e else (stR s at_ by_).by_ x⟩ := by
 unfold stR
 congr 1
 funext x
 by_cases hx : Nd s x
 ·simp only [if_pos hx]
  by_cases he : x = z
  ·subst he
   rw [List.getElem?_set_self (by rw [hl]; exact num_lt hz)]
   simp [hv]
  ·have hne : num s z ≠ num s x := fun h => he (num_inj hx hz h.symm)
   rw [List.getElem?_set_ne hne]
   simp [he]
 ·simp only [if_neg hx]
  have : x ≠ z := fun h => hx (h ▸ hz)
  simp [this]
abbrev IR (s : System) (frm : Ref) (k : Nat) (pre suf : List Bound) (at_ : List Int) (b : Ref → Option Bound) (ts rd : Ref → Nat) (now : Nat) : Prop :=
 Inv Bound.From Bound.To Bound.Most frm (bnds s) k pre suf (stR s at_ b) ts rd now
def AtL (at_ : List Int) (T : Nat) : Prop := ∀ (i : Nat) v, at_[i]? = some v → v < 1125899906842624 → -(50000 * (T : Int)) ≤ v ∧ v ≤ 50000 * (T : Int)
def FinR (s : System) (frm : Ref) (at_ : List Int) : Prop := at_.length = nAll s ∧ (∃ k pre b ts rd now, IR s frm k pre [] at_ b ts rd now ∧ ∀ e, e ∈ bnds s → Closed Bound.From Bound.To Bound.Most (stR s at_ b) e)
theorem reach_inner (h : vCheck s = 0) (hN : 1000000 ≤ N) {frm : Ref} {x1 : Int} {p q : List Int} {u : Int × List Int × List Int} {y : Int} {k T : Nat} (hT : T ≤ 10000000000) {at0 by0 : List Int} (hal : at0.length = nAll s) (hbl : by0.length = nAll s)
    (hI : ∃ b ts rd now, IR s frm k [] (bnds s) at0 b ts rd now) (hB : AtL at0 T) :
    ∃ o, iter (ref03_reach_L2 N s x1 (spotS s) (bnds s) p q u y ((k : Int), at0, by0)) N (-1, 0, at0, by0) = some o ∧
      ((∃ at_ by_, o = .done (-1, ((bnds s).length : Int), at_, by_) ∧ FinR s frm at_ ∧ by_.length = nAll s) ∨
       (∃ hot at_ by_, o = .done (hot, ((bnds s).length : Int), at_, by_) ∧ 0 ≤ hot ∧ at_.length = nAll s ∧ by_.length = nAll s ∧ AtL at_ (T + (bnds s).length) ∧
         ∃ pre b ts rd now, IR s frm k pre [] at_ b ts rd now ∧ (∀ e, e ∈ bnds s → e ∈ pre) ∧ ∃ z, rd z = k + 1)) := by
  have hM := bnd_most h
  have hlen := bnds_len' h
  refine iter_ex (body := ref03_reach_L2 N s x1 (spotS s) (bnds s) p q u y ((k : Int), at0, by0)) (bnds s).length
    (fun i r => r.2.1 = (i : Int) ∧ r.2.2.1.length = nAll s ∧ r.2.2.2.length = nAll s ∧ AtL r.2.2.1 (T + i) ∧ ∃ pre b ts rd now, IR s frm k pre ((bnds s).drop i) r.2.2.1 b ts rd now ∧ (∀ e, e ∈ (bnds s).take i → e ∈ pre) ∧
      ((r.1 = -1 ∧ ∀ e, e ∈ pre → Closed Bound.From Bound.To Bound.Most (stR s r.2.2.1 b) e) ∨ (0 ≤ r.1 ∧ ∃ z, rd z = k + 1))) _ ?_ (bnds s).length N 0 (-1, 0, at0, by0) (by omega) ?_ (by omega)
  · rintro i ⟨hot, j, at_, by_⟩ hi ⟨hj, hal, hbl, hAt, pre, b, ts, rd, now, hInv, hpre, hcase⟩
    simp only at hj hal hbl hAt hInv hcase
    subst hj
    unfold ref03_reach_L2
    simp only
    by_cases hlt : i < (bnds s).length
    · left
      have hmem : (bnds s)[i] ∈ bnds s := List.getElem_mem hlt
      obtain ⟨hF, hTo⟩ := bnd_ends h hmem
      have hd : (bnds s).drop i = (bnds s)[i] :: (bnds s).drop (i + 1) := List.drop_eq_getElem_cons hlt
      rw [hd] at hInv
      have htake : ∀ e, e ∈ (bnds s).take (i + 1) → e ∈ (bnds s)[i] :: pre := by
        intro e he
        rw [List.take_succ_eq_append_getElem hlt, List.mem_append, List.mem_singleton] at he
        rcases he with he | rfl
        · exact List.mem_cons_of_mem _ (hpre e he)
        · exact List.mem_cons_self ..
      have la : num s (bnds s)[i].From < at_.length := by rw [hal]; exact num_lt hF
      have lb : num s (bnds s)[i].To < at_.length := by rw [hal]; exact num_lt hTo
      have lb2 : num s (bnds s)[i].To < by_.length := by rw [hbl]; exact num_lt hTo
      rw [lt_t hlt, cond_true]
      simp only [idx_nat hlt, Option.bind_some, of_eq h hF, of_eq h hTo, idx_nat la, idx_nat lb]
      have a1 := stR_at (by_ := b) hF hal (List.getElem?_eq_getElem la)
      have a2 := stR_at (by_ := b) hTo hal (List.getElem?_eq_getElem lb)
      have hb := hM _ hmem
      have cold : BF.hot Bound.From Bound.To Bound.Most (stR s at_ b) (bnds s)[i] = false → ∃ pre' b' ts rd now, IR s frm k pre' ((bnds s).drop (i + 1)) at_ b' ts rd now ∧ (∀ e, e ∈ (bnds s).take (i + 1) → e ∈ pre') ∧
          ((hot = -1 ∧ ∀ e, e ∈ pre' → Closed Bound.From Bound.To Bound.Most (stR s at_ b') e) ∨ (0 ≤ hot ∧ ∃ z, rd z = k + 1)) := by
        intro hc
        refine ⟨(bnds s)[i] :: pre, b, ts, rd, now, hInv.cold hc, htake, ?_⟩
        rcases hcase with ⟨h0, hcl⟩ | h0
        · refine .inl ⟨h0, fun e he => ?_⟩
          rcases List.mem_cons.1 he with rfl | he
          · exact closed_of_cold hc
          · exact hcl e he
        · exact .inr h0
      by_cases hfa : at_[num s (bnds s)[i].From] < 1125899906842624
      · rw [if_pos hfa] at a1
        have hnb := hAt _ _ (List.getElem?_eq_getElem la) hfa
        have hw : W64 (at_[num s (bnds s)[i].From] + (bnds s)[i].Most) = at_[num s (bnds s)[i].From] + (bnds s)[i].Most := W64_id (by omega) (by omega)
        have e1 : decide (at_[num s (bnds s)[i].From] < 1125899906842624) = true := by simpa using hfa
        rw [e1, cond_true, hw]
        by_cases hup : at_[num s (bnds s)[i].From] + (bnds s)[i].Most < at_[num s (bnds s)[i].To]
        · have e2 : decide (at_[num s (bnds s)[i].From] + (bnds s)[i].Most < at_[num s (bnds s)[i].To]) = true := by simpa using hup
          rw [e2]
          simp only [Option.bind_some, cond_true, idx_nat lb2, Int.toNat_natCast]
          rw [W64_succ (by omega)]
          have hhot : BF.hot Bound.From Bound.To Bound.Most (stR s at_ b) (bnds s)[i] = true := by
            unfold BF.hot
            rw [a1]
            simp only
            rw [a2]
            by_cases hfb : at_[num s (bnds s)[i].To] < 1125899906842624
            · rw [if_pos hfb]; simpa using hup
            · rw [if_neg hfb]
          have hnew := hInv.hot hhot
          have hput : BF.put Bound.From Bound.To Bound.Most (stR s at_ b) (bnds s)[i] = stR s (at_.set (num s (bnds s)[i].To) (at_[num s (bnds s)[i].From] + (bnds s)[i].Most)) (fun x => if x = (bnds s)[i].To then some (bnds s)[i] else b x) := by
            rw [stR_set hTo hal (by omega)]
            unfold BF.put
            rw [a1]
          rw [hput] at hnew
          refine ⟨_, rfl, ⟨rfl, by simp [hal], by simp [hbl], ?_, (bnds s)[i] :: pre, _, _, _, _, hnew, htake, .inr ⟨by simp only; omega, (bnds s)[i].To, by simp⟩⟩, hlt⟩
          intro j v hj hv
          simp only at hj
          rw [List.getElem?_set] at hj
          by_cases hjn : num s (bnds s)[i].To = j
          · rw [if_pos hjn, if_pos lb] at hj
            cases hj; omega
          · rw [if_neg hjn] at hj
            have := hAt j v hj hv; omega
        · have e2 : decide (at_[num s (bnds s)[i].From] + (bnds s)[i].Most < at_[num s (bnds s)[i].To]) = false := by simpa using hup
          rw [e2]
          simp only [Option.bind_some, cond_false]
          rw [W64_succ (by omega)]
          refine ⟨_, rfl, ⟨rfl, hal, hbl, fun j v hj hv => by have := hAt j v hj hv; omega, cold ?_⟩, hlt⟩
          unfold BF.hot
          rw [a1]
          simp only
          rw [a2]
          have hfb : at_[num s (bnds s)[i].To] < 1125899906842624 := by omega
          rw [if_pos hfb]; simpa using hup
      · rw [if_neg hfa] at a1
        have e1 : decide (at_[num s (bnds s)[i].From] < 1125899906842624) = false := by simpa using hfa
        rw [e1]
        simp only [cond_false, Option.bind_some]
        rw [W64_succ (by omega)]
        refine ⟨_, rfl, ⟨rfl, hal, hbl, fun j v hj hv => by have := hAt j v hj hv; omega, cold ?_⟩, hlt⟩
        unfold BF.hot
        rw [a1]
    · have : i = (bnds s).length := by omega
      subst this
      right
      rw [lt_f, cond_false]
      have hd : (bnds s).drop (bnds s).length = [] := by simp
      rw [hd] at hInv
      have hall : ∀ e, e ∈ bnds s → e ∈ pre := fun e he => hpre e (by simpa using he)
      rcases hcase with ⟨rfl, hcl⟩ | ⟨h0, hz⟩
      · exact ⟨_, rfl, (fun _ h => by cases h), .inl ⟨at_, by_, rfl, ⟨hal, k, pre, b, ts, rd, now, hInv, fun e he => hcl e (hall e he)⟩, hbl⟩⟩
      · exact ⟨_, rfl, (fun _ h => by cases h), .inr ⟨hot, at_, by_, rfl, h0, hal, hbl, hAt, pre, b, ts, rd, now, hInv, hall, hz⟩⟩
  · obtain ⟨b, ts, rd, now, h⟩ := hI
    exact ⟨rfl, hal, hbl, hB, [], b, ts, rd, now, h, (fun e he => by simp at he), .inl ⟨rfl, fun e he => by cases he⟩⟩
theorem reach_eq (h : vCheck s = 0) (hf : FitS N s) (hN : 1000000 ≤ N) {frm : Ref} (hfr : Nd s frm) :
  ∃ at_ by_ hot, ref03_reach N s (num s frm : Int) = some (at_, by_, hot) ∧ ((hot = -1 ∧ FinR s frm at_) ∨ (0 ≤ hot ∧ ¬ Cls s)) := by
 unfold ref03_reach
 have hn := nAll_le h
 have hn1 : num s frm < nAll s := num_lt hfr
 rw [spots_eq hN h, Option.bind_some, bounds_r hf h, Option.bind_some]
 have hmk : mk0 (0 : Int) ((nAll s : Nat) : Int) = some (List.replicate (nAll s) 0) := by unfold mk0; rw [if_pos (by omega)]; simp
 simp only [hmk, Option.bind_some]
 obtain ⟨o, ho, rfl⟩ := iter_ex (body := ref03_reach_L0 N s (num s frm : Int) (spotS s) (bnds s) (List.replicate (nAll s) 0) (List.replicate (nAll s) 0)) (nAll s)
  (fun i q => q = ((i : Int), List.replicate i (1125899906842624 : Int) ++ List.replicate (nAll s - i) 0, List.replicate i (-1 : Int) ++ List.replicate (nAll s - i) 0))
  (fun o => o = .done ((nAll s : Int), List.replicate (nAll s) (1125899906842624 : Int), List.replicate (nAll s) (-1 : Int))) (by
  rintro i q hi rfl
  unfold ref03_reach_L0
  simp only
  by_cases hlt : i < nAll s
  ·left
   have key : ∀ v : Int, (List.replicate i v ++ List.replicate (nAll s - i) (0 : Int)).set i v = List.replicate (i + 1) v ++ List.replicate (nAll s - (i + 1)) 0 := by
    intro v
    have e : nAll s - i = (nAll s - (i + 1)) + 1 := by omega
    rw [e, List.replicate_succ, List.set_append_right _ _ (by simp)]
    simp only [List.length_replicate, Nat.sub_self, List.set_cons_zero]
    rw [List.replicate_succ', List.append_assoc]; rfl
   rw [lt_t hlt, cond_true, idx_nat (by simp; omega), Option.bind_some, idx_nat (by simp; omega), Option.bind_some, W64_succ (by omega)]
   refine ⟨_, rfl, ?_, hlt⟩
   simp only [Int.toNat_natCast, key]
  ·have : i = nAll s := by omega
   subst this
   right
   rw [lt_f, cond_false]
   exact ⟨_, rfl, (fun _ h => by cases h), by simp⟩) (nAll s) N 0 (0, List.replicate (nAll s) 0, List.replicate (nAll s) 0) (by omega) (by simp) (by omega)
 rw [ho]
 simp only [Option.bind_some, Flow.k]
 rw [idx_nat (by simpa using hn1)]
 simp only [Option.bind_some, Int.toNat_natCast]
 generalize hr : (List.replicate (nAll s) (1125899906842624 : Int)).set (num s frm) 0 = at0
 generalize hu : ((nAll s : Int), List.replicate (nAll s) (1125899906842624 : Int), List.replicate (nAll s) (-1 : Int)) = u
 generalize (List.replicate (nAll s) (1125899906842624 : Int))[num s frm]'_ = y
 have hal0 : at0.length = nAll s := by subst hr; simp
 have hinit : BF.init frm = stR s at0 (fun _ => none) := by
  subst hr
  unfold BF.init stR
  refine congrArg (fun a => (⟨a, fun _ => none⟩ : St Ref Bound)) ?_
  funext x
  by_cases hx : Nd s x
  ·rw [if_pos hx]
   by_cases he : x = frm
   ·subst he; rw [List.getElem?_set_self (by simpa using hn1)]; simp
   ·have hne : num s frm ≠ num s x := fun h => he (num_inj hx hfr h.symm)
    rw [List.getElem?_set_ne hne, List.getElem?_replicate, if_pos (num_lt hx)]; simp [he]
  ·rw [if_neg hx]
   have : x ≠ frm := fun h => hx (h ▸ hfr)
   simp [this]
 obtain ⟨o, ho, hR⟩ := iter_ex (body := ref03_reach_L1 N s (num s frm : Int) (spotS s) (bnds s) (List.replicate (nAll s) 0) (List.replicate (nAll s) 0) u y) (nAll s)
  (fun k q => q.1 = (k : Int) ∧ q.2.1.length = nAll s ∧ q.2.2.length = nAll s ∧ (∃ b ts rd now, IR s frm k [] (bnds s) q.2.1 b ts rd now) ∧ AtL q.2.1 (k * (bnds s).length))
  (fun o => ∃ at_ by_ hot, o = .ret (at_, by_, hot) ∧ ((hot = -1 ∧ FinR s frm at_) ∨ (0 ≤ hot ∧ ¬ Cls s))) (by
  rintro k ⟨j, at1, by1⟩ hk ⟨hj, hal, hbl, hI, hB⟩
  simp only at hj hal hbl hI hB
  subst hj
  have hbl' := bnds_len' h
  have hT : k * (bnds s).length ≤ 10000000000 := by
   have := Nat.mul_le_mul (show k ≤ 25601 by omega) hbl'
   omega
  obtain ⟨o, ho, hcase⟩ := reach_inner h hN (x1 := (num s frm : Int)) (p := List.replicate (nAll s) 0) (q := List.replicate (nAll s) 0) (u := u) (y := y) hT hal hbl hI hB
  unfold ref03_reach_L1
  have e1 : decide ((k : Int) ≤ (nAll s : Int)) = true := by simpa using hk
  simp only at ho ⊢
  rw [e1, cond_true, ho]
  rcases hcase with ⟨at_, by_, rfl, hfin, hbl2⟩ | ⟨hot, at_, by_, rfl, h0, hal2, hbl2, hB2, pre, b, ts, rd, now, hInv, hall, z, hz⟩
  ·right
   exact ⟨_, rfl, (fun _ h => by cases h), at_, by_, -1, rfl, .inl ⟨rfl, hfin⟩⟩
  ·have e2 : decide (hot < 0) = false := by simpa using h0
   simp only [Option.bind_some, Flow.k, e2, cond_false]
   by_cases hkn : k = nAll s
   ·right
    have e3 : ((k : Int) == (nAll s : Int)) = true := by simp [hkn]
    rw [e3, cond_true]
    refine ⟨_, rfl, (fun _ h => by cases h), at_, by_, hot, rfl, .inr ⟨h0, ?_⟩⟩
    refine hInv.neg_of_late (nodes := nodesOf s) (fun e he => mem_nodes.2 (bnd_ends h he).2) (z := z) ?_
    rw [nodes_all, hz, hkn]; exact Nat.le_refl _
   ·left
    have e3 : ((k : Int) == (nAll s : Int)) = false := by simp; omega
    rw [e3, cond_false, W64_succ (by omega)]
    exact ⟨_, rfl, ⟨rfl, hal2, hbl2, ⟨b, ts, rd, now, hInv.next hall⟩, by rw [Nat.succ_mul]; exact hB2⟩, by omega⟩) (nAll s) N 0 (0, at0, List.replicate (nAll s) (-1)) (by omega) (by
   refine ⟨rfl, hal0, by simp, ⟨fun _ => none, fun _ => 0, fun _ => 0, 0, ?_⟩, ?_⟩
   ·have := Inv.init (src := Bound.From) (dst := Bound.To) (w := Bound.Most) frm (bnds s)
    rw [hinit] at this
    exact this
   ·intro i v hi hv
    simp only at hi
    subst hr
    rw [List.getElem?_set] at hi
    by_cases hin : num s frm = i
    ·rw [if_pos hin, if_pos (by simpa using hn1)] at hi
     cases hi; omega
    ·rw [if_neg hin, List.getElem?_replicate] at hi
     split at hi
     ·cases hi; omega
     ·cases hi) (by omega)
 obtain ⟨at_, by_, hot, rfl, hcase⟩ := hR
 subst hu
 rw [ho]
 exact ⟨at_, by_, hot, rfl, hcase⟩
theorem FinR.val (h : vCheck s = 0) {frm : Ref} {at_ : List Int} (hf : FinR s frm at_) {x : Ref} (hfr : Nd s frm) (hx : Nd s x) : ∃ v, at_[num s x]? = some v ∧ Dst s frm x v := by
 obtain ⟨hl, k, pre, b, ts, rd, now, hI, hc⟩ := hf
 obtain ⟨n, hn⟩ := walk_any h hfr hx
 obtain ⟨m, hm, _⟩ := walk_closed hc hn (hI.frm_zero hc)
 have hd := (hI.dist hc).1 hm
 simp only [stR, if_pos hx] at hm
 cases hv : at_[num s x]? with
 | none => rw [hv] at hm; cases hm
 | some v =>
  rw [hv] at hm
  simp only at hm
  split at hm
  ·cases hm; exact ⟨m, rfl, hd⟩
  ·cases hm
theorem FinR.closes (h : vCheck s = 0) {frm : Ref} {at_ : List Int} (hf : FinR s frm at_) (hfr : Nd s frm) : Cls s := by
 obtain ⟨hl, k, pre, b, ts, rd, now, hI, hc⟩ := hf
 refine noNeg_of_closed hc (fun e he => ?_)
 obtain ⟨n, hn⟩ := walk_any h hfr (bnd_ends h he).2
 obtain ⟨m, hm, _⟩ := walk_closed hc hn (hI.frm_zero hc)
 exact ⟨m, hm⟩
theorem reach_ok (h : vCheck s = 0) (hf : FitS N s) (hN : 1000000 ≤ N) (hc : Cls s) {frm : Ref} (hfr : Nd s frm) : ∃ at_ by_, ref03_reach N s (num s frm : Int) = some (at_, by_, -1) ∧ ∀ x, Nd s x → at_[num s x]? = some (dd s frm x) := by
 obtain ⟨at_, by_, hot, h1, h2⟩ := reach_eq h hf hN hfr
 rcases h2 with ⟨rfl, h2⟩ | ⟨_, h2⟩
 ·refine ⟨at_, by_, h1, fun x hx => ?_⟩
  obtain ⟨v, h3, h4⟩ := h2.val h hfr hx
  rw [h3, dd_eq h4]
 ·exact absurd hc h2
open Classical in
theorem Closes_eq (h : vCheck s = 0) (hf : FitS N s) (hN : 1000000 ≤ N) : ref03_Closes N s = some (decide (Cls s)) := by
 unfold ref03_Closes
 obtain ⟨at_, by_, hot, h1, h2⟩ := reach_eq h hf hN (nd_beg s)
 rw [num_beg] at h1
 rw [show (0 : Int) = ((0 : Nat) : Int) from rfl, h1]
 simp only [Option.bind_some]
 rcases h2 with ⟨rfl, h2⟩ | ⟨h0, h2⟩
 ·have := h2.closes h (nd_beg s)
  simp [this]
 ·simp only [h2, decide_false, Option.some.injEq, decide_eq_false_iff_not]
  omega
end
end Go.Proofs.Ythbcnabeabcmlaa
namespace Go.Proofs.Ythbcnabeabcmlaa
open Go.Proofs
def ref03_asked_L0 (N : Nat) (x0 : System) (x1 : (List Ref)) (r4 : Int) : Int → Option (Flow Int Int) := fun s18 =>
 (bif (decide (s18 < (x1.length : Int))) then (((idx x1 s18).bind fun x53 => ((ref03_Has N x0 x53).bind fun r67 => some (!r67))).bind fun j45 => (bif j45 then some (.ret 3) else some (.next (W64 (s18 + 1))))) else some (.done s18))
def ref03_asked (N : Nat) (x0 : System) (x1 : (List Ref)) : Option Int :=
 ((ref03_Check N x0).bind fun r4 => (bif (r4 != 0) then some r4 else ((iter (ref03_asked_L0 N x0 x1 r4) N 0).bind fun o => o.k (fun r => some r) (fun s26 => ((ref03_Closes N x0).bind fun r82 => (bif (!r82) then some 31 else some 0))))))
theorem co_ref03_asked : CallOk Try.prog 78 := fun _ _ => by kernel_rfl
set_option maxHeartbeats 4000000 in
set_option maxRecDepth 100000 in
theorem c_ref03_asked (N : Nat) (w0 : World) (F0 : Mem) (hF : ∀ b o, F0 b = some o → w0.heap[b]? = some o) (x0 : System) (a0_0 : Option Addr) (n0_0 : Nat) (hb0_0 : LC x0.Tracks.length n0_0) (hs0_0 : SlA tTrack F0 a0_0 x0.Tracks) (a0_1 : Option Addr) (n0_1 : Nat) (hb0_1 : LC x0.Ties.length n0_1) (hs0_1 : SlA tTie F0 a0_1 x0.Ties) (x1 : (List Ref)) (a1_0 : Option Addr) (n1_0 : Nat) (hb1_0 : LC x1.length n1_0) (hs1_0 : SlA tRef F0 a1_0 x1) (r : Int) (h : ref03_asked N x0 x1 = some r) :
  Calls Try.prog 78 ([(.agg (kSystem x0 a0_0 n0_0 a0_1 n0_1)), (.slice a1_0 x1.length n1_0)] : List Value).toArray w0 (FRet w0 F0 fun F' v => v = (vi r)) := by
 have hs0 := HS.start hF
 refine calls_of (n := 28) (c := bodyOf Try.f78) Try.func78 (by kernel_rfl) (by kernel_rfl) (by kernel_rfl) ?_
 refine Sq (Rg [0, 1] ?_)
 refine Bx 2 0 0 25 (kSystem x0 a0_0 n0_0 a0_1 n0_1) hs0 (fun b1 w2 (hs3 : HS w0 F0 w2 F0 [(sb b1 (kSystem x0 a0_0 n0_0 a0_1 n0_1) 25)]) => ?_)
 refine V 4 30 (mc (vi 0) (vi 0)) ?_
 refine Nss (Rg [0, 1, 2] ?_)
 refine V 7 25 (ld 25 2 b1 0 true 3 (.agg (kSystem x0 a0_0 n0_0 a0_1 n0_1)) (hs3.ownAt (k := 0) rfl)) ?_
 obtain ⟨r4, hr5, h6⟩ := bind_some h
 refine Cl 8 30 40 #[(.tmp 7)] #[25] co_ref03_Check hs3 (c_ref03_Check N w2 F0 hs3.pers (x0) a0_0 n0_0 hb0_0 hs0_0 a0_1 n0_1 hb0_1 hs0_1 _ hr5) ?_
 intro v7 F1 w8 hs9 le10 hp11
 obtain rfl := hp11
 refine V 5 30 (ma 8 (vi r4)) ?_
 refine Nss ?_
 refine Sq (Rg [0, 1] ?_)
 refine V 9 30 (mv 5 (vi r4)) ?_
 refine V 10 4 (run_neq (t := 30) (t' := 30) (x := (.tmp 9)) (y := (.const (vi 0))) (k := .i64) (a := r4) (b := 0) rfl rfl) ?_
 refine Nt ?_
 refine CWP.cond (t := (r4 != 0)) (by kernel_rfl) rfl (fun hb12 => ?_) (fun hb12 => ?_)
 ·have h13 := cond_t h6 hb12
  refine Sq (Rg [0, 1] ?_)
  refine V 11 30 (mv 5 (vi r4)) ?_
  refine V 4 30 (ma 11 (vi r4)) ?_
  refine Nt ?_
  refine CWP.ret (by kernel_rfl) ?_
  refine thenQ_ret ?_
  have hfin := some_inj h13
  subst hfin
  exact ⟨rfl, (vi r4), res_of (l := [.tmp 4]) (by kernel_rfl) (vs := [(vi r4)]) ⟨rfl, trivial⟩, (vi r4), F1, rfl, hs9.clear, rfl⟩
 ·have h14 := cond_f h6 hb12
  refine Sc ?_
  refine thenQ_nrm ?_
  refine Sq ?_
  refine Sq (Rg [0] ?_)
  refine V 6 3 (mc (vi 0) (vi 0)) ?_
  refine Nt ?_
  obtain ⟨o15, ho16, h17⟩ := bind_some h14
  refine CWP.cut (fun f w => ∃ (s26 : Int) (F3 : Mem), o15 = .done s26 ∧ HS w0 F0 w F3 [(sb b1 (kSystem x0 a0_0 n0_0 a0_1 n0_1) 25)] ∧ Mem.le F1 F3 ∧ f.d = [] ∧ f 2 = (.pointer (some ⟨b1, 0, none⟩))) ?_ ?_
  ·refine Bk ?_
   refine CWP.loop (by kernel_rfl) (fun m f w => ∃ (s18 : Int) (F2 : Mem), iter (ref03_asked_L0 N x0 x1 r4) m s18 = some o15 ∧ HS w0 F0 w F2 [(sb b1 (kSystem x0 a0_0 n0_0 a0_1 n0_1) 25)] ∧ Mem.le F1 F2 ∧ f.d = [] ∧ f 1 = (.slice a1_0 x1.length n1_0) ∧ f 2 = (.pointer (some ⟨b1, 0, none⟩)) ∧ f 6 = (vi s18)) N ⟨0, F1, ho16, hs9, (Mem.le.refl _), rfl, rfl, rfl, rfl⟩ ?_
   rintro m32 f w19 ⟨s18, F2, hit33, hs20, le21, e22, e23, e24, e25⟩
   obtain ⟨m34, fl35, rfl, hb36, hnx37⟩ := iter_step hit33
   refine Sq ?_
   refine Sq (Rg [0, 1, 2, 3] ?_)
   refine V 12 3 (mv 6 (vi s18) e25) ?_
   refine V 13 109 (mv 1 (.slice a1_0 x1.length n1_0) e23) ?_
   refine V 14 3 (ln 13 109 a1_0 x1.length n1_0 27 2 16) ?_
   refine V 15 4 (run_lss (t := 3) (t' := 3) (x := (.tmp 12)) (y := (.tmp 14)) (k := .i64) (a := s18) (b := (x1.length : Int)) rfl rfl) ?_
   refine Nt ?_
   refine CWP.cond (t := (decide (s18 < (x1.length : Int)))) (by kernel_rfl) rfl (fun hb38 => ?_) (fun hb38 => ?_)
   ·have h39 := cond_t hb36 hb38
    refine Sc ?_
    refine thenQ_nrm ?_
    refine Sq ?_
    refine Bk ?_
    refine Sq ?_
    obtain ⟨j45, hj51, h52⟩ := bind_some h39
    refine CWP.regionD (by kernel_rfl) (by kernel_rfl) (by kernel_rfl) (by kernel_rfl) (z := 7) (F := F2) (Lc := [(sb b1 (kSystem x0 a0_0 n0_0 a0_1 n0_1) 25)]) (Lz := []) (l := [false, false, false, false, false, false, false]) (fuel := 7) (by kernel_rfl) (by kernel_rfl) hs20 (by simp) (by simp) (fun f w => ∃ (F4 : Mem), HS w0 F0 w F4 [(sb b1 (kSystem x0 a0_0 n0_0 a0_1 n0_1) 25)] ∧ Mem.le F2 F4 ∧ f.d = [] ∧ f 1 = (.slice a1_0 x1.length n1_0) ∧ f 2 = (.pointer (some ⟨b1, 0, none⟩)) ∧ f 6 = (vi s18) ∧ f 24 = (.bool j45)) (fun wd40 hw41 => ?_) ?_
    ·refine Dt 0 18 25 _ (fun _ hq => ld 25 2 b1 0 true 3 (.agg (kSystem x0 a0_0 n0_0 a0_1 n0_1)) (hq.1.2 0 _ _ rfl) e24) ?_
     refine Dt 1 19 109 _ (fun _ hq => mv 1 (.slice a1_0 x1.length n1_0) e23) ?_
     refine Dt 2 20 3 _ (fun _ hq => mv 6 (vi s18) e25) ?_
     obtain ⟨x53, hx54, h56⟩ := bind_some hj51
     obtain ⟨hi55, hx54'⟩ := idx_spec hx54
     obtain ⟨b57, o58, C59, E60, fz61, rfl, hF63, hE64⟩ := SlA.open (SlA.mono hs1_0 (le10.trans le21)) hx54'
     have hc66 := hE64 _ _ hx54'
     refine Dt 3 21 0 (.pointer (some ⟨b57, (o58 + (s18 : Int).toNat * 2), none⟩)) (fun _ hq => ix 109 19 20 b57 o58 27 2 16 hi55) ?_
     refine Dt 4 22 27 _ (fun _ hq => lx 27 21 0 2 true 2 (.agg (kRef x53)) (hq.1.1 _ _ hF63) hc66) ?_
     refine DWP.one (i := 5) (by kernel_rfl) ?_
     obtain ⟨r67, hr68, h69⟩ := bind_some h56
     refine DStep.call (l' := [true, true, true, true, true, true, false]) (zd := true) (by kernel_rfl) (by kernel_rfl) (by kernel_rfl) (dst := (some 23)) (ty := 4) (g := none) (by kernel_rfl) rfl (f0 := (.func 85)) (aos := #[(.tmp 18), (.tmp 22)]) (ats := #[25, 27]) (fid := 85) (first := #[]) (cap := #[]) (args := [(.agg (kSystem x0 a0_0 n0_0 a0_1 n0_1)), (.agg (kRef x53))]) rfl co_ref03_Has (rfl) hw41 (c_ref03_Has N wd40 F2 hw41.pers (x0) a0_0 n0_0 hb0_0 (SlA.mono hs0_0 (le10.trans le21)) a0_1 n0_1 hb0_1 (SlA.mono hs0_1 (le10.trans le21)) (x53) _ hr68) ?_
     intro v70 F5 w71 hs72 le73 hp74
     obtain rfl := hp74
     refine Dt 6 24 4 (.bool (!r67)) (fun _ hq => run_not (t := 4) (x := (.tmp 23)) (a := r67) rfl) ?_
     obtain rfl := some_inj h69
     exact DWP.done (by kernel_rfl) ⟨F5, hs72, le73, e22, e23, e24, e25, rfl⟩
    ·rintro f w42 ⟨F4, hs43, le44, e46, e47, e48, e49, e50⟩
     refine thenQ_nrm ?_
     refine CWP.cond (t := j45) (by kernel_rfl) e50 (fun hb75 => ?_) (fun hb75 => ?_)
     ·have h76 := cond_t h52 hb75
      refine Sq (Rg [0] ?_)
      refine V 4 30 (mc (vi 3) (vi 3)) ?_
      refine Nt ?_
      refine CWP.ret (by kernel_rfl) ?_
      refine blockQ_ret ?_
      refine thenQ_ret ?_
      refine thenQ_ret ?_
      refine blockQ_ret ?_
      have hret := iter_ret h76 hnx37
      subst hret
      refine .inr ?_
      refine thenQ_ret ?_
      have hfin := some_inj h17
      subst hfin
      exact ⟨e46, (vi 3), res_of (l := [.tmp 4]) (by kernel_rfl) (vs := [(vi 3)]) ⟨rfl, trivial⟩, (vi 3), F4, rfl, hs43.clear, rfl⟩
     ·have h77 := cond_f h52 hb75
      refine Sc ?_
      refine blockQ_nrm ?_
      refine thenQ_nrm ?_
      refine Rg [0, 1, 2] ?_
      refine V 16 3 (mv 6 (vi s18) e49) ?_
      refine V 17 3 (run_add (t := 3) (t' := 3) (x := (.tmp 16)) (y := (.const (vi 1))) (k := .i64) (a := s18) (b := 1) rfl rfl) ?_
      refine V 6 3 (ma 17 (vi (W64 (s18 + 1)))) ?_
      refine RWP.nil ?_
      have hn78 := iter_next h77 hnx37
      exact ⟨m34, Nat.lt_succ_self _, (W64 (s18 + 1)), F4, hn78, hs43, (le21.trans le44), e46, e47, e48, rfl⟩
   ·have h79 := cond_f hb36 hb38
    refine CWP.exit (by kernel_rfl) ?_
    refine thenQ_ex ?_
    refine thenQ_ex ?_
    refine blockQ_hit rfl ?_
    have ho80 := iter_done h79 hnx37
    exact .inl ⟨rfl, s18, F2, ho80, hs20, le21, e22, e24⟩
  ·rintro f w27 ⟨s26, F3, rfl, hs28, le29, e30, e31⟩
   have h81 := k_done h17
   refine thenQ_nrm ?_
   refine Sq ?_
   refine Sq (Rg [0, 1, 2] ?_)
   refine V 25 25 (ld 25 2 b1 0 true 3 (.agg (kSystem x0 a0_0 n0_0 a0_1 n0_1)) (hs28.ownAt (k := 0) rfl) e31) ?_
   obtain ⟨r82, hr83, h84⟩ := bind_some h81
   refine Cl 26 4 90 #[(.tmp 25)] #[25] co_ref03_Closes hs28 (c_ref03_Closes N w27 F3 hs28.pers (x0) a0_0 n0_0 hb0_0 (SlA.mono hs0_0 (le10.trans le29)) a0_1 n0_1 hb0_1 (SlA.mono hs0_1 (le10.trans le29)) _ hr83) ?_
   intro v85 F6 w86 hs87 le88 hp89
   obtain rfl := hp89
   refine V 27 4 (run_not (t := 4) (x := (.tmp 26)) (a := r82) rfl) ?_
   refine Nt ?_
   refine CWP.cond (t := (!r82)) (by kernel_rfl) rfl (fun hb90 => ?_) (fun hb90 => ?_)
   ·have h91 := cond_t h84 hb90
    refine Sq (Rg [0] ?_)
    refine V 4 30 (mc (vi 31) (vi 31)) ?_
    refine Nt ?_
    refine CWP.ret (by kernel_rfl) ?_
    refine thenQ_ret ?_
    have hfin := some_inj h91
    subst hfin
    exact ⟨e30, (vi 31), res_of (l := [.tmp 4]) (by kernel_rfl) (vs := [(vi 31)]) ⟨rfl, trivial⟩, (vi 31), F6, rfl, hs87.clear, rfl⟩
   ·have h92 := cond_f h84 hb90
    refine Sc ?_
    refine thenQ_nrm ?_
    refine Sq (Rg [0] ?_)
    refine V 4 30 (mc (vi 0) (vi 0)) ?_
    refine Nt ?_
    refine CWP.ret (by kernel_rfl) ?_
    have hfin := some_inj h92
    subst hfin
    exact ⟨e30, (vi 0), res_of (l := [.tmp 4]) (by kernel_rfl) (vs := [(vi 0)]) ⟨rfl, trivial⟩, (vi 0), F6, rfl, hs87.clear, rfl⟩
end Go.Proofs.Ythbcnabeabcmlaa
namespace Go.Proofs.Ythbcnabeabcmlaa
open Go.Proofs
end Go.Proofs.Ythbcnabeabcmlaa
