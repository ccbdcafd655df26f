/- Lemmas of the claim ClocksTried, printed by a program of the claimant and by hand. No statement of the seat is proved here. -/
import Derived.Test.YthbcnabeabcmlaaA1
set_option linter.unusedVariables false
set_option linter.unusedSimpArgs false
set_option linter.unusedSectionVars false
namespace Go.Proofs.Ythbcnabeabcmlaa
open Go.Proofs
def clocks_ValidClock_L0 (N : Nat) (x0 : Clock) : Int → Option (Flow Bool Int) := fun s7 =>
 (bif (decide (s7 < (x0.Jumps.length : Int))) then ((idx x0.Jumps s7).bind fun x30 => (((clocks_within N x30 0 20000).bind fun r56 => (bif (!r56) then some true else (bif (decide (s7 > 0)) then ((idx x0.Jumps (W64 (s7 - 1))).bind fun x69 => some (decide (x30 ≤ x69))) else some false))).bind fun j47 => (bif j47 then some (.ret false) else some (.next (W64 (s7 + 1)))))) else some (.done s7))
def clocks_ValidClock (N : Nat) (x0 : Clock) : Option Bool :=
 ((iter (clocks_ValidClock_L0 N x0) N 0).bind fun o => o.k (fun r => some r) (fun s16 => (((clocks_within N x0.Slip 0 1440).bind fun r91 => (bif r91 then ((clocks_within N x0.Drift 0 100).bind fun r101 => (bif r101 then some (decide ((x0.Jumps.length : Int) ≤ 16)) else some false)) else some false)).bind fun j86 => some j86)))
theorem co_clocks_ValidClock : CallOk Try.prog 36 := fun _ _ => by kernel_rfl
set_option maxHeartbeats 4000000 in
set_option maxRecDepth 100000 in
theorem c_clocks_ValidClock (N : Nat) (w0 : World) (F0 : Mem) (hF : ∀ b o, F0 b = some o → w0.heap[b]? = some o) (x0 : Clock) (a0_2 : Option Addr) (n0_2 : Nat) (hb0_2 : LC x0.Jumps.length n0_2) (hs0_2 : SlA tInt F0 a0_2 x0.Jumps) (r : Bool) (h : clocks_ValidClock N x0 = some r) :
  Calls Try.prog 36 ([(.agg (kClock x0 a0_2 n0_2))] : List Value).toArray w0 (FRet w0 F0 fun F' v => v = (.bool r)) := by
 have hs0 := HS.start hF
 refine calls_of (n := 45) (c := bodyOf Try.f36) Try.func36 (by kernel_rfl) (by kernel_rfl) (by kernel_rfl) ?_
 refine Sq (Rg [0, 1] ?_)
 refine Bx 1 0 0 52 (kClock x0 a0_2 n0_2) hs0 (fun b1 w2 (hs3 : HS w0 F0 w2 F0 [(sb b1 (kClock x0 a0_2 n0_2) 52)]) => ?_)
 refine V 2 4 (mc (.bool false) (.bool false)) ?_
 refine Nss ?_
 refine Sq (Rg [0, 1, 2, 3] ?_)
 refine V 5 0 (fa 52 1 2 2 1 b1 0 2) ?_
 refine V 6 50 (ld 50 5 b1 2 false 1 (.slice a0_2 x0.Jumps.length n0_2) (hs3.ownAt (k := 0) rfl)) ?_
 refine V 7 3 (ln 6 50 a0_2 x0.Jumps.length n0_2 3 1 8) ?_
 refine V 8 3 (run_move (x := (.const (vi 0))) (v := (vi 0)) rfl) ?_
 refine Nt ?_
 obtain ⟨o4, ho5, h6⟩ := bind_some h
 refine CWP.cut (fun f w => ∃ (s16 : Int) (F2 : Mem), o4 = .done s16 ∧ HS w0 F0 w F2 [(sb b1 (kClock x0 a0_2 n0_2) 52)] ∧ Mem.le F0 F2 ∧ f.d = [] ∧ f 1 = (.pointer (some ⟨b1, 0, none⟩))) ?_ ?_
 ·refine Bk ?_
  refine CWP.loop (by kernel_rfl) (fun m f w => ∃ (s7 : Int) (F1 : Mem), iter (clocks_ValidClock_L0 N x0) m s7 = some o4 ∧ HS w0 F0 w F1 [(sb b1 (kClock x0 a0_2 n0_2) 52)] ∧ Mem.le F0 F1 ∧ f.d = [] ∧ f 1 = (.pointer (some ⟨b1, 0, none⟩)) ∧ f 6 = (.slice a0_2 x0.Jumps.length n0_2) ∧ f 7 = (vi (x0.Jumps.length : Int)) ∧ f 8 = (vi s7)) N ⟨0, F0, ho5, hs3, (Mem.le.refl _), rfl, rfl, rfl, rfl, rfl⟩ ?_
  rintro m22 f w8 ⟨s7, F1, hit23, hs9, le10, e11, e12, e13, e14, e15⟩
  obtain ⟨m24, fl25, rfl, hb26, hnx27⟩ := iter_step hit23
  refine Sq (Rg [0] ?_)
  refine V 9 0 (run_lss (t := 3) (t' := 3) (x := (.tmp 8)) (y := (.tmp 7)) (k := .i64) (a := s7) (b := (x0.Jumps.length : Int)) e15 e14) ?_
  refine Nss ?_
  refine CWP.cond (t := (decide (s7 < (x0.Jumps.length : Int)))) (by kernel_rfl) rfl (fun hb28 => ?_) (fun hb28 => ?_)
  ·have h29 := cond_t hb26 hb28
   refine Sc ?_
   refine thenQ_nrm ?_
   refine Sq ?_
   refine Bk ?_
   refine Sq (Rg [0, 1, 2, 3, 4] ?_)
   refine V 10 3 (mv 8 (vi s7) e15) ?_
   obtain ⟨x30, hx31, h33⟩ := bind_some h29
   obtain ⟨hi32, hx31'⟩ := idx_spec hx31
   obtain ⟨b34, o35, C36, E37, fz38, rfl, hF40, hE41⟩ := SlA.open (SlA.mono hs0_2 le10) hx31'
   have hc43 := hE41 _ _ hx31'
   refine V 11 0 (run_index (t := 50) (x := (.tmp 6)) (y := (.tmp 8)) (b := b34) (o := o35) (E := 3) (s := 1) (by_ := 8) e13 e15 (by kernel_rfl) hi32) ?_
   refine V 12 3 (lx 3 11 0 1 false 1 (vi x30) (hs9.pers _ _ hF40) hc43) ?_
   refine V 3 3 (ma 10 (vi s7)) ?_
   refine V 4 3 (ma 12 (vi x30)) ?_
   refine Nss (Rg [0, 1, 2, 3, 4, 5, 6, 7, 8, 9, 10, 11, 12, 13, 14, 15, 16] ?_)
   obtain ⟨j47, hj54, h55⟩ := bind_some h33
   refine RWP.cut (fun f w => ∃ (F3 : Mem), HS w0 F0 w F3 [(sb b1 (kClock x0 (some ⟨b34, o35, none⟩) n0_2) 52)] ∧ Mem.le F1 F3 ∧ f.d = [] ∧ f 1 = (.pointer (some ⟨b1, 0, none⟩)) ∧ f 6 = (.slice (some ⟨b34, o35, none⟩) x0.Jumps.length n0_2) ∧ f 7 = (vi (x0.Jumps.length : Int)) ∧ f 8 = (vi s7) ∧ f 29 = (.bool j47)) ?_ ?_
   ·refine V 13 3 (mv 4 (vi x30)) ?_
    obtain ⟨r56, hr57, h58⟩ := bind_some hj54
    refine Cl 14 4 67 #[(.tmp 13), (.const (vi 0)), (.const (vi 20000))] #[3, 3, 3] co_clocks_within hs9 (c_clocks_within N w8 F1 hs9.pers (x30) (0) (20000) _ hr57) ?_
    intro v59 F4 w60 hs61 le62 hp63
    obtain rfl := hp63
    refine V 15 4 (run_not (t := 4) (x := (.tmp 14)) (a := r56) rfl) ?_
    refine V 16 4 (mv 15 (.bool (!r56))) ?_
    refine RWP.split (!r56) (fun hb64 => ?_) (fun hb64 => ?_)
    ·have h65 := cond_t h58 hb64
     refine Sk [17, 18, 19] 3 false 16 hb64 ?_
     refine Su [20, 21, 22, 23, 24, 25, 26, 27] 6 true 19 ?_
     refine Sk [28] 3 false 16 hb64 ?_
     refine V 29 4 (p1 16 (.const (.bool true)) (.tmp 28) (.bool true) hb64) ?_
     obtain rfl := some_inj h65
     exact RWP.nil ⟨rfl, F4, hs61, le62, e11, e12, e13, e14, e15, rfl⟩
    ·have h66 := cond_f h58 hb64
     refine Vg 17 3 3 false 16 hb64 (mv 3 (vi s7)) ?_
     refine Vg 18 4 3 false 16 hb64 (run_gtr (t := 3) (t' := 3) (x := (.tmp 17)) (y := (.const (vi 0))) (k := .i64) (a := s7) (b := 0) rfl rfl) ?_
     refine Vg 19 4 3 false 16 hb64 (mv 18 (.bool (decide (s7 > 0)))) ?_
     refine RWP.split (decide (s7 > 0)) (fun hb67 => ?_) (fun hb67 => ?_)
     ·have h68 := cond_t h66 hb67
      refine Vg 20 3 6 true 19 hb67 (mv 4 (vi x30)) ?_
      refine Vg 21 0 6 true 19 hb67 (fa 52 1 2 2 1 b1 0 2 e12) ?_
      refine Vg 22 50 6 true 19 hb67 (ld 50 21 b1 2 false 1 (.slice (some ⟨b34, o35, none⟩) x0.Jumps.length n0_2) (hs61.ownAt (k := 0) rfl)) ?_
      refine Vg 23 3 6 true 19 hb67 (mv 3 (vi s7)) ?_
      refine Vg 24 3 6 true 19 hb67 (run_sub (t := 3) (t' := 3) (x := (.tmp 23)) (y := (.const (vi 1))) (k := .i64) (a := s7) (b := 1) rfl rfl) ?_
      obtain ⟨x69, hx70, h72⟩ := bind_some h68
      obtain ⟨hi71, hx70'⟩ := idx_spec hx70
      have hc74 := hE41 _ _ hx70'
      refine Vg 25 0 6 true 19 hb67 (ix 50 22 24 b34 o35 3 1 8 hi71) ?_
      refine Vg 26 3 6 true 19 hb67 (lx 3 25 0 1 false 1 (vi x69) (hs61.pers _ _ (le62 _ _ hF40)) hc74) ?_
      refine Vg 27 4 6 true 19 hb67 (run_leq (t := 3) (t' := 3) (x := (.tmp 20)) (y := (.tmp 26)) (k := .i64) (a := x30) (b := x69) rfl rfl) ?_
      refine Vg 28 4 3 false 16 hb64 (p1 19 (.tmp 27) (.const (.bool false)) (.bool (decide (x30 ≤ x69))) hb67) ?_
      refine V 29 4 (p0 16 (.const (.bool true)) (.tmp 28) (.bool (decide (x30 ≤ x69))) hb64) ?_
      obtain rfl := some_inj h72
      exact RWP.nil ⟨rfl, F4, hs61, le62, e11, e12, e13, e14, e15, rfl⟩
     ·have h75 := cond_f h66 hb67
      refine Sk [20, 21, 22, 23, 24, 25, 26, 27] 6 true 19 hb67 ?_
      refine Vg 28 4 3 false 16 hb64 (p0 19 (.tmp 27) (.const (.bool false)) (.bool false) hb67) ?_
      refine V 29 4 (p0 16 (.const (.bool true)) (.tmp 28) (.bool false) hb64) ?_
      obtain rfl := some_inj h75
      exact RWP.nil ⟨rfl, F4, hs61, le62, e11, e12, e13, e14, e15, rfl⟩
   ·rintro f w44 ⟨F3, hs45, le46, e48, e49, e50, e51, e52, e53⟩
    refine thenQ_nrm ?_
    refine CWP.cond (t := j47) (by kernel_rfl) e53 (fun hb76 => ?_) (fun hb76 => ?_)
    ·have h77 := cond_t h55 hb76
     refine Sq (Rg [0] ?_)
     refine V 2 4 (mc (.bool false) (.bool false)) ?_
     refine Nt ?_
     refine CWP.ret (by kernel_rfl) ?_
     refine blockQ_ret ?_
     refine thenQ_ret ?_
     refine thenQ_ret ?_
     refine blockQ_ret ?_
     have hret := iter_ret h77 hnx27
     subst hret
     refine .inr ?_
     refine thenQ_ret ?_
     have hfin := some_inj h6
     subst hfin
     exact ⟨e48, (.bool false), res_of (l := [.tmp 2]) (by kernel_rfl) (vs := [(.bool false)]) ⟨rfl, trivial⟩, (.bool false), F3, rfl, hs45.clear, rfl⟩
    ·have h78 := cond_f h55 hb76
     refine Sc ?_
     refine blockQ_nrm ?_
     refine thenQ_nrm ?_
     refine Rg [0, 1] ?_
     refine V 30 3 (run_add (t := 3) (t' := 3) (x := (.tmp 8)) (y := (.const (vi 1))) (k := .i64) (a := s7) (b := 1) e52 rfl) ?_
     refine V 8 3 (mv 30 (vi (W64 (s7 + 1)))) ?_
     refine RWP.nil ?_
     have hn79 := iter_next h78 hnx27
     exact ⟨m24, Nat.lt_succ_self _, (W64 (s7 + 1)), F3, hn79, hs45, (le10.trans le46), e48, e49, e50, e51, rfl⟩
  ·have h80 := cond_f hb26 hb28
   refine CWP.exit (by kernel_rfl) ?_
   refine thenQ_ex ?_
   refine thenQ_ex ?_
   refine blockQ_hit rfl ?_
   have ho81 := iter_done h80 hnx27
   exact .inl ⟨rfl, s7, F1, ho81, hs9, le10, e11, e12⟩
 ·rintro f w17 ⟨s16, F2, rfl, hs18, le19, e20, e21⟩
  have h82 := k_done h6
  refine thenQ_nrm ?_
  refine Sq (Rg [0, 1, 2, 3, 4, 5, 6, 7, 8, 9, 10, 11, 12, 13, 14] ?_)
  obtain ⟨j86, hj89, h90⟩ := bind_some h82
  refine RWP.cut (fun f w => ∃ (F5 : Mem), HS w0 F0 w F5 [] ∧ Mem.le F2 F5 ∧ f.d = [] ∧ f 2 = (.bool j86)) ?_ ?_
  ·refine V 31 0 (fa 52 1 0 0 1 b1 0 0 e21) ?_
   refine V 32 3 (ld 3 31 b1 0 false 1 (vi x0.Slip) (hs18.ownAt (k := 0) rfl)) ?_
   obtain ⟨r91, hr92, h93⟩ := bind_some hj89
   refine Cl 33 4 67 #[(.tmp 32), (.const (vi 0)), (.const (vi 1440))] #[3, 3, 3] co_clocks_within hs18 (c_clocks_within N w17 F2 hs18.pers (x0.Slip) (0) (1440) _ hr92) ?_
   intro v94 F6 w95 hs96 le97 hp98
   obtain rfl := hp98
   refine V 34 4 (mv 33 (.bool r91)) ?_
   refine RWP.split r91 (fun hb99 => ?_) (fun hb99 => ?_)
   ·have h100 := cond_t h93 hb99
    refine Vg 35 0 3 true 34 hb99 (fa 52 1 1 1 1 b1 0 1 e21) ?_
    refine Vg 36 3 3 true 34 hb99 (ld 3 35 b1 1 false 1 (vi x0.Drift) (hs96.ownAt (k := 0) rfl)) ?_
    obtain ⟨r101, hr102, h103⟩ := bind_some h100
    refine RWP.call (dst := (some 37)) (ty := 4) (g := (some (3, true))) (by kernel_rfl) (gd_y (d := 34) (by kernel_rfl) rfl hb99) (f0 := (.func 67)) (aos := #[(.tmp 36), (.const (vi 0)), (.const (vi 100))]) (ats := #[3, 3, 3]) (fid := 67) (first := #[]) (cap := #[]) (args := [(vi x0.Drift), (vi 0), (vi 100)]) rfl co_clocks_within (rfl) hs96 (c_clocks_within N w95 F6 hs96.pers (x0.Drift) (0) (100) _ hr102) ?_
    intro v104 F7 w105 hs106 le107 hp108
    obtain rfl := hp108
    refine V 38 4 (p1 34 (.tmp 37) (.const (.bool false)) (.bool r101) hb99) ?_
    refine V 39 4 (mv 38 (.bool r101)) ?_
    refine RWP.split r101 (fun hb109 => ?_) (fun hb109 => ?_)
    ·have h110 := cond_t h103 hb109
     refine Vg 40 0 8 true 39 hb109 (fa 52 1 2 2 1 b1 0 2 e21) ?_
     refine Vg 41 50 8 true 39 hb109 (ld 50 40 b1 2 false 1 (.slice a0_2 x0.Jumps.length n0_2) (hs106.ownAt (k := 0) rfl)) ?_
     refine Vg 42 3 8 true 39 hb109 (ln 41 50 a0_2 x0.Jumps.length n0_2 3 1 8) ?_
     refine Vg 43 4 8 true 39 hb109 (run_leq (t := 3) (t' := 3) (x := (.tmp 42)) (y := (.const (vi 16))) (k := .i64) (a := (x0.Jumps.length : Int)) (b := 16) rfl rfl) ?_
     refine V 44 4 (p1 39 (.tmp 43) (.const (.bool false)) (.bool (decide ((x0.Jumps.length : Int) ≤ 16))) hb109) ?_
     refine V 2 4 (ma 44 (.bool (decide ((x0.Jumps.length : Int) ≤ 16)))) ?_
     obtain rfl := some_inj h110
     have hs111 : HS w0 F0 w105 F7 [] := hs106.drop 0
     exact RWP.nil ⟨rfl, F7, hs111, (le97.trans le107), e20, rfl⟩
    ·have h112 := cond_f h103 hb109
     refine Sk [40, 41, 42, 43] 8 true 39 hb109 ?_
     refine V 44 4 (p0 39 (.tmp 43) (.const (.bool false)) (.bool false) hb109) ?_
     refine V 2 4 (ma 44 (.bool false)) ?_
     obtain rfl := some_inj h112
     have hs113 : HS w0 F0 w105 F7 [] := hs106.drop 0
     exact RWP.nil ⟨rfl, F7, hs113, (le97.trans le107), e20, rfl⟩
   ·have h114 := cond_f h93 hb99
    refine Sk [35, 36, 37] 3 true 34 hb99 ?_
    refine V 38 4 (p0 34 (.tmp 37) (.const (.bool false)) (.bool false) hb99) ?_
    refine V 39 4 (mv 38 (.bool false)) ?_
    refine Sk [40, 41, 42, 43] 8 true 39 rfl ?_
    refine V 44 4 (p0 39 (.tmp 43) (.const (.bool false)) (.bool false) rfl) ?_
    refine V 2 4 (ma 44 (.bool false)) ?_
    obtain rfl := some_inj h114
    have hs115 : HS w0 F0 w95 F6 [] := hs96.drop 0
    exact RWP.nil ⟨rfl, F6, hs115, le97, e20, rfl⟩
  ·rintro f w83 ⟨F5, hs84, le85, e87, e88⟩
   refine thenQ_nrm ?_
   refine CWP.ret (by kernel_rfl) ?_
   have hfin := some_inj h90
   subst hfin
   exact ⟨e87, (.bool j86), res_of (l := [.tmp 2]) (by kernel_rfl) (vs := [(.bool j86)]) ⟨e88, trivial⟩, (.bool j86), F5, rfl, hs84.clear, rfl⟩
end Go.Proofs.Ythbcnabeabcmlaa
namespace Go.Proofs.Ythbcnabeabcmlaa
open Go.Proofs
def clocks_ValidTrack_L0 (N : Nat) (x0 : Track) : Int → Option (Flow Bool Int) := fun s7 =>
 (bif (decide (s7 < (x0.Times.length : Int))) then ((idx x0.Times s7).bind fun x30 => (((clocks_within N x30 0 20000).bind fun r56 => (bif (!r56) then some true else (bif (decide (s7 > 0)) then ((idx x0.Times (W64 (s7 - 1))).bind fun x69 => some (decide (x30 < x69))) else some false))).bind fun j47 => (bif j47 then some (.ret false) else some (.next (W64 (s7 + 1)))))) else some (.done s7))
def clocks_ValidTrack (N : Nat) (x0 : Track) : Option Bool :=
 ((iter (clocks_ValidTrack_L0 N x0) N 0).bind fun o => o.k (fun r => some r) (fun s16 => (((clocks_ValidClock N x0.Clock).bind fun r91 => (bif r91 then some (decide ((x0.Times.length : Int) ≤ 400)) else some false)).bind fun j86 => some j86)))
theorem co_clocks_ValidTrack : CallOk Try.prog 38 := fun _ _ => by kernel_rfl
set_option maxHeartbeats 4000000 in
set_option maxRecDepth 100000 in
theorem c_clocks_ValidTrack (N : Nat) (w0 : World) (F0 : Mem) (hF : ∀ b o, F0 b = some o → w0.heap[b]? = some o) (x0 : Track) (a0_2 : Option Addr) (n0_2 : Nat) (hb0_2 : LC x0.Clock.Jumps.length n0_2) (hs0_2 : SlA tInt F0 a0_2 x0.Clock.Jumps) (a0_3 : Option Addr) (n0_3 : Nat) (hb0_3 : LC x0.Times.length n0_3) (hs0_3 : SlA tInt F0 a0_3 x0.Times) (r : Bool) (h : clocks_ValidTrack N x0 = some r) :
  Calls Try.prog 38 ([(.agg (kTrack x0 a0_2 n0_2 a0_3 n0_3))] : List Value).toArray w0 (FRet w0 F0 fun F' v => v = (.bool r)) := by
 have hs0 := HS.start hF
 refine calls_of (n := 40) (c := bodyOf Try.f38) Try.func38 (by kernel_rfl) (by kernel_rfl) (by kernel_rfl) ?_
 refine Sq (Rg [0, 1] ?_)
 refine Bx 1 0 0 54 (kTrack x0 a0_2 n0_2 a0_3 n0_3) hs0 (fun b1 w2 (hs3 : HS w0 F0 w2 F0 [(sb b1 (kTrack x0 a0_2 n0_2 a0_3 n0_3) 54)]) => ?_)
 refine V 2 4 (mc (.bool false) (.bool false)) ?_
 refine Nss ?_
 refine Sq (Rg [0, 1, 2, 3] ?_)
 refine V 5 0 (fa 54 1 1 3 1 b1 0 3) ?_
 refine V 6 50 (ld 50 5 b1 3 false 1 (.slice a0_3 x0.Times.length n0_3) (hs3.ownAt (k := 0) rfl)) ?_
 refine V 7 3 (ln 6 50 a0_3 x0.Times.length n0_3 3 1 8) ?_
 refine V 8 3 (run_move (x := (.const (vi 0))) (v := (vi 0)) rfl) ?_
 refine Nt ?_
 obtain ⟨o4, ho5, h6⟩ := bind_some h
 refine CWP.cut (fun f w => ∃ (s16 : Int) (F2 : Mem), o4 = .done s16 ∧ HS w0 F0 w F2 [(sb b1 (kTrack x0 a0_2 n0_2 a0_3 n0_3) 54)] ∧ Mem.le F0 F2 ∧ f.d = [] ∧ f 1 = (.pointer (some ⟨b1, 0, none⟩))) ?_ ?_
 ·refine Bk ?_
  refine CWP.loop (by kernel_rfl) (fun m f w => ∃ (s7 : Int) (F1 : Mem), iter (clocks_ValidTrack_L0 N x0) m s7 = some o4 ∧ HS w0 F0 w F1 [(sb b1 (kTrack x0 a0_2 n0_2 a0_3 n0_3) 54)] ∧ Mem.le F0 F1 ∧ f.d = [] ∧ f 1 = (.pointer (some ⟨b1, 0, none⟩)) ∧ f 6 = (.slice a0_3 x0.Times.length n0_3) ∧ f 7 = (vi (x0.Times.length : Int)) ∧ f 8 = (vi s7)) N ⟨0, F0, ho5, hs3, (Mem.le.refl _), rfl, rfl, rfl, rfl, rfl⟩ ?_
  rintro m22 f w8 ⟨s7, F1, hit23, hs9, le10, e11, e12, e13, e14, e15⟩
  obtain ⟨m24, fl25, rfl, hb26, hnx27⟩ := iter_step hit23
  refine Sq (Rg [0] ?_)
  refine V 9 0 (run_lss (t := 3) (t' := 3) (x := (.tmp 8)) (y := (.tmp 7)) (k := .i64) (a := s7) (b := (x0.Times.length : Int)) e15 e14) ?_
  refine Nss ?_
  refine CWP.cond (t := (decide (s7 < (x0.Times.length : Int)))) (by kernel_rfl) rfl (fun hb28 => ?_) (fun hb28 => ?_)
  ·have h29 := cond_t hb26 hb28
   refine Sc ?_
   refine thenQ_nrm ?_
   refine Sq ?_
   refine Bk ?_
   refine Sq (Rg [0, 1, 2, 3, 4] ?_)
   refine V 10 3 (mv 8 (vi s7) e15) ?_
   obtain ⟨x30, hx31, h33⟩ := bind_some h29
   obtain ⟨hi32, hx31'⟩ := idx_spec hx31
   obtain ⟨b34, o35, C36, E37, fz38, rfl, hF40, hE41⟩ := SlA.open (SlA.mono hs0_3 le10) hx31'
   have hc43 := hE41 _ _ hx31'
   refine V 11 0 (run_index (t := 50) (x := (.tmp 6)) (y := (.tmp 8)) (b := b34) (o := o35) (E := 3) (s := 1) (by_ := 8) e13 e15 (by kernel_rfl) hi32) ?_
   refine V 12 3 (lx 3 11 0 1 false 1 (vi x30) (hs9.pers _ _ hF40) hc43) ?_
   refine V 3 3 (ma 10 (vi s7)) ?_
   refine V 4 3 (ma 12 (vi x30)) ?_
   refine Nss (Rg [0, 1, 2, 3, 4, 5, 6, 7, 8, 9, 10, 11, 12, 13, 14, 15, 16] ?_)
   obtain ⟨j47, hj54, h55⟩ := bind_some h33
   refine RWP.cut (fun f w => ∃ (F3 : Mem), HS w0 F0 w F3 [(sb b1 (kTrack x0 a0_2 n0_2 (some ⟨b34, o35, none⟩) n0_3) 54)] ∧ Mem.le F1 F3 ∧ f.d = [] ∧ f 1 = (.pointer (some ⟨b1, 0, none⟩)) ∧ f 6 = (.slice (some ⟨b34, o35, none⟩) x0.Times.length n0_3) ∧ f 7 = (vi (x0.Times.length : Int)) ∧ f 8 = (vi s7) ∧ f 29 = (.bool j47)) ?_ ?_
   ·refine V 13 3 (mv 4 (vi x30)) ?_
    obtain ⟨r56, hr57, h58⟩ := bind_some hj54
    refine Cl 14 4 67 #[(.tmp 13), (.const (vi 0)), (.const (vi 20000))] #[3, 3, 3] co_clocks_within hs9 (c_clocks_within N w8 F1 hs9.pers (x30) (0) (20000) _ hr57) ?_
    intro v59 F4 w60 hs61 le62 hp63
    obtain rfl := hp63
    refine V 15 4 (run_not (t := 4) (x := (.tmp 14)) (a := r56) rfl) ?_
    refine V 16 4 (mv 15 (.bool (!r56))) ?_
    refine RWP.split (!r56) (fun hb64 => ?_) (fun hb64 => ?_)
    ·have h65 := cond_t h58 hb64
     refine Sk [17, 18, 19] 3 false 16 hb64 ?_
     refine Su [20, 21, 22, 23, 24, 25, 26, 27] 6 true 19 ?_
     refine Sk [28] 3 false 16 hb64 ?_
     refine V 29 4 (p1 16 (.const (.bool true)) (.tmp 28) (.bool true) hb64) ?_
     obtain rfl := some_inj h65
     exact RWP.nil ⟨rfl, F4, hs61, le62, e11, e12, e13, e14, e15, rfl⟩
    ·have h66 := cond_f h58 hb64
     refine Vg 17 3 3 false 16 hb64 (mv 3 (vi s7)) ?_
     refine Vg 18 4 3 false 16 hb64 (run_gtr (t := 3) (t' := 3) (x := (.tmp 17)) (y := (.const (vi 0))) (k := .i64) (a := s7) (b := 0) rfl rfl) ?_
     refine Vg 19 4 3 false 16 hb64 (mv 18 (.bool (decide (s7 > 0)))) ?_
     refine RWP.split (decide (s7 > 0)) (fun hb67 => ?_) (fun hb67 => ?_)
     ·have h68 := cond_t h66 hb67
      refine Vg 20 3 6 true 19 hb67 (mv 4 (vi x30)) ?_
      refine Vg 21 0 6 true 19 hb67 (fa 54 1 1 3 1 b1 0 3 e12) ?_
      refine Vg 22 50 6 true 19 hb67 (ld 50 21 b1 3 false 1 (.slice (some ⟨b34, o35, none⟩) x0.Times.length n0_3) (hs61.ownAt (k := 0) rfl)) ?_
      refine Vg 23 3 6 true 19 hb67 (mv 3 (vi s7)) ?_
      refine Vg 24 3 6 true 19 hb67 (run_sub (t := 3) (t' := 3) (x := (.tmp 23)) (y := (.const (vi 1))) (k := .i64) (a := s7) (b := 1) rfl rfl) ?_
      obtain ⟨x69, hx70, h72⟩ := bind_some h68
      obtain ⟨hi71, hx70'⟩ := idx_spec hx70
      have hc74 := hE41 _ _ hx70'
      refine Vg 25 0 6 true 19 hb67 (ix 50 22 24 b34 o35 3 1 8 hi71) ?_
      refine Vg 26 3 6 true 19 hb67 (lx 3 25 0 1 false 1 (vi x69) (hs61.pers _ _ (le62 _ _ hF40)) hc74) ?_
      refine Vg 27 4 6 true 19 hb67 (run_lss (t := 3) (t' := 3) (x := (.tmp 20)) (y := (.tmp 26)) (k := .i64) (a := x30) (b := x69) rfl rfl) ?_
      refine Vg 28 4 3 false 16 hb64 (p1 19 (.tmp 27) (.const (.bool false)) (.bool (decide (x30 < x69))) hb67) ?_
      refine V 29 4 (p0 16 (.const (.bool true)) (.tmp 28) (.bool (decide (x30 < x69))) hb64) ?_
      obtain rfl := some_inj h72
      exact RWP.nil ⟨rfl, F4, hs61, le62, e11, e12, e13, e14, e15, rfl⟩
     ·have h75 := cond_f h66 hb67
      refine Sk [20, 21, 22, 23, 24, 25, 26, 27] 6 true 19 hb67 ?_
      refine Vg 28 4 3 false 16 hb64 (p0 19 (.tmp 27) (.const (.bool false)) (.bool false) hb67) ?_
      refine V 29 4 (p0 16 (.const (.bool true)) (.tmp 28) (.bool false) hb64) ?_
      obtain rfl := some_inj h75
      exact RWP.nil ⟨rfl, F4, hs61, le62, e11, e12, e13, e14, e15, rfl⟩
   ·rintro f w44 ⟨F3, hs45, le46, e48, e49, e50, e51, e52, e53⟩
    refine thenQ_nrm ?_
    refine CWP.cond (t := j47) (by kernel_rfl) e53 (fun hb76 => ?_) (fun hb76 => ?_)
    ·have h77 := cond_t h55 hb76
     refine Sq (Rg [0] ?_)
     refine V 2 4 (mc (.bool false) (.bool false)) ?_
     refine Nt ?_
     refine CWP.ret (by kernel_rfl) ?_
     refine blockQ_ret ?_
     refine thenQ_ret ?_
     refine thenQ_ret ?_
     refine blockQ_ret ?_
     have hret := iter_ret h77 hnx27
     subst hret
     refine .inr ?_
     refine thenQ_ret ?_
     have hfin := some_inj h6
     subst hfin
     exact ⟨e48, (.bool false), res_of (l := [.tmp 2]) (by kernel_rfl) (vs := [(.bool false)]) ⟨rfl, trivial⟩, (.bool false), F3, rfl, hs45.clear, rfl⟩
    ·have h78 := cond_f h55 hb76
     refine Sc ?_
     refine blockQ_nrm ?_
     refine thenQ_nrm ?_
     refine Rg [0, 1] ?_
     refine V 30 3 (run_add (t := 3) (t' := 3) (x := (.tmp 8)) (y := (.const (vi 1))) (k := .i64) (a := s7) (b := 1) e52 rfl) ?_
     refine V 8 3 (mv 30 (vi (W64 (s7 + 1)))) ?_
     refine RWP.nil ?_
     have hn79 := iter_next h78 hnx27
     exact ⟨m24, Nat.lt_succ_self _, (W64 (s7 + 1)), F3, hn79, hs45, (le10.trans le46), e48, e49, e50, e51, rfl⟩
  ·have h80 := cond_f hb26 hb28
   refine CWP.exit (by kernel_rfl) ?_
   refine thenQ_ex ?_
   refine thenQ_ex ?_
   refine blockQ_hit rfl ?_
   have ho81 := iter_done h80 hnx27
   exact .inl ⟨rfl, s7, F1, ho81, hs9, le10, e11, e12⟩
 ·rintro f w17 ⟨s16, F2, rfl, hs18, le19, e20, e21⟩
  have h82 := k_done h6
  refine thenQ_nrm ?_
  refine Sq (Rg [0, 1, 2, 3, 4, 5, 6, 7, 8, 9] ?_)
  obtain ⟨j86, hj89, h90⟩ := bind_some h82
  refine RWP.cut (fun f w => ∃ (F5 : Mem), HS w0 F0 w F5 [] ∧ Mem.le F2 F5 ∧ f.d = [] ∧ f 2 = (.bool j86)) ?_ ?_
  ·refine V 31 0 (fa 54 1 0 0 3 b1 0 0 e21) ?_
   refine V 32 52 (ld 52 31 b1 0 true 3 (.agg (kClock x0.Clock a0_2 n0_2)) (hs18.ownAt (k := 0) rfl)) ?_
   obtain ⟨r91, hr92, h93⟩ := bind_some hj89
   refine Cl 33 4 36 #[(.tmp 32)] #[52] co_clocks_ValidClock hs18 (c_clocks_ValidClock N w17 F2 hs18.pers (x0.Clock) a0_2 n0_2 hb0_2 (SlA.mono hs0_2 le19) _ hr92) ?_
   intro v94 F6 w95 hs96 le97 hp98
   obtain rfl := hp98
   refine V 34 4 (mv 33 (.bool r91)) ?_
   refine RWP.split r91 (fun hb99 => ?_) (fun hb99 => ?_)
   ·have h100 := cond_t h93 hb99
    refine Vg 35 0 3 true 34 hb99 (fa 54 1 1 3 1 b1 0 3 e21) ?_
    refine Vg 36 50 3 true 34 hb99 (ld 50 35 b1 3 false 1 (.slice a0_3 x0.Times.length n0_3) (hs96.ownAt (k := 0) rfl)) ?_
    refine Vg 37 3 3 true 34 hb99 (ln 36 50 a0_3 x0.Times.length n0_3 3 1 8) ?_
    refine Vg 38 4 3 true 34 hb99 (run_leq (t := 3) (t' := 3) (x := (.tmp 37)) (y := (.const (vi 400))) (k := .i64) (a := (x0.Times.length : Int)) (b := 400) rfl rfl) ?_
    refine V 39 4 (p1 34 (.tmp 38) (.const (.bool false)) (.bool (decide ((x0.Times.length : Int) ≤ 400))) hb99) ?_
    refine V 2 4 (ma 39 (.bool (decide ((x0.Times.length : Int) ≤ 400)))) ?_
    obtain rfl := some_inj h100
    have hs101 : HS w0 F0 w95 F6 [] := hs96.drop 0
    exact RWP.nil ⟨rfl, F6, hs101, le97, e20, rfl⟩
   ·have h102 := cond_f h93 hb99
    refine Sk [35, 36, 37, 38] 3 true 34 hb99 ?_
    refine V 39 4 (p0 34 (.tmp 38) (.const (.bool false)) (.bool false) hb99) ?_
    refine V 2 4 (ma 39 (.bool false)) ?_
    obtain rfl := some_inj h102
    have hs103 : HS w0 F0 w95 F6 [] := hs96.drop 0
    exact RWP.nil ⟨rfl, F6, hs103, le97, e20, rfl⟩
  ·rintro f w83 ⟨F5, hs84, le85, e87, e88⟩
   refine thenQ_nrm ?_
   refine CWP.ret (by kernel_rfl) ?_
   have hfin := some_inj h90
   subst hfin
   exact ⟨e87, (.bool j86), res_of (l := [.tmp 2]) (by kernel_rfl) (vs := [(.bool j86)]) ⟨e88, trivial⟩, (.bool j86), F5, rfl, hs84.clear, rfl⟩
end Go.Proofs.Ythbcnabeabcmlaa
namespace Go.Proofs.Ythbcnabeabcmlaa
open Go.Proofs
def clocks_Check_1 (N : Nat) (x0 : Track) : Option Bool :=
 ((clocks_ValidTrack N x0).bind fun r4 => some (!r4))
theorem co_clocks_Check_1 : CallOk Try.prog 66 := fun _ _ => by kernel_rfl
set_option maxHeartbeats 4000000 in
set_option maxRecDepth 100000 in
theorem c_clocks_Check_1 (N : Nat) (w0 : World) (F0 : Mem) (hF : ∀ b o, F0 b = some o → w0.heap[b]? = some o) (x0 : Track) (a0_2 : Option Addr) (n0_2 : Nat) (hb0_2 : LC x0.Clock.Jumps.length n0_2) (hs0_2 : SlA tInt F0 a0_2 x0.Clock.Jumps) (a0_3 : Option Addr) (n0_3 : Nat) (hb0_3 : LC x0.Times.length n0_3) (hs0_3 : SlA tInt F0 a0_3 x0.Times) (r : Bool) (h : clocks_Check_1 N x0 = some r) :
  Calls Try.prog 66 ([(.agg (kTrack x0 a0_2 n0_2 a0_3 n0_3))] : List Value).toArray w0 (FRet w0 F0 fun F' v => v = (.bool r)) := by
 have hs0 := HS.start hF
 refine calls_of (n := 6) (c := bodyOf Try.f66) Try.func66 (by kernel_rfl) (by kernel_rfl) (by kernel_rfl) ?_
 refine Sq (Rg [0, 1] ?_)
 refine Bx 1 0 0 54 (kTrack x0 a0_2 n0_2 a0_3 n0_3) hs0 (fun b1 w2 (hs3 : HS w0 F0 w2 F0 [(sb b1 (kTrack x0 a0_2 n0_2 a0_3 n0_3) 54)]) => ?_)
 refine V 2 4 (mc (.bool false) (.bool false)) ?_
 refine Nss (Rg [0, 1, 2, 3] ?_)
 refine V 3 54 (ld 54 1 b1 0 true 4 (.agg (kTrack x0 a0_2 n0_2 a0_3 n0_3)) (hs3.ownAt (k := 0) rfl)) ?_
 obtain ⟨r4, hr5, h6⟩ := bind_some h
 refine Cl 4 4 38 #[(.tmp 3)] #[54] co_clocks_ValidTrack hs3 (c_clocks_ValidTrack N w2 F0 hs3.pers (x0) a0_2 n0_2 hb0_2 hs0_2 a0_3 n0_3 hb0_3 hs0_3 _ hr5) ?_
 intro v7 F1 w8 hs9 le10 hp11
 obtain rfl := hp11
 refine V 5 4 (run_not (t := 4) (x := (.tmp 4)) (a := r4) rfl) ?_
 refine V 2 4 (ma 5 (.bool (!r4))) ?_
 refine Nt ?_
 refine CWP.ret (by kernel_rfl) ?_
 have hfin := some_inj h6
 subst hfin
 exact ⟨rfl, (.bool (!r4)), res_of (l := [.tmp 2]) (by kernel_rfl) (vs := [(.bool (!r4))]) ⟨rfl, trivial⟩, (.bool (!r4)), F1, rfl, hs9.clear, rfl⟩
end Go.Proofs.Ythbcnabeabcmlaa
namespace Go.Proofs.Ythbcnabeabcmlaa
open Go.Proofs
def slices_IndexFunc_api_Tie_api_Tie_L0 (N : Nat) (x0 : (List Tie)) (x1 : (Tie → Option Bool)) : Int → Option (Flow Int Int) := fun s4 =>
 (bif (decide (s4 < (x0.length : Int))) then ((idx x0 s4).bind fun x26 => ((x1 x26).bind fun r40 => (bif r40 then some (.ret s4) else some (.next (W64 (s4 + 1)))))) else some (.done s4))
def slices_IndexFunc_api_Tie_api_Tie (N : Nat) (x0 : (List Tie)) (x1 : (Tie → Option Bool)) : Option Int :=
 ((iter (slices_IndexFunc_api_Tie_api_Tie_L0 N x0 x1) N 0).bind fun o => o.k (fun r => some r) (fun s13 => some (-1)))
theorem co_slices_IndexFunc_api_Tie_api_Tie : CallOk Try.prog 114 := fun _ _ => by kernel_rfl
set_option maxHeartbeats 4000000 in
set_option maxRecDepth 100000 in
theorem c_slices_IndexFunc_api_Tie_api_Tie (N : Nat) (w0 : World) (F0 : Mem) (hF : ∀ b o, F0 b = some o → w0.heap[b]? = some o) (x0 : (List Tie)) (a0_0 : Option Addr) (n0_0 : Nat) (hb0_0 : LC x0.length n0_0) (hs0_0 : SlA tTie F0 a0_0 x0) (gx1 : FuncId) (fx1 kx1 : List Value) (x1 : Tie → Option Bool) (hox1 : CallOk Try.prog gx1) (hpx1 : ∀ (w' : World) (F' : Mem) (y0 : Tie) (r : Bool), Mem.le F0 F' → (∀ b o, F' b = some o → w'.heap[b]? = some o) → x1 y0 = some r → Calls Try.prog gx1 (fx1 ++ (([(.agg (kTie y0))] : List Value) ++ kx1)).toArray w' (FRet w' F' fun F'' v => v = (.bool r))) (r : Int) (h : slices_IndexFunc_api_Tie_api_Tie N x0 x1 = some r) :
  Calls Try.prog 114 ([(.slice a0_0 x0.length n0_0), (.func (.func gx1) fx1.toArray kx1.toArray)] : List Value).toArray w0 (FRet w0 F0 fun F' v => v = (vi r)) := by
 have hs0 := HS.start hF
 refine calls_of (n := 19) (c := bodyOf Try.f114) Try.func114 (by kernel_rfl) (by kernel_rfl) (by kernel_rfl) ?_
 refine Sq (Rg [0] ?_)
 refine V 4 3 (mc (vi 0) (vi 0)) ?_
 refine Nss ?_
 refine Sq (Rg [0, 1, 2] ?_)
 refine V 6 23 (mv 0 (.slice a0_0 x0.length n0_0)) ?_
 refine V 7 3 (ln 6 23 a0_0 x0.length n0_0 46 4 32) ?_
 refine V 8 3 (run_move (x := (.const (vi 0))) (v := (vi 0)) rfl) ?_
 refine Nt ?_
 obtain ⟨o1, ho2, h3⟩ := bind_some h
 refine CWP.cut (fun f w => ∃ (s13 : Int) (F2 : Mem), o1 = .done s13 ∧ HS w0 F0 w F2 [] ∧ Mem.le F0 F2 ∧ f.d = []) ?_ ?_
 ·refine Bk ?_
  refine CWP.loop (by kernel_rfl) (fun m f w => ∃ (s4 : Int) (F1 : Mem), iter (slices_IndexFunc_api_Tie_api_Tie_L0 N x0 x1) m s4 = some o1 ∧ HS w0 F0 w F1 [] ∧ Mem.le F0 F1 ∧ f.d = [] ∧ f 0 = (.slice a0_0 x0.length n0_0) ∧ f 1 = (.func (.func gx1) fx1.toArray kx1.toArray) ∧ f 7 = (vi (x0.length : Int)) ∧ f 8 = (vi s4)) N ⟨0, F0, ho2, hs0, (Mem.le.refl _), rfl, rfl, rfl, rfl, rfl⟩ ?_
  rintro m18 f w5 ⟨s4, F1, hit19, hs6, le7, e8, e9, e10, e11, e12⟩
  obtain ⟨m20, fl21, rfl, hb22, hnx23⟩ := iter_step hit19
  refine Sq (Rg [0] ?_)
  refine V 9 0 (run_lss (t := 3) (t' := 3) (x := (.tmp 8)) (y := (.tmp 7)) (k := .i64) (a := s4) (b := (x0.length : Int)) e12 e11) ?_
  refine Nss ?_
  refine CWP.cond (t := (decide (s4 < (x0.length : Int)))) (by kernel_rfl) rfl (fun hb24 => ?_) (fun hb24 => ?_)
  ·have h25 := cond_t hb22 hb24
   refine Sc ?_
   refine thenQ_nrm ?_
   refine Sq ?_
   refine Bk ?_
   refine Sq (Rg [0, 1] ?_)
   refine V 10 3 (mv 8 (vi s4) e12) ?_
   refine V 5 3 (ma 10 (vi s4)) ?_
   refine Nss (Rg [0, 1, 2, 3, 4, 5] ?_)
   refine V 11 91 (mv 1 (.func (.func gx1) fx1.toArray kx1.toArray) e10) ?_
   refine V 12 23 (mv 0 (.slice a0_0 x0.length n0_0) e9) ?_
   refine V 13 3 (mv 5 (vi s4)) ?_
   obtain ⟨x26, hx27, h29⟩ := bind_some h25
   obtain ⟨hi28, hx27'⟩ := idx_spec hx27
   obtain ⟨b30, o31, C32, E33, fz34, rfl, hF36, hE37⟩ := SlA.open (SlA.mono hs0_0 le7) hx27'
   have hc39 := hE37 _ _ hx27'
   refine V 14 0 (ix 23 12 13 b30 o31 46 4 32 hi28) ?_
   refine V 15 46 (lx 46 14 0 4 true 4 (.agg (kTie x26)) (hs6.pers _ _ hF36) hc39) ?_
   obtain ⟨r40, hr41, h42⟩ := bind_some h29
   refine RWP.call (dst := (some 16)) (ty := 4) (g := none) (by kernel_rfl) rfl (f0 := (.tmp 11)) (aos := #[(.tmp 15)]) (ats := #[46]) (fid := gx1) (first := fx1.toArray) (cap := kx1.toArray) (args := (fx1 ++ (([(.agg (kTie x26))] : List Value) ++ kx1))) rfl hox1 (app_args2 (l := [(.agg (kTie x26))]) (fi := fx1) (k := kx1) (rfl)) hs6 (hpx1 w5 F1 (x26) _ le7 hs6.pers hr41) ?_
   intro v43 F3 w44 hs45 le46 hp47
   obtain rfl := hp47
   refine Nt ?_
   refine CWP.cond (t := r40) (by kernel_rfl) rfl (fun hb48 => ?_) (fun hb48 => ?_)
   ·have h49 := cond_t h42 hb48
    refine Sq (Rg [0, 1] ?_)
    refine V 17 3 (mv 5 (vi s4)) ?_
    refine V 4 3 (ma 17 (vi s4)) ?_
    refine Nt ?_
    refine CWP.ret (by kernel_rfl) ?_
    refine blockQ_ret ?_
    refine thenQ_ret ?_
    refine thenQ_ret ?_
    refine blockQ_ret ?_
    have hret := iter_ret h49 hnx23
    subst hret
    refine .inr ?_
    refine thenQ_ret ?_
    have hfin := some_inj h3
    subst hfin
    exact ⟨e8, (vi s4), res_of (l := [.tmp 4]) (by kernel_rfl) (vs := [(vi s4)]) ⟨rfl, trivial⟩, (vi s4), F3, rfl, hs45.clear, rfl⟩
   ·have h50 := cond_f h42 hb48
    refine Sc ?_
    refine blockQ_nrm ?_
    refine thenQ_nrm ?_
    refine Rg [0, 1] ?_
    refine V 18 3 (run_add (t := 3) (t' := 3) (x := (.tmp 8)) (y := (.const (vi 1))) (k := .i64) (a := s4) (b := 1) e12 rfl) ?_
    refine V 8 3 (mv 18 (vi (W64 (s4 + 1)))) ?_
    refine RWP.nil ?_
    have hn51 := iter_next h50 hnx23
    exact ⟨m20, Nat.lt_succ_self _, (W64 (s4 + 1)), F3, hn51, hs45, (le7.trans le46), e8, e9, e10, e11, rfl⟩
  ·have h52 := cond_f hb22 hb24
   refine CWP.exit (by kernel_rfl) ?_
   refine thenQ_ex ?_
   refine thenQ_ex ?_
   refine blockQ_hit rfl ?_
   have ho53 := iter_done h52 hnx23
   exact .inl ⟨rfl, s4, F1, ho53, hs6, le7, e8⟩
 ·rintro f w14 ⟨s13, F2, rfl, hs15, le16, e17⟩
  have h54 := k_done h3
  refine thenQ_nrm ?_
  refine Sq (Rg [0] ?_)
  refine V 4 3 (mc (vi (-1)) (vi (-1))) ?_
  refine Nt ?_
  refine CWP.ret (by kernel_rfl) ?_
  have hfin := some_inj h54
  subst hfin
  exact ⟨e17, (vi (-1)), res_of (l := [.tmp 4]) (by kernel_rfl) (vs := [(vi (-1))]) ⟨rfl, trivial⟩, (vi (-1)), F2, rfl, hs15.clear, rfl⟩
end Go.Proofs.Ythbcnabeabcmlaa
namespace Go.Proofs.Ythbcnabeabcmlaa
open Go.Proofs
def slices_ContainsFunc_api_Tie_api_Tie (N : Nat) (x0 : (List Tie)) (x1 : (Tie → Option Bool)) : Option Bool :=
 ((slices_IndexFunc_api_Tie_api_Tie N x0 x1).bind fun r1 => some (decide (r1 ≥ 0)))
theorem co_slices_ContainsFunc_api_Tie_api_Tie : CallOk Try.prog 68 := fun _ _ => by kernel_rfl
set_option maxHeartbeats 4000000 in
set_option maxRecDepth 100000 in
theorem c_slices_ContainsFunc_api_Tie_api_Tie (N : Nat) (w0 : World) (F0 : Mem) (hF : ∀ b o, F0 b = some o → w0.heap[b]? = some o) (x0 : (List Tie)) (a0_0 : Option Addr) (n0_0 : Nat) (hb0_0 : LC x0.length n0_0) (hs0_0 : SlA tTie F0 a0_0 x0) (gx1 : FuncId) (fx1 kx1 : List Value) (x1 : Tie → Option Bool) (hox1 : CallOk Try.prog gx1) (hpx1 : ∀ (w' : World) (F' : Mem) (y0 : Tie) (r : Bool), Mem.le F0 F' → (∀ b o, F' b = some o → w'.heap[b]? = some o) → x1 y0 = some r → Calls Try.prog gx1 (fx1 ++ (([(.agg (kTie y0))] : List Value) ++ kx1)).toArray w' (FRet w' F' fun F'' v => v = (.bool r))) (r : Bool) (h : slices_ContainsFunc_api_Tie_api_Tie N x0 x1 = some r) :
  Calls Try.prog 68 ([(.slice a0_0 x0.length n0_0), (.func (.func gx1) fx1.toArray kx1.toArray)] : List Value).toArray w0 (FRet w0 F0 fun F' v => v = (.bool r)) := by
 have hs0 := HS.start hF
 refine calls_of (n := 9) (c := bodyOf Try.f68) Try.func68 (by kernel_rfl) (by kernel_rfl) (by kernel_rfl) ?_
 refine Sq (Rg [0] ?_)
 refine V 4 4 (mc (.bool false) (.bool false)) ?_
 refine Nss (Rg [0, 1, 2, 3, 4] ?_)
 refine V 5 23 (mv 0 (.slice a0_0 x0.length n0_0)) ?_
 refine V 6 91 (mv 1 (.func (.func gx1) fx1.toArray kx1.toArray)) ?_
 obtain ⟨r1, hr2, h3⟩ := bind_some h
 refine Cl 7 3 114 #[(.tmp 5), (.tmp 6)] #[23, 91] co_slices_IndexFunc_api_Tie_api_Tie hs0 (c_slices_IndexFunc_api_Tie_api_Tie N w0 F0 hs0.pers (x0) a0_0 n0_0 hb0_0 hs0_0 gx1 fx1 kx1 x1 hox1 (fun w1 F1 y0 r le1 pe1 hr1 => hpx1 w1 F1 y0 r (le1) pe1 hr1) _ hr2) ?_
 intro v4 F1 w5 hs6 le7 hp8
 obtain rfl := hp8
 refine V 8 4 (run_geq (t := 3) (t' := 3) (x := (.tmp 7)) (y := (.const (vi 0))) (k := .i64) (a := r1) (b := 0) rfl rfl) ?_
 refine V 4 4 (ma 8 (.bool (decide (r1 ≥ 0)))) ?_
 refine Nt ?_
 refine CWP.ret (by kernel_rfl) ?_
 have hfin := some_inj h3
 subst hfin
 exact ⟨rfl, (.bool (decide (r1 ≥ 0))), res_of (l := [.tmp 4]) (by kernel_rfl) (vs := [(.bool (decide (r1 ≥ 0)))]) ⟨rfl, trivial⟩, (.bool (decide (r1 ≥ 0))), F1, rfl, hs6.clear, rfl⟩
end Go.Proofs.Ythbcnabeabcmlaa
namespace Go.Proofs.Ythbcnabeabcmlaa
open Go.Proofs
def clocks_has (N : Nat) (x0 : System) (x1 : Ref) : Option Bool :=
 (((clocks_within N x1.Log 0 (W64 ((x0.Tracks.length : Int) - 1))).bind fun r17 => (bif r17 then ((idx x0.Tracks x1.Log).bind fun x27 => ((clocks_within N x1.Line 0 (W64 ((x27.Times.length : Int) - 1))).bind fun r41 => some r41)) else some false)).bind fun j12 => some j12)
theorem co_clocks_has : CallOk Try.prog 107 := fun _ _ => by kernel_rfl
set_option maxHeartbeats 4000000 in
set_option maxRecDepth 100000 in
theorem c_clocks_has (N : Nat) (w0 : World) (F0 : Mem) (hF : ∀ b o, F0 b = some o → w0.heap[b]? = some o) (x0 : System) (a0_0 : Option Addr) (n0_0 : Nat) (hb0_0 : LC x0.Tracks.length n0_0) (hs0_0 : SlA tTrack F0 a0_0 x0.Tracks) (a0_1 : Option Addr) (n0_1 : Nat) (hb0_1 : LC x0.Ties.length n0_1) (hs0_1 : SlA tTie F0 a0_1 x0.Ties) (x1 : Ref) (r : Bool) (h : clocks_has N x0 x1 = some r) :
  Calls Try.prog 107 ([(.agg (kSystem x0 a0_0 n0_0 a0_1 n0_1)), (.agg (kRef x1))] : List Value).toArray w0 (FRet w0 F0 fun F' v => v = (.bool r)) := by
 have hs0 := HS.start hF
 refine calls_of (n := 26) (c := bodyOf Try.f107) Try.func107 (by kernel_rfl) (by kernel_rfl) (by kernel_rfl) ?_
 refine Sq (Rg [0, 1, 2] ?_)
 refine Bx 2 0 0 25 (kSystem x0 a0_0 n0_0 a0_1 n0_1) hs0 (fun b1 w2 (hs3 : HS w0 F0 w2 F0 [(sb b1 (kSystem x0 a0_0 n0_0 a0_1 n0_1) 25)]) => ?_)
 refine Bx 3 0 1 27 (kRef x1) hs3 (fun b4 w5 (hs6 : HS w0 F0 w5 F0 [(sb b4 (kRef x1) 27), (sb b1 (kSystem x0 a0_0 n0_0 a0_1 n0_1) 25)]) => ?_)
 refine V 4 4 (mc (.bool false) (.bool false)) ?_
 refine Nss ?_
 obtain ⟨j12, hj15, h16⟩ := bind_some h
 refine CWP.regionD (by kernel_rfl) (by kernel_rfl) (by kernel_rfl) (by kernel_rfl) (z := 22) (F := F0) (Lc := [(sb b4 (kRef x1) 27), (sb b1 (kSystem x0 a0_0 n0_0 a0_1 n0_1) 25)]) (Lz := []) (l := [false, false, false, false, false, false, false, false, false, false, false, false, false, false, false, false, false, false, false, false, false, false]) (fuel := 22) (by kernel_rfl) (by kernel_rfl) hs6 (by simp) (by simp) (fun f w => ∃ (F1 : Mem), HS w0 F0 w F1 [] ∧ Mem.le F0 F1 ∧ f.d = [] ∧ f 4 = (.bool j12)) (fun wd7 hw8 => ?_) ?_
 ·refine Dtl 0 5 0 (.pointer (some ⟨b4, 0, none⟩)) [tt, ff, ff, ff, ff, ff, ff, ff, ff, ff, ff, ff, ff, ff, ff, ff, ff, ff, ff, ff, ff, ff] (fun _ hq => fa 27 3 0 0 1 b4 0 0) ?_
  refine Dtl 1 6 3 _ [tt, tt, ff, ff, ff, ff, ff, ff, ff, ff, ff, ff, ff, ff, ff, ff, ff, ff, ff, ff, ff, ff] (fun _ hq => ld 3 5 b4 0 false 1 (vi x1.Log) (hq.1.2 0 _ _ rfl)) ?_
  refine Dtl 2 7 0 (.pointer (some ⟨b1, 0, none⟩)) [tt, tt, tt, ff, ff, ff, ff, ff, ff, ff, ff, ff, ff, ff, ff, ff, ff, ff, ff, ff, ff, ff] (fun _ hq => fa 25 2 0 0 1 b1 0 0) ?_
  refine Dtl 3 8 22 _ [tt, tt, tt, tt, ff, ff, ff, ff, ff, ff, ff, ff, ff, ff, ff, ff, ff, ff, ff, ff, ff, ff] (fun _ hq => ld 22 7 b1 0 false 1 (.slice a0_0 x0.Tracks.length n0_0) (hq.1.2 1 _ _ rfl)) ?_
  refine Dtl 4 9 3 (vi (x0.Tracks.length : Int)) [tt, tt, tt, tt, tt, ff, ff, ff, ff, ff, ff, ff, ff, ff, ff, ff, ff, ff, ff, ff, ff, ff] (fun _ hq => ln 8 22 a0_0 x0.Tracks.length n0_0 54 4 64) ?_
  refine Dtl 5 10 3 (vi (W64 ((x0.Tracks.length : Int) - 1))) [tt, tt, tt, tt, tt, tt, ff, ff, ff, ff, ff, ff, ff, ff, ff, ff, ff, ff, ff, ff, ff, ff] (fun _ hq => run_sub (t := 3) (t' := 3) (x := (.tmp 9)) (y := (.const (vi 1))) (k := .i64) (a := (x0.Tracks.length : Int)) (b := 1) rfl rfl) ?_
  refine DWP.one (i := 6) (by kernel_rfl) ?_
  obtain ⟨r17, hr18, h19⟩ := bind_some hj15
  refine DStep.call (l' := [true, true, true, true, true, true, true, false, false, false, false, false, false, false, false, false, false, false, false, false, false, false]) (zd := true) (by kernel_rfl) (by kernel_rfl) (by kernel_rfl) (dst := (some 11)) (ty := 4) (g := none) (by kernel_rfl) rfl (f0 := (.func 67)) (aos := #[(.tmp 6), (.const (vi 0)), (.tmp 10)]) (ats := #[3, 3, 3]) (fid := 67) (first := #[]) (cap := #[]) (args := [(vi x1.Log), (vi 0), (vi (W64 ((x0.Tracks.length : Int) - 1)))]) rfl co_clocks_within (rfl) hw8 (c_clocks_within N wd7 F0 hw8.pers (x1.Log) (0) ((W64 ((x0.Tracks.length : Int) - 1))) _ hr18) ?_
  intro v20 F2 w21 hs22 le23 hp24
  obtain rfl := hp24
  refine Dtl 7 12 4 _ [tt, tt, tt, tt, tt, tt, tt, tt, ff, ff, ff, ff, ff, ff, ff, ff, ff, ff, ff, ff, ff, ff] (fun _ hq => mv 11 (.bool r17)) ?_
  refine DWP.split r17 (fun hb25 => ?_) (fun hb25 => ?_)
  ·have h26 := cond_t h19 hb25
   refine Dgl 8 13 0 (.pointer (some ⟨b4, 1, none⟩)) [tt, tt, tt, tt, tt, tt, tt, tt, tt, ff, ff, ff, ff, ff, ff, ff, ff, ff, ff, ff, ff, ff] 7 true 12 hb25 (fun _ hq => fa 27 3 1 1 1 b4 0 1) ?_
   refine Dgl 9 14 3 _ [tt, tt, tt, tt, tt, tt, tt, tt, tt, tt, ff, ff, ff, ff, ff, ff, ff, ff, ff, ff, ff, ff] 7 true 12 hb25 (fun _ hq => ld 3 13 b4 1 false 1 (vi x1.Line) (hq.1.2 0 _ _ rfl)) ?_
   refine Dgl 10 15 0 (.pointer (some ⟨b1, 0, none⟩)) [tt, tt, tt, tt, tt, tt, tt, tt, tt, tt, tt, ff, ff, ff, ff, ff, ff, ff, ff, ff, ff, ff] 7 true 12 hb25 (fun _ hq => fa 25 2 0 0 1 b1 0 0) ?_
   refine Dgl 11 16 22 _ [tt, tt, tt, tt, tt, tt, tt, tt, tt, tt, tt, tt, ff, ff, ff, ff, ff, ff, ff, ff, ff, ff] 7 true 12 hb25 (fun _ hq => ld 22 15 b1 0 false 1 (.slice a0_0 x0.Tracks.length n0_0) (hq.1.2 1 _ _ rfl)) ?_
   refine Dgl 12 17 0 (.pointer (some ⟨b4, 0, none⟩)) [tt, tt, tt, tt, tt, tt, tt, tt, tt, tt, tt, tt, tt, ff, ff, ff, ff, ff, ff, ff, ff, ff] 7 true 12 hb25 (fun _ hq => fa 27 3 0 0 1 b4 0 0) ?_
   refine Dgl 13 18 3 _ [tt, tt, tt, tt, tt, tt, tt, tt, tt, tt, tt, tt, tt, tt, ff, ff, ff, ff, ff, ff, ff, ff] 7 true 12 hb25 (fun _ hq => ld 3 17 b4 0 false 1 (vi x1.Log) (hq.1.2 0 _ _ rfl)) ?_
   obtain ⟨x27, hx28, h30⟩ := bind_some h26
   obtain ⟨hi29, hx28'⟩ := idx_spec hx28
   obtain ⟨b31, o32, C33, E34, fz35, rfl, hF37, hE38⟩ := SlA.open hs0_0 hx28'
   obtain ⟨ae39_2, ne39_2, ae39_3, ne39_3, hc40, hbe39_2, hse39_2, hbe39_3, hse39_3⟩ := hE38 _ _ hx28'
   refine Dgl 14 19 0 (.pointer (some ⟨b31, (o32 + (x1.Log : Int).toNat * 4), none⟩)) [tt, tt, tt, tt, tt, tt, tt, tt, tt, tt, tt, tt, tt, tt, tt, ff, ff, ff, ff, ff, ff, ff] 7 true 12 hb25 (fun _ hq => ix 22 16 18 b31 o32 54 4 64 hi29) ?_
   refine Dgl 15 20 0 (.pointer (some ⟨b31, ((o32 + (x1.Log : Int).toNat * 4) + 3), none⟩)) [tt, tt, tt, tt, tt, tt, tt, tt, tt, tt, tt, tt, tt, tt, tt, tt, ff, ff, ff, ff, ff, ff] 7 true 12 hb25 (fun _ hq => fa 54 19 1 3 1 b31 (o32 + (x1.Log : Int).toNat * 4) ((o32 + (x1.Log : Int).toNat * 4) + 3)) ?_
   refine Dgl 16 21 50 _ [tt, tt, tt, tt, tt, tt, tt, tt, tt, tt, tt, tt, tt, tt, tt, tt, tt, ff, ff, ff, ff, ff] 7 true 12 hb25 (fun _ hq => lx 50 20 3 4 false 1 (.slice ae39_3 x27.Times.length ne39_3) (hq.1.1 _ _ hF37) hc40) ?_
   refine Dgl 17 22 3 (vi (x27.Times.length : Int)) [tt, tt, tt, tt, tt, tt, tt, tt, tt, tt, tt, tt, tt, tt, tt, tt, tt, tt, ff, ff, ff, ff] 7 true 12 hb25 (fun _ hq => ln 21 50 ae39_3 x27.Times.length ne39_3 3 1 8) ?_
   refine Dgl 18 23 3 (vi (W64 ((x27.Times.length : Int) - 1))) [tt, tt, tt, tt, tt, tt, tt, tt, tt, tt, tt, tt, tt, tt, tt, tt, tt, tt, tt, ff, ff, ff] 7 true 12 hb25 (fun _ hq => run_sub (t := 3) (t' := 3) (x := (.tmp 22)) (y := (.const (vi 1))) (k := .i64) (a := (x27.Times.length : Int)) (b := 1) rfl rfl) ?_
   refine DWP.one (i := 19) (by kernel_rfl) ?_
   obtain ⟨r41, hr42, h43⟩ := bind_some h30
   refine DStep.call (l' := [true, true, true, true, true, true, true, true, true, true, true, true, true, true, true, true, true, true, true, true, false, false]) (zd := true) (by kernel_rfl) (by kernel_rfl) (by kernel_rfl) (dst := (some 24)) (ty := 4) (g := (some (7, true))) (by kernel_rfl) (gd_y (d := 12) (by kernel_rfl) rfl hb25) (f0 := (.func 67)) (aos := #[(.tmp 14), (.const (vi 0)), (.tmp 23)]) (ats := #[3, 3, 3]) (fid := 67) (first := #[]) (cap := #[]) (args := [(vi x1.Line), (vi 0), (vi (W64 ((x27.Times.length : Int) - 1)))]) rfl co_clocks_within (rfl) hs22 (c_clocks_within N w21 F2 hs22.pers (x1.Line) (0) ((W64 ((x27.Times.length : Int) - 1))) _ hr42) ?_
   intro v44 F3 w45 hs46 le47 hp48
   obtain rfl := hp48
   refine Dtl 20 25 4 _ [tt, tt, tt, tt, tt, tt, tt, tt, tt, tt, tt, tt, tt, tt, tt, tt, tt, tt, tt, tt, tt, ff] (fun _ hq => p1 12 (.tmp 24) (.const (.bool false)) (.bool r41) hb25) ?_
   refine Dtl 21 4 4 _ [tt, tt, tt, tt, tt, tt, tt, tt, tt, tt, tt, tt, tt, tt, tt, tt, tt, tt, tt, tt, tt, tt] (fun _ hq => ma 25 (.bool r41)) ?_
   obtain rfl := some_inj h43
   have hs49 : HS w0 F0 w45 F3 [(sb b1 (kSystem x0 (some ⟨b31, o32, none⟩) n0_0 a0_1 n0_1) 25)] := hs46.drop 0
   have hs50 : HS w0 F0 w45 F3 [] := hs49.drop 0
   exact DWP.done (by kernel_rfl) ⟨F3, hs50, (le23.trans le47), rfl, rfl⟩
  ·have h51 := cond_f h19 hb25
   refine Dkl [(8, 13), (9, 14), (10, 15), (11, 16), (12, 17), (13, 18)] 7 true 12 hb25 [tt, tt, tt, tt, tt, tt, tt, tt, tt, tt, tt, tt, tt, tt, ff, ff, ff, ff, ff, ff, ff, ff] ?_
   refine Dkl [(14, 19), (15, 20), (16, 21), (17, 22), (18, 23), (19, 24)] 7 true 12 hb25 [tt, tt, tt, tt, tt, tt, tt, tt, tt, tt, tt, tt, tt, tt, tt, tt, tt, tt, tt, tt, ff, ff] ?_
   refine Dtl 20 25 4 _ [tt, tt, tt, tt, tt, tt, tt, tt, tt, tt, tt, tt, tt, tt, tt, tt, tt, tt, tt, tt, tt, ff] (fun _ hq => p0 12 (.tmp 24) (.const (.bool false)) (.bool false) hb25) ?_
   refine Dtl 21 4 4 _ [tt, tt, tt, tt, tt, tt, tt, tt, tt, tt, tt, tt, tt, tt, tt, tt, tt, tt, tt, tt, tt, tt] (fun _ hq => ma 25 (.bool false)) ?_
   obtain rfl := some_inj h51
   have hs52 : HS w0 F0 w21 F2 [(sb b1 (kSystem x0 a0_0 n0_0 a0_1 n0_1) 25)] := hs22.drop 0
   have hs53 : HS w0 F0 w21 F2 [] := hs52.drop 0
   exact DWP.done (by kernel_rfl) ⟨F2, hs53, le23, rfl, rfl⟩
 ·rintro f w9 ⟨F1, hs10, le11, e13, e14⟩
  refine thenQ_nrm ?_
  refine CWP.ret (by kernel_rfl) ?_
  have hfin := some_inj h16
  subst hfin
  exact ⟨e13, (.bool j12), res_of (l := [.tmp 4]) (by kernel_rfl) (vs := [(.bool j12)]) ⟨e14, trivial⟩, (.bool j12), F1, rfl, hs10.clear, rfl⟩
end Go.Proofs.Ythbcnabeabcmlaa
namespace Go.Proofs.Ythbcnabeabcmlaa
open Go.Proofs
def clocks_tied (N : Nat) (x0 : System) (x1 : Tie) : Option Bool :=
 (((clocks_has N x0 x1.A).bind fun r15 => (bif r15 then ((clocks_has N x0 x1.B).bind fun r25 => (bif r25 then some (x1.A.Log != x1.B.Log) else some false)) else some false)).bind fun j10 => some j10)
theorem co_clocks_tied : CallOk Try.prog 70 := fun _ _ => by kernel_rfl
set_option maxHeartbeats 4000000 in
set_option maxRecDepth 100000 in
theorem c_clocks_tied (N : Nat) (w0 : World) (F0 : Mem) (hF : ∀ b o, F0 b = some o → w0.heap[b]? = some o) (x0 : System) (a0_0 : Option Addr) (n0_0 : Nat) (hb0_0 : LC x0.Tracks.length n0_0) (hs0_0 : SlA tTrack F0 a0_0 x0.Tracks) (a0_1 : Option Addr) (n0_1 : Nat) (hb0_1 : LC x0.Ties.length n0_1) (hs0_1 : SlA tTie F0 a0_1 x0.Ties) (x1 : Tie) (r : Bool) (h : clocks_tied N x0 x1 = some r) :
  Calls Try.prog 70 ([(.agg (kSystem x0 a0_0 n0_0 a0_1 n0_1)), (.agg (kTie x1))] : List Value).toArray w0 (FRet w0 F0 fun F' v => v = (.bool r)) := by
 have hs0 := HS.start hF
 refine calls_of (n := 24) (c := bodyOf Try.f70) Try.func70 (by kernel_rfl) (by kernel_rfl) (by kernel_rfl) ?_
 refine Sq (Rg [0, 1, 2] ?_)
 refine Bx 2 0 0 25 (kSystem x0 a0_0 n0_0 a0_1 n0_1) hs0 (fun b1 w2 (hs3 : HS w0 F0 w2 F0 [(sb b1 (kSystem x0 a0_0 n0_0 a0_1 n0_1) 25)]) => ?_)
 refine Bx 3 0 1 46 (kTie x1) hs3 (fun b4 w5 (hs6 : HS w0 F0 w5 F0 [(sb b4 (kTie x1) 46), (sb b1 (kSystem x0 a0_0 n0_0 a0_1 n0_1) 25)]) => ?_)
 refine V 4 4 (mc (.bool false) (.bool false)) ?_
 refine Nss (Rg [0, 1, 2, 3, 4, 5, 6, 7, 8, 9, 10, 11, 12, 13, 14, 15, 16, 17, 18, 19] ?_)
 obtain ⟨j10, hj13, h14⟩ := bind_some h
 refine RWP.cut (fun f w => ∃ (F1 : Mem), HS w0 F0 w F1 [] ∧ Mem.le F0 F1 ∧ f.d = [] ∧ f 4 = (.bool j10)) ?_ ?_
 ·refine V 5 25 (ld 25 2 b1 0 true 3 (.agg (kSystem x0 a0_0 n0_0 a0_1 n0_1)) (hs6.ownAt (k := 1) rfl)) ?_
  refine V 6 0 (fa 46 3 0 0 2 b4 0 0) ?_
  refine V 7 27 (ld 27 6 b4 0 true 2 (.agg (kRef x1.A)) (hs6.ownAt (k := 0) rfl)) ?_
  obtain ⟨r15, hr16, h17⟩ := bind_some hj13
  refine Cl 8 4 107 #[(.tmp 5), (.tmp 7)] #[25, 27] co_clocks_has hs6 (c_clocks_has N w5 F0 hs6.pers (x0) a0_0 n0_0 hb0_0 hs0_0 a0_1 n0_1 hb0_1 hs0_1 (x1.A) _ hr16) ?_
  intro v18 F2 w19 hs20 le21 hp22
  obtain rfl := hp22
  refine V 9 4 (mv 8 (.bool r15)) ?_
  refine RWP.split r15 (fun hb23 => ?_) (fun hb23 => ?_)
  ·have h24 := cond_t h17 hb23
   refine Vg 10 25 4 true 9 hb23 (ld 25 2 b1 0 true 3 (.agg (kSystem x0 a0_0 n0_0 a0_1 n0_1)) (hs20.ownAt (k := 1) rfl)) ?_
   refine Vg 11 0 4 true 9 hb23 (fa 46 3 1 2 2 b4 0 2) ?_
   refine Vg 12 27 4 true 9 hb23 (ld 27 11 b4 2 true 2 (.agg (kRef x1.B)) (hs20.ownAt (k := 0) rfl)) ?_
   obtain ⟨r25, hr26, h27⟩ := bind_some h24
   refine RWP.call (dst := (some 13)) (ty := 4) (g := (some (4, true))) (by kernel_rfl) (gd_y (d := 9) (by kernel_rfl) rfl hb23) (f0 := (.func 107)) (aos := #[(.tmp 10), (.tmp 12)]) (ats := #[25, 27]) (fid := 107) (first := #[]) (cap := #[]) (args := [(.agg (kSystem x0 a0_0 n0_0 a0_1 n0_1)), (.agg (kRef x1.B))]) rfl co_clocks_has (rfl) hs20 (c_clocks_has N w19 F2 hs20.pers (x0) a0_0 n0_0 hb0_0 (SlA.mono hs0_0 le21) a0_1 n0_1 hb0_1 (SlA.mono hs0_1 le21) (x1.B) _ hr26) ?_
   intro v28 F3 w29 hs30 le31 hp32
   obtain rfl := hp32
   refine V 14 4 (p1 9 (.tmp 13) (.const (.bool false)) (.bool r25) hb23) ?_
   refine V 15 4 (mv 14 (.bool r25)) ?_
   refine RWP.split r25 (fun hb33 => ?_) (fun hb33 => ?_)
   ·have h34 := cond_t h27 hb33
    refine Vg 16 0 10 true 15 hb33 (fa 46 3 0 0 2 b4 0 0) ?_
    refine Vg 17 0 10 true 15 hb33 (fa 27 16 0 0 1 b4 0 0) ?_
    refine Vg 18 3 10 true 15 hb33 (ld 3 17 b4 0 false 1 (vi x1.A.Log) (hs30.ownAt (k := 0) rfl)) ?_
    refine Vg 19 0 10 true 15 hb33 (fa 46 3 1 2 2 b4 0 2) ?_
    refine Vg 20 0 10 true 15 hb33 (fa 27 19 0 0 1 b4 2 2) ?_
    refine Vg 21 3 10 true 15 hb33 (ld 3 20 b4 2 false 1 (vi x1.B.Log) (hs30.ownAt (k := 0) rfl)) ?_
    refine Vg 22 4 10 true 15 hb33 (run_neq (t := 3) (t' := 3) (x := (.tmp 18)) (y := (.tmp 21)) (k := .i64) (a := x1.A.Log) (b := x1.B.Log) rfl rfl) ?_
    refine V 23 4 (p1 15 (.tmp 22) (.const (.bool false)) (.bool (x1.A.Log != x1.B.Log)) hb33) ?_
    refine V 4 4 (ma 23 (.bool (x1.A.Log != x1.B.Log))) ?_
    obtain rfl := some_inj h34
    have hs35 : HS w0 F0 w29 F3 [(sb b1 (kSystem x0 a0_0 n0_0 a0_1 n0_1) 25)] := hs30.drop 0
    have hs36 : HS w0 F0 w29 F3 [] := hs35.drop 0
    exact RWP.nil ⟨rfl, F3, hs36, (le21.trans le31), rfl, rfl⟩
   ·have h37 := cond_f h27 hb33
    refine Sk [16, 17, 18, 19, 20, 21, 22] 10 true 15 hb33 ?_
    refine V 23 4 (p0 15 (.tmp 22) (.const (.bool false)) (.bool false) hb33) ?_
    refine V 4 4 (ma 23 (.bool false)) ?_
    obtain rfl := some_inj h37
    have hs38 : HS w0 F0 w29 F3 [(sb b1 (kSystem x0 a0_0 n0_0 a0_1 n0_1) 25)] := hs30.drop 0
    have hs39 : HS w0 F0 w29 F3 [] := hs38.drop 0
    exact RWP.nil ⟨rfl, F3, hs39, (le21.trans le31), rfl, rfl⟩
  ·have h40 := cond_f h17 hb23
   refine Sk [10, 11, 12, 13] 4 true 9 hb23 ?_
   refine V 14 4 (p0 9 (.tmp 13) (.const (.bool false)) (.bool false) hb23) ?_
   refine V 15 4 (mv 14 (.bool false)) ?_
   refine Sk [16, 17, 18, 19, 20, 21, 22] 10 true 15 rfl ?_
   refine V 23 4 (p0 15 (.tmp 22) (.const (.bool false)) (.bool false) rfl) ?_
   refine V 4 4 (ma 23 (.bool false)) ?_
   obtain rfl := some_inj h40
   have hs41 : HS w0 F0 w19 F2 [(sb b1 (kSystem x0 a0_0 n0_0 a0_1 n0_1) 25)] := hs20.drop 0
   have hs42 : HS w0 F0 w19 F2 [] := hs41.drop 0
   exact RWP.nil ⟨rfl, F2, hs42, le21, rfl, rfl⟩
 ·rintro f w7 ⟨F1, hs8, le9, e11, e12⟩
  refine thenQ_nrm ?_
  refine CWP.ret (by kernel_rfl) ?_
  have hfin := some_inj h14
  subst hfin
  exact ⟨e11, (.bool j10), res_of (l := [.tmp 4]) (by kernel_rfl) (vs := [(.bool j10)]) ⟨e12, trivial⟩, (.bool j10), F1, rfl, hs8.clear, rfl⟩
end Go.Proofs.Ythbcnabeabcmlaa
namespace Go.Proofs.Ythbcnabeabcmlaa
open Go.Proofs
def clocks_Check_2 (N : Nat) (x0 : Tie) (z0 : System) : Option Bool :=
 ((clocks_tied N z0 x0).bind fun r4 => some (!r4))
theorem co_clocks_Check_2 : CallOk Try.prog 69 := fun _ _ => by kernel_rfl
set_option maxHeartbeats 4000000 in
set_option maxRecDepth 100000 in
theorem c_clocks_Check_2 (N : Nat) (w0 : World) (F0 : Mem) (hF : ∀ b o, F0 b = some o → w0.heap[b]? = some o) (x0 : Tie) (bz0 : Nat) (z0 : System) (az0_0 : Option Addr) (nz0_0 : Nat) (hbz0_0 : LC z0.Tracks.length nz0_0) (hsz0_0 : SlA tTrack F0 az0_0 z0.Tracks) (az0_1 : Option Addr) (nz0_1 : Nat) (hbz0_1 : LC z0.Ties.length nz0_1) (hsz0_1 : SlA tTie F0 az0_1 z0.Ties) (hz0 : F0 bz0 = some (oc (kSystem z0 az0_0 nz0_0 az0_1 nz0_1) 25)) (r : Bool) (h : clocks_Check_2 N x0 z0 = some r) :
  Calls Try.prog 69 ([(.agg (kTie x0)), (.pointer (some ⟨bz0, 0, none⟩))] : List Value).toArray w0 (FRet w0 F0 fun F' v => v = (.bool r)) := by
 have hs0 := HS.start hF
 refine calls_of (n := 8) (c := bodyOf Try.f69) Try.func69 (by kernel_rfl) (by kernel_rfl) (by kernel_rfl) ?_
 refine Sq (Rg [0, 1] ?_)
 refine Bx 2 0 0 46 (kTie x0) hs0 (fun b1 w2 (hs3 : HS w0 F0 w2 F0 [(sb b1 (kTie x0) 46)]) => ?_)
 refine V 3 4 (mc (.bool false) (.bool false)) ?_
 refine Nss (Rg [0, 1, 2, 3, 4] ?_)
 refine V 4 25 (ld 25 1 bz0 0 true 3 (.agg (kSystem z0 az0_0 nz0_0 az0_1 nz0_1)) (hs3.pers _ _ hz0)) ?_
 refine V 5 46 (ld 46 2 b1 0 true 4 (.agg (kTie x0)) (hs3.ownAt (k := 0) rfl)) ?_
 obtain ⟨r4, hr5, h6⟩ := bind_some h
 refine Cl 6 4 70 #[(.tmp 4), (.tmp 5)] #[25, 46] co_clocks_tied hs3 (c_clocks_tied N w2 F0 hs3.pers (z0) az0_0 nz0_0 hbz0_0 hsz0_0 az0_1 nz0_1 hbz0_1 hsz0_1 (x0) _ hr5) ?_
 intro v7 F1 w8 hs9 le10 hp11
 obtain rfl := hp11
 refine V 7 4 (run_not (t := 4) (x := (.tmp 6)) (a := r4) rfl) ?_
 refine V 3 4 (ma 7 (.bool (!r4))) ?_
 refine Nt ?_
 refine CWP.ret (by kernel_rfl) ?_
 have hfin := some_inj h6
 subst hfin
 exact ⟨rfl, (.bool (!r4)), res_of (l := [.tmp 3]) (by kernel_rfl) (vs := [(.bool (!r4))]) ⟨rfl, trivial⟩, (.bool (!r4)), F1, rfl, hs9.clear, rfl⟩
end Go.Proofs.Ythbcnabeabcmlaa
namespace Go.Proofs.Ythbcnabeabcmlaa
open Go.Proofs
def clocks_Check (N : Nat) (x0 : System) : Option Int :=
 (bif ((decide ((x0.Tracks.length : Int) > 64)) || (decide ((x0.Ties.length : Int) > 400))) then some 2 else ((slices_ContainsFunc_api_Track_api_Track N x0.Tracks (fun y0 => clocks_Check_1 N y0)).bind fun r14 => ((bif r14 then some true else ((clocks_within N x0.Window 0 120).bind fun r34 => (bif (!r34) then some true else ((slices_ContainsFunc_api_Tie_api_Tie N x0.Ties (fun y0 => clocks_Check_2 N y0 x0)).bind fun r49 => some r49)))).bind fun j25 => (bif j25 then some 30 else some 0))))
theorem co_clocks_Check : CallOk Try.prog 17 := fun _ _ => by kernel_rfl
set_option maxHeartbeats 4000000 in
set_option maxRecDepth 100000 in
theorem c_clocks_Check (N : Nat) (w0 : World) (F0 : Mem) (hF : ∀ b o, F0 b = some o → w0.heap[b]? = some o) (x0 : System) (a0_0 : Option Addr) (n0_0 : Nat) (hb0_0 : LC x0.Tracks.length n0_0) (hs0_0 : SlA tTrack F0 a0_0 x0.Tracks) (a0_1 : Option Addr) (n0_1 : Nat) (hb0_1 : LC x0.Ties.length n0_1) (hs0_1 : SlA tTie F0 a0_1 x0.Ties) (r : Int) (h : clocks_Check N x0 = some r) :
  Calls Try.prog 17 ([(.agg (kSystem x0 a0_0 n0_0 a0_1 n0_1))] : List Value).toArray w0 (FRet w0 F0 fun F' v => v = (vi r)) := by
 have hs0 := HS.start hF
 refine calls_of (n := 30) (c := bodyOf Try.f17) Try.func17 (by kernel_rfl) (by kernel_rfl) (by kernel_rfl) ?_
 refine Sq (Rg [0, 1] ?_)
 refine Bx 1 0 0 25 (kSystem x0 a0_0 n0_0 a0_1 n0_1) hs0 (fun b1 w2 (hs3 : HS w0 F0 w2 F0 [(sb b1 (kSystem x0 a0_0 n0_0 a0_1 n0_1) 25)]) => ?_)
 refine V 2 30 (mc (vi 0) (vi 0)) ?_
 refine Nss ?_
 refine Sq (Rg [0, 1, 2, 3, 4, 5, 6, 7, 8, 9] ?_)
 refine RWP.cut (fun f w => ∃ (F1 : Mem), HS w0 F0 w F1 [(sb b1 (kSystem x0 a0_0 n0_0 a0_1 n0_1) 25)] ∧ Mem.le F0 F1 ∧ f.d = [] ∧ f 1 = (.pointer (some ⟨b1, 0, none⟩)) ∧ f 13 = (.bool ((decide ((x0.Tracks.length : Int) > 64)) || (decide ((x0.Ties.length : Int) > 400))))) ?_ ?_
 ·refine V 4 0 (fa 25 1 0 0 1 b1 0 0) ?_
  refine V 5 22 (ld 22 4 b1 0 false 1 (.slice a0_0 x0.Tracks.length n0_0) (hs3.ownAt (k := 0) rfl)) ?_
  refine V 6 3 (ln 5 22 a0_0 x0.Tracks.length n0_0 54 4 64) ?_
  refine V 7 4 (run_gtr (t := 3) (t' := 3) (x := (.tmp 6)) (y := (.const (vi 64))) (k := .i64) (a := (x0.Tracks.length : Int)) (b := 64) rfl rfl) ?_
  refine V 8 4 (mv 7 (.bool (decide ((x0.Tracks.length : Int) > 64)))) ?_
  refine RWP.split (decide ((x0.Tracks.length : Int) > 64)) (fun hb10 => ?_) (fun hb10 => ?_)
  ·refine Sk [9, 10, 11, 12] 4 false 8 hb10 ?_
   refine V 13 4 (p1 8 (.const (.bool true)) (.tmp 12) (.bool true) hb10) ?_
   exact RWP.nil ⟨rfl, F0, hs3, (Mem.le.refl _), rfl, rfl, (congrArg Value.bool (or_t hb10 (rfl)))⟩
  ·refine Vg 9 0 4 false 8 hb10 (fa 25 1 1 1 1 b1 0 1) ?_
   refine Vg 10 23 4 false 8 hb10 (ld 23 9 b1 1 false 1 (.slice a0_1 x0.Ties.length n0_1) (hs3.ownAt (k := 0) rfl)) ?_
   refine Vg 11 3 4 false 8 hb10 (ln 10 23 a0_1 x0.Ties.length n0_1 46 4 32) ?_
   refine Vg 12 4 4 false 8 hb10 (run_gtr (t := 3) (t' := 3) (x := (.tmp 11)) (y := (.const (vi 400))) (k := .i64) (a := (x0.Ties.length : Int)) (b := 400) rfl rfl) ?_
   refine V 13 4 (p0 8 (.const (.bool true)) (.tmp 12) (.bool (decide ((x0.Ties.length : Int) > 400))) hb10) ?_
   exact RWP.nil ⟨rfl, F0, hs3, (Mem.le.refl _), rfl, rfl, (congrArg Value.bool (or_f hb10 (rfl)))⟩
 ·rintro f w4 ⟨F1, hs5, le6, e7, e8, e9⟩
  refine thenQ_nrm ?_
  refine CWP.cond (t := ((decide ((x0.Tracks.length : Int) > 64)) || (decide ((x0.Ties.length : Int) > 400)))) (by kernel_rfl) e9 (fun hb11 => ?_) (fun hb11 => ?_)
  ·have h12 := cond_t h hb11
   refine Sq (Rg [0] ?_)
   refine V 2 30 (mc (vi 2) (vi 2)) ?_
   refine Nt ?_
   refine CWP.ret (by kernel_rfl) ?_
   refine thenQ_ret ?_
   have hfin := some_inj h12
   subst hfin
   exact ⟨e7, (vi 2), res_of (l := [.tmp 2]) (by kernel_rfl) (vs := [(vi 2)]) ⟨rfl, trivial⟩, (vi 2), F1, rfl, hs5.clear, rfl⟩
  ·have h13 := cond_f h hb11
   refine Sc ?_
   refine thenQ_nrm ?_
   refine Sq (Rg [0, 1, 2, 3] ?_)
   refine V 14 0 (fa 25 1 0 0 1 b1 0 0 e8) ?_
   refine V 15 22 (ld 22 14 b1 0 false 1 (.slice a0_0 x0.Tracks.length n0_0) (hs5.ownAt (k := 0) rfl)) ?_
   obtain ⟨r14, hr15, h16⟩ := bind_some h13
   refine Cl 16 4 65 #[(.tmp 15), (.func 66)] #[22, 61] co_slices_ContainsFunc_api_Track_api_Track hs5 (c_slices_ContainsFunc_api_Track_api_Track N w4 F1 hs5.pers (x0.Tracks) a0_0 n0_0 hb0_0 (SlA.mono hs0_0 le6) 66 [] [] (fun y0 => clocks_Check_1 N y0) co_clocks_Check_1 (fun w1 F1 y0 ay0_2 ny0_2 hby0_2 hsy0_2 ay0_3 ny0_3 hby0_3 hsy0_3 r le1 pe1 hr1 => c_clocks_Check_1 N w1 F1 pe1  y0 ay0_2 ny0_2 hby0_2 hsy0_2 ay0_3 ny0_3 hby0_3 hsy0_3  r hr1) _ hr15) ?_
   intro v17 F2 w18 hs19 le20 hp21
   obtain rfl := hp21
   refine V 3 4 (ma 16 (.bool r14)) ?_
   refine Nss ?_
   refine Sq (Rg [0, 1, 2, 3, 4, 5, 6, 7, 8, 9, 10, 11, 12] ?_)
   obtain ⟨j25, hj28, h29⟩ := bind_some h16
   refine RWP.cut (fun f w => ∃ (F3 : Mem), HS w0 F0 w F3 [] ∧ Mem.le F2 F3 ∧ f.d = [] ∧ f 29 = (.bool j25)) ?_ ?_
   ·refine V 17 4 (mv 3 (.bool r14)) ?_
    refine V 18 4 (mv 17 (.bool r14)) ?_
    refine RWP.split r14 (fun hb30 => ?_) (fun hb30 => ?_)
    ·have h31 := cond_t hj28 hb30
     refine Sk [19, 20, 21, 22] 1 false 18 hb30 ?_
     refine V 23 4 (p1 18 (.const (.bool true)) (.tmp 22) (.bool true) hb30) ?_
     refine V 24 4 (mv 23 (.bool true)) ?_
     refine Sk [25, 26, 27, 28] 7 false 24 rfl ?_
     refine V 29 4 (p1 24 (.const (.bool true)) (.tmp 28) (.bool true) rfl) ?_
     obtain rfl := some_inj h31
     have hs32 : HS w0 F0 w18 F2 [] := hs19.drop 0
     exact RWP.nil ⟨rfl, F2, hs32, (Mem.le.refl _), e7, rfl⟩
    ·have h33 := cond_f hj28 hb30
     refine Vg 19 0 1 false 18 hb30 (fa 25 1 2 2 1 b1 0 2 e8) ?_
     refine Vg 20 3 1 false 18 hb30 (ld 3 19 b1 2 false 1 (vi x0.Window) (hs19.ownAt (k := 0) rfl)) ?_
     obtain ⟨r34, hr35, h36⟩ := bind_some h33
     refine RWP.call (dst := (some 21)) (ty := 4) (g := (some (1, false))) (by kernel_rfl) (gd_y (d := 18) (by kernel_rfl) rfl hb30) (f0 := (.func 67)) (aos := #[(.tmp 20), (.const (vi 0)), (.const (vi 120))]) (ats := #[3, 3, 3]) (fid := 67) (first := #[]) (cap := #[]) (args := [(vi x0.Window), (vi 0), (vi 120)]) rfl co_clocks_within (rfl) hs19 (c_clocks_within N w18 F2 hs19.pers (x0.Window) (0) (120) _ hr35) ?_
     intro v37 F4 w38 hs39 le40 hp41
     obtain rfl := hp41
     refine Vg 22 4 1 false 18 hb30 (run_not (t := 4) (x := (.tmp 21)) (a := r34) rfl) ?_
     refine V 23 4 (p0 18 (.const (.bool true)) (.tmp 22) (.bool (!r34)) hb30) ?_
     refine V 24 4 (mv 23 (.bool (!r34))) ?_
     refine RWP.split (!r34) (fun hb42 => ?_) (fun hb42 => ?_)
     ·have h43 := cond_t h36 hb42
      refine Sk [25, 26, 27, 28] 7 false 24 hb42 ?_
      refine V 29 4 (p1 24 (.const (.bool true)) (.tmp 28) (.bool true) hb42) ?_
      obtain rfl := some_inj h43
      have hs44 : HS w0 F0 w38 F4 [] := hs39.drop 0
      exact RWP.nil ⟨rfl, F4, hs44, le40, e7, rfl⟩
     ·have h45 := cond_f h36 hb42
      refine Vg 25 0 7 false 24 hb42 (fa 25 1 1 1 1 b1 0 1 e8) ?_
      refine Vg 26 23 7 false 24 hb42 (ld 23 25 b1 1 false 1 (.slice a0_1 x0.Ties.length n0_1) (hs39.ownAt (k := 0) rfl)) ?_
      refine Vg 27 91 7 false 24 hb42 (run_makeFunc (fn := .func 69) (first := #[]) (cap := #[(.tmp 1)]) (fl := []) (cl := [(.pointer (some ⟨b1, 0, none⟩))]) rfl (cons_eq e8 (rfl))) ?_
      obtain ⟨F5, hs46, le47, hF48⟩ : ∃ Fq, HS w0 F0 w38 Fq [] ∧ Mem.le F4 Fq ∧ Fq b1 = some (oc (kSystem x0 a0_0 n0_0 a0_1 n0_1) 25) := HS.freezeC hs39 (k := 0) rfl
      obtain ⟨r49, hr50, h51⟩ := bind_some h45
      refine RWP.call (dst := (some 28)) (ty := 4) (g := (some (7, false))) (by kernel_rfl) (gd_y (d := 24) (by kernel_rfl) rfl hb42) (f0 := (.func 68)) (aos := #[(.tmp 26), (.tmp 27)]) (ats := #[23, 91]) (fid := 68) (first := #[]) (cap := #[]) (args := [(.slice a0_1 x0.Ties.length n0_1), (.func (.func 69) #[] #[(.pointer (some ⟨b1, 0, none⟩))])]) rfl co_slices_ContainsFunc_api_Tie_api_Tie (rfl) hs46 (c_slices_ContainsFunc_api_Tie_api_Tie N w38 F5 hs46.pers (x0.Ties) a0_1 n0_1 hb0_1 (SlA.mono hs0_1 (((le6.trans le20).trans le40).trans le47)) 69 [] [(.pointer (some ⟨b1, 0, none⟩))] (fun y0 => clocks_Check_2 N y0 x0) co_clocks_Check_2 (fun w1 F1 y0 r le1 pe1 hr1 => c_clocks_Check_2 N w1 F1 pe1  y0 b1 x0 a0_0 n0_0 hb0_0 (SlA.mono (SlA.mono hs0_0 (((le6.trans le20).trans le40).trans le47)) le1) a0_1 n0_1 hb0_1 (SlA.mono (SlA.mono hs0_1 (((le6.trans le20).trans le40).trans le47)) le1) (le1 _ _ hF48) r hr1) _ hr50) ?_
      intro v52 F6 w53 hs54 le55 hp56
      obtain rfl := hp56
      refine V 29 4 (p0 24 (.const (.bool true)) (.tmp 28) (.bool r49) hb42) ?_
      obtain rfl := some_inj h51
      exact RWP.nil ⟨rfl, F6, hs54, ((le40.trans le47).trans le55), e7, rfl⟩
   ·rintro f w22 ⟨F3, hs23, le24, e26, e27⟩
    refine thenQ_nrm ?_
    refine CWP.cond (t := j25) (by kernel_rfl) e27 (fun hb57 => ?_) (fun hb57 => ?_)
    ·have h58 := cond_t h29 hb57
     refine Sq (Rg [0] ?_)
     refine V 2 30 (mc (vi 30) (vi 30)) ?_
     refine Nt ?_
     refine CWP.ret (by kernel_rfl) ?_
     refine thenQ_ret ?_
     have hfin := some_inj h58
     subst hfin
     exact ⟨e26, (vi 30), res_of (l := [.tmp 2]) (by kernel_rfl) (vs := [(vi 30)]) ⟨rfl, trivial⟩, (vi 30), F3, rfl, hs23.clear, rfl⟩
    ·have h59 := cond_f h29 hb57
     refine Sc ?_
     refine thenQ_nrm ?_
     refine Sq (Rg [0] ?_)
     refine V 2 30 (mc (vi 0) (vi 0)) ?_
     refine Nt ?_
     refine CWP.ret (by kernel_rfl) ?_
     have hfin := some_inj h59
     subst hfin
     exact ⟨e26, (vi 0), res_of (l := [.tmp 2]) (by kernel_rfl) (vs := [(vi 0)]) ⟨rfl, trivial⟩, (vi 0), F3, rfl, hs23.clear, rfl⟩
end Go.Proofs.Ythbcnabeabcmlaa
namespace Go.Proofs.Ythbcnabeabcmlaa
def Fit (N n : Nat) : Prop := n < 9223372036854775808 ∧ n < N
structure FitT (N : Nat) (t : Track) : Prop where
 j : Fit N t.Clock.Jumps.length
 t : Fit N t.Times.length
structure FitS (N : Nat) (s : System) : Prop where
 n : Fit N s.Tracks.length
 t : ∀ t, t ∈ s.Tracks → FitT N t
 e : Fit N s.Ties.length
def inr (a b c : Int) : Bool := decide (b ≤ a) && decide (a ≤ c)
theorem within_c (N : Nat) (a b c : Int) : clocks_within N a b c = some (inr a b c) := rfl
def okO (lt : Int → Int → Bool) (l : List Int) : Nat → Bool
 | 0 => inr (l.getD 0 0) 0 20000
 | i + 1 => inr (l.getD (i + 1) 0) 0 20000 && lt (l.getD i 0) (l.getD (i + 1) 0)
theorem getD_at {α : Type} {l : List α} {i : Nat} (h : i < l.length) (d : α) : l.getD i d = l[i] := by simp [h]
theorem pred_nat {i : Nat} (h : i + 1 < 9223372036854775808) : W64 (((i + 1 : Nat) : Int) - 1) = (i : Int) := by
 rw [W64_id (by omega) (by omega)]; simp
def ltS (b a : Int) : Bool := decide (b < a)
def ltE (b a : Int) : Bool := decide (b ≤ a)
def vClock (c : Clock) : Bool := allB c.Jumps.length (okO ltS c.Jumps) && (inr c.Slip 0 1440 && (inr c.Drift 0 100 && decide ((c.Jumps.length : Int) ≤ 16)))
def vTrack (t : Track) : Bool := allB t.Times.length (okO ltE t.Times) && (vClock t.Clock && decide ((t.Times.length : Int) ≤ 400))
theorem loopC {N : Nat} {c : Clock} (h : Fit N c.Jumps.length) {i : Nat} (hi : i < c.Jumps.length) : clocks_ValidClock_L0 N c (i : Int) = some (bif okO ltS c.Jumps i then .next ((i + 1 : Nat) : Int) else .ret false) := by
 unfold clocks_ValidClock_L0
 have h1 := h.1
 rw [lt_t hi, cond_true, idx_nat hi, Option.bind_some, within_c, Option.bind_some, W64_succ (by omega)]
 cases i with
 | zero =>
  simp only [okO, getD_at hi]
  cases inr c.Jumps[0] 0 20000 <;> simp
 | succ k =>
  have hk : k < c.Jumps.length := by omega
  simp only [okO, getD_at hi, getD_at hk]
  have hp : decide (((k + 1 : Nat) : Int) > 0) = true := by simp
  rw [hp, cond_true, pred_nat (by omega), idx_nat hk]
  cases inr c.Jumps[k + 1] 0 20000 <;> simp [ltS]
  by_cases hlt : c.Jumps[k + 1] ≤ c.Jumps[k]
  ·simp [hlt, Int.not_lt.2 hlt]
  ·simp [hlt, Int.not_le.1 hlt]
theorem validClock_c {N : Nat} {c : Clock} (h : Fit N c.Jumps.length) : clocks_ValidClock N c = some (vClock c) := by
 unfold clocks_ValidClock
 rw [iter_check' (okO ltS c.Jumps) false (fun i hi => loopC h hi) (by unfold clocks_ValidClock_L0; rw [lt_f]; rfl) h.2]
 unfold vClock
 cases allB c.Jumps.length (okO ltS c.Jumps) with
 | false => rfl
 | true =>
  simp only [cond_true, within_c, Option.bind_some]
  cases inr c.Slip 0 1440 <;> simp
  cases inr c.Drift 0 100 <;> simp
theorem loopT {N : Nat} {t : Track} (h : Fit N t.Times.length) {i : Nat} (hi : i < t.Times.length) : clocks_ValidTrack_L0 N t (i : Int) = some (bif okO ltE t.Times i then .next ((i + 1 : Nat) : Int) else .ret false) := by
 unfold clocks_ValidTrack_L0
 have h1 := h.1
 rw [lt_t hi, cond_true, idx_nat hi, Option.bind_some, within_c, Option.bind_some, W64_succ (by omega)]
 cases i with
 | zero =>
  simp only [okO, getD_at hi]
  cases inr t.Times[0] 0 20000 <;> simp
 | succ k =>
  have hk : k < t.Times.length := by omega
  simp only [okO, getD_at hi, getD_at hk]
  have hp : decide (((k + 1 : Nat) : Int) > 0) = true := by simp
  rw [hp, cond_true, pred_nat (by omega), idx_nat hk]
  cases inr t.Times[k + 1] 0 20000 <;> simp [ltE]
  by_cases hlt : t.Times[k + 1] < t.Times[k]
  ·simp [hlt, Int.not_le.2 hlt]
  ·simp [hlt, Int.not_lt.1 hlt]
theorem validTrack_c {N : Nat} {t : Track} (h : FitT N t) : clocks_ValidTrack N t = some (vTrack t) := by
 unfold clocks_ValidTrack
 rw [iter_check' (okO ltE t.Times) false (fun i hi => loopT h.t hi) (by unfold clocks_ValidTrack_L0; rw [lt_f]; rfl) h.t.2]
 unfold vTrack
 cases allB t.Times.length (okO ltE t.Times) with
 | false => rfl
 | true =>
  simp only [cond_true, validClock_c h.j, Option.bind_some]
  cases vClock t.Clock <;> simp
def vHas (s : System) (r : Ref) : Bool := decide (0 ≤ r.Log) && match s.Tracks[r.Log.toNat]? with
 | none => false
 | some t => decide (0 ≤ r.Line) && decide (r.Line < (t.Times.length : Int))
theorem has_aux {N : Nat} {s : System} (h : FitS N s) (r : Ref) (f : Int → Int → Int → Option Bool) (hf : ∀ a b c, f a b c = some (inr a b c)) :
  (((f r.Log 0 (W64 ((s.Tracks.length : Int) - 1))).bind fun r17 => (bif r17 then ((idx s.Tracks r.Log).bind fun x27 => ((f r.Line 0 (W64 ((x27.Times.length : Int) - 1))).bind fun r41 => some r41)) else some false)).bind fun j12 => some j12) = some (vHas s r) := by
 simp only [hf, Option.bind_some]
 have h1 := h.n.1
 rw [W64_id (by omega) (by omega)]
 unfold vHas inr
 by_cases h0 : 0 ≤ r.Log
 ·by_cases hl : r.Log ≤ (s.Tracks.length : Int) - 1
  ·obtain ⟨k, hk⟩ : ∃ k : Nat, r.Log = (k : Int) := ⟨r.Log.toNat, by omega⟩
   have hkl : k < s.Tracks.length := by omega
   have hm := h.t _ (List.getElem_mem hkl)
   have h2 := hm.t.1
   rw [hk] at hl ⊢
   simp only [hl, decide_true, Bool.and_true, cond_true, idx_nat hkl, Option.bind_some, Int.toNat_natCast, List.getElem?_eq_getElem hkl]
   rw [W64_id (by omega) (by omega)]
   have e : decide (r.Line ≤ ((s.Tracks[k].Times.length : Nat) : Int) - 1) = decide (r.Line < ((s.Tracks[k].Times.length : Nat) : Int)) := by
    rw [Bool.eq_iff_iff]; simp; omega
   simp [e]
  ·have : s.Tracks[r.Log.toNat]? = none := by rw [List.getElem?_eq_none]; omega
   simp [h0, hl, this]
 ·simp [h0]
theorem has_c {N : Nat} {s : System} (h : FitS N s) (r : Ref) : clocks_has N s r = some (vHas s r) := has_aux h r _ (within_c N)
def vTie (s : System) (t : Tie) : Bool := vHas s t.A && (vHas s t.B && (t.A.Log != t.B.Log))
theorem tied_c {N : Nat} {s : System} (h : FitS N s) (t : Tie) : clocks_tied N s t = some (vTie s t) := by
 unfold clocks_tied vTie
 rw [has_c h, has_c h]
 simp only [Option.bind_some]
 cases vHas s t.A <;> simp
 cases vHas s t.B <;> simp
theorem contains_aux {α : Type} {N : Nat} {l : List α} (h : Fit N l.length) {f : α → Option Bool} {p : α → Bool} (hf : ∀ x, x ∈ l → f x = some (p x)) {body : Int → Option (Flow Int Int)}
  (hb : body = fun s4 => (bif (decide (s4 < (l.length : Int))) then ((idx l s4).bind fun x26 => ((f x26).bind fun r40 => (bif r40 then some (.ret s4) else some (.next (W64 (s4 + 1)))))) else some (.done s4))) :
  (((iter body N 0).bind fun o => o.k (fun r => some r) (fun _ => some (-1))).bind fun r1 => some (decide (r1 ≥ 0))) = some (l.any p) := by
 have h1 := h.1
 subst hb
 rcases iter_check (body := fun s4 => (bif (decide (s4 < (l.length : Int))) then ((idx l s4).bind fun x26 => ((f x26).bind fun r40 => (bif r40 then some (.ret s4) else some (.next (W64 (s4 + 1)))))) else some (.done s4))) (n := l.length) (fun i => match l[i]? with | some x => !p x | none => true) (fun i => (i : Int)) (fun i hi => by
   simp only [lt_t hi, cond_true, idx_nat hi, Option.bind_some, hf _ (List.getElem_mem hi), List.getElem?_eq_getElem hi]
   rw [W64_succ (by omega)]
   cases p l[i] <;> rfl) (by simp only [lt_f]; rfl) h.2 with ⟨h2, h3⟩ | ⟨h2, i, hi, h3⟩
 ·rw [h3]
  have : l.any p = false := by
   rw [List.any_eq_false]
   intro x hx
   obtain ⟨i, hi, rfl⟩ := List.getElem_of_mem hx
   have := allB_t h2 hi
   rw [List.getElem?_eq_getElem hi] at this
   simpa using this
  rw [this]
  rfl
 ·rw [h3]
  have : l.any p = true := by
   cases e : l.any p with
   | true => rfl
   | false =>
    rw [List.any_eq_false] at e
    rw [allB_of (fun j hj => by rw [List.getElem?_eq_getElem hj]; simpa using e _ (List.getElem_mem hj))] at h2
    cases h2
  rw [this]
  simp [Flow.k]
def vCheck (s : System) : Int := bif (decide ((s.Tracks.length : Int) > 64) || decide ((s.Ties.length : Int) > 400)) then 2 else bif (s.Tracks.all vTrack && (inr s.Window 0 120 && s.Ties.all (vTie s))) then 0 else 30
theorem any_not {α : Type} (l : List α) (p : α → Bool) : l.any (fun x => !p x) = !l.all p := by
 induction l with
 | nil => rfl
 | cons x l ih => simp [ih, Bool.not_and]
theorem check_c {N : Nat} {s : System} (h : FitS N s) : clocks_Check N s = some (vCheck s) := by
 unfold clocks_Check vCheck
 have h1 : slices_ContainsFunc_api_Track_api_Track N s.Tracks (fun y0 => clocks_Check_1 N y0) = some (s.Tracks.any fun t => !vTrack t) :=
  contains_aux h.n (fun t ht => by unfold clocks_Check_1; rw [validTrack_c (h.t t ht)]; rfl) rfl
 have h2 : slices_ContainsFunc_api_Tie_api_Tie N s.Ties (fun y0 => clocks_Check_2 N y0 s) = some (s.Ties.any fun t => !vTie s t) :=
  contains_aux h.e (fun t _ => by unfold clocks_Check_2; rw [tied_c h]; rfl) rfl
 rw [h1, h2, within_c, any_not, any_not]
 cases (decide ((s.Tracks.length : Int) > 64) || decide ((s.Ties.length : Int) > 400)) with
 | true => rfl
 | false =>
  simp only [cond_false, Option.bind_some]
  cases s.Tracks.all vTrack <;> simp
  cases inr s.Window 0 120 <;> simp
  cases s.Ties.all (vTie s) <;> simp
end Go.Proofs.Ythbcnabeabcmlaa
namespace Go.Proofs.Ythbcnabeabcmlaa
open Go.Proofs
def clocks_beginning (N : Nat)  : Option Ref :=
 some ({ Log := (-1), Line := 0 } : Ref)
theorem co_clocks_beginning : CallOk Try.prog 108 := fun _ _ => by kernel_rfl
set_option maxHeartbeats 4000000 in
set_option maxRecDepth 100000 in
theorem c_clocks_beginning (N : Nat) (w0 : World) (F0 : Mem) (hF : ∀ b o, F0 b = some o → w0.heap[b]? = some o)  (r : Ref) (h : clocks_beginning N  = some r) :
  Calls Try.prog 108 ([] : List Value).toArray w0 (FRet w0 F0 fun F' v => v = (.agg (kRef r))) := by
 have hs0 := HS.start hF
 refine calls_of (n := 2) (c := bodyOf Try.f108) Try.func108 (by kernel_rfl) (by kernel_rfl) (by kernel_rfl) ?_
 refine Sq (Rg [0] ?_)
 refine Al 0 0 27 #[(vi 0), (vi 0)] hs0 (fun b1 w2 (hs3 : HS w0 F0 w2 F0 [(sb b1 #[(vi 0), (vi 0)] 27)]) => ?_)
 refine Nss (Rg [0, 1] ?_)
 refine V 1 27 (run_build2 (t := 27) (parts := #[(0, (.const (vi (-1))))]) (vs := [(0, (vi (-1)))]) (rfl) (cs := [(vi (-1)), (vi 0)]) (by kernel_rfl)) ?_
 refine RWP.store (ty := 0) (g := none) (by kernel_rfl) rfl (x := (.tmp 0)) (y := (.tmp 1)) (t := 27) (gg := true) (s := 2) (v := (.agg #[(vi (-1)), (vi 0)])) (b := b1) (o := 0) (C := #[(vi 0), (vi 0)]) rfl rfl (by kernel_rfl) hs3 (k := 0) rfl rfl rfl rfl (C' := #[(vi (-1)), (vi 0)]) rfl (fun w4 (hs5 : HS w0 F0 w4 F0 [(sb b1 #[(vi (-1)), (vi 0)] 27)]) => ?_)
 refine Nt ?_
 refine CWP.ret (by kernel_rfl) ?_
 have hfin := some_inj h
 subst hfin
 exact ⟨rfl, (.agg #[(vi (-1)), (vi 0)]), res_of (l := [.cell 0 27]) (by kernel_rfl) (vs := [(.agg #[(vi (-1)), (vi 0)])]) ⟨b1, 0, rfl, run_loadVar' (t := 27) (g := true) (s := 2) (by kernel_rfl) (hs5.ownAt (k := 0) rfl) rfl (by decide), trivial⟩, (.agg #[(vi (-1)), (vi 0)]), F0, rfl, hs5.clear, rfl⟩
end Go.Proofs.Ythbcnabeabcmlaa
namespace Go.Proofs.Ythbcnabeabcmlaa
open Go.Proofs
def cmp_isNaN_int (N : Nat) (x0 : Int) : Option Bool :=
 some (x0 != x0)
theorem co_cmp_isNaN_int : CallOk Try.prog 140 := fun _ _ => by kernel_rfl
set_option maxHeartbeats 4000000 in
set_option maxRecDepth 100000 in
theorem c_cmp_isNaN_int (N : Nat) (w0 : World) (F0 : Mem) (hF : ∀ b o, F0 b = some o → w0.heap[b]? = some o) (x0 : Int) (r : Bool) (h : cmp_isNaN_int N x0 = some r) :
  Calls Try.prog 140 ([(vi x0)] : List Value).toArray w0 (FRet w0 F0 fun F' v => v = (.bool r)) := by
 have hs0 := HS.start hF
 refine calls_of (n := 6) (c := bodyOf Try.f140) Try.func140 (by kernel_rfl) (by kernel_rfl) (by kernel_rfl) ?_
 refine Sq (Rg [0] ?_)
 refine V 2 4 (mc (.bool false) (.bool false)) ?_
 refine Nss (Rg [0, 1, 2, 3] ?_)
 refine V 3 3 (mv 0 (vi x0)) ?_
 refine V 4 3 (mv 0 (vi x0)) ?_
 refine V 5 4 (run_neq (t := 3) (t' := 3) (x := (.tmp 3)) (y := (.tmp 4)) (k := .i64) (a := x0) (b := x0) rfl rfl) ?_
 refine V 2 4 (ma 5 (.bool (x0 != x0))) ?_
 refine Nt ?_
 refine CWP.ret (by kernel_rfl) ?_
 have hfin := some_inj h
 subst hfin
 exact ⟨rfl, (.bool (x0 != x0)), res_of (l := [.tmp 2]) (by kernel_rfl) (vs := [(.bool (x0 != x0))]) ⟨rfl, trivial⟩, (.bool (x0 != x0)), F0, rfl, hs0.clear, rfl⟩
end Go.Proofs.Ythbcnabeabcmlaa
namespace Go.Proofs.Ythbcnabeabcmlaa
open Go.Proofs
def cmp_Less_int (N : Nat) (x0 : Int) (x1 : Int) : Option Bool :=
 (((cmp_isNaN_int N x0).bind fun r9 => (bif r9 then ((cmp_isNaN_int N x1).bind fun r19 => (bif (!r19) then some true else some (decide (x0 < x1)))) else some (decide (x0 < x1)))).bind fun j4 => some j4)
theorem co_cmp_Less_int : CallOk Try.prog 137 := fun _ _ => by kernel_rfl
set_option maxHeartbeats 4000000 in
set_option maxRecDepth 100000 in
theorem c_cmp_Less_int (N : Nat) (w0 : World) (F0 : Mem) (hF : ∀ b o, F0 b = some o → w0.heap[b]? = some o) (x0 : Int) (x1 : Int) (r : Bool) (h : cmp_Less_int N x0 x1 = some r) :
  Calls Try.prog 137 ([(vi x0), (vi x1)] : List Value).toArray w0 (FRet w0 F0 fun F' v => v = (.bool r)) := by
 have hs0 := HS.start hF
 refine calls_of (n := 17) (c := bodyOf Try.f137) Try.func137 (by kernel_rfl) (by kernel_rfl) (by kernel_rfl) ?_
 refine Sq (Rg [0] ?_)
 refine V 4 4 (mc (.bool false) (.bool false)) ?_
 refine Nss (Rg [0, 1, 2, 3, 4, 5, 6, 7, 8, 9, 10, 11, 12] ?_)
 obtain ⟨j4, hj7, h8⟩ := bind_some h
 refine RWP.cut (fun f w => ∃ (F1 : Mem), HS w0 F0 w F1 [] ∧ Mem.le F0 F1 ∧ f.d = [] ∧ f 4 = (.bool j4)) ?_ ?_
 ·refine V 5 3 (mv 0 (vi x0)) ?_
  obtain ⟨r9, hr10, h11⟩ := bind_some hj7
  refine Cl 6 4 140 #[(.tmp 5)] #[3] co_cmp_isNaN_int hs0 (c_cmp_isNaN_int N w0 F0 hs0.pers (x0) _ hr10) ?_
  intro v12 F2 w13 hs14 le15 hp16
  obtain rfl := hp16
  refine V 7 4 (mv 6 (.bool r9)) ?_
  refine RWP.split r9 (fun hb17 => ?_) (fun hb17 => ?_)
  ·have h18 := cond_t h11 hb17
   refine Vg 8 3 2 true 7 hb17 (mv 1 (vi x1)) ?_
   obtain ⟨r19, hr20, h21⟩ := bind_some h18
   refine RWP.call (dst := (some 9)) (ty := 4) (g := (some (2, true))) (by kernel_rfl) (gd_y (d := 7) (by kernel_rfl) rfl hb17) (f0 := (.func 140)) (aos := #[(.tmp 8)]) (ats := #[3]) (fid := 140) (first := #[]) (cap := #[]) (args := [(vi x1)]) rfl co_cmp_isNaN_int (rfl) hs14 (c_cmp_isNaN_int N w13 F2 hs14.pers (x1) _ hr20) ?_
   intro v22 F3 w23 hs24 le25 hp26
   obtain rfl := hp26
   refine Vg 10 4 2 true 7 hb17 (run_not (t := 4) (x := (.tmp 9)) (a := r19) rfl) ?_
   refine V 11 4 (p1 7 (.tmp 10) (.const (.bool false)) (.bool (!r19)) hb17) ?_
   refine V 12 4 (mv 11 (.bool (!r19))) ?_
   refine RWP.split (!r19) (fun hb27 => ?_) (fun hb27 => ?_)
   ·have h28 := cond_t h21 hb27
    refine Sk [13, 14, 15] 7 false 12 hb27 ?_
    refine V 16 4 (p1 12 (.const (.bool true)) (.tmp 15) (.bool true) hb27) ?_
    refine V 4 4 (ma 16 (.bool true)) ?_
    obtain rfl := some_inj h28
    exact RWP.nil ⟨rfl, F3, hs24, (le15.trans le25), rfl, rfl⟩
   ·have h29 := cond_f h21 hb27
    refine Vg 13 3 7 false 12 hb27 (mv 0 (vi x0)) ?_
    refine Vg 14 3 7 false 12 hb27 (mv 1 (vi x1)) ?_
    refine Vg 15 4 7 false 12 hb27 (run_lss (t := 3) (t' := 3) (x := (.tmp 13)) (y := (.tmp 14)) (k := .i64) (a := x0) (b := x1) rfl rfl) ?_
    refine V 16 4 (p0 12 (.const (.bool true)) (.tmp 15) (.bool (decide (x0 < x1))) hb27) ?_
    refine V 4 4 (ma 16 (.bool (decide (x0 < x1)))) ?_
    obtain rfl := some_inj h29
    exact RWP.nil ⟨rfl, F3, hs24, (le15.trans le25), rfl, rfl⟩
  ·have h30 := cond_f h11 hb17
   refine Sk [8, 9, 10] 2 true 7 hb17 ?_
   refine V 11 4 (p0 7 (.tmp 10) (.const (.bool false)) (.bool false) hb17) ?_
   refine V 12 4 (mv 11 (.bool false)) ?_
   refine Vg 13 3 7 false 12 rfl (mv 0 (vi x0)) ?_
   refine Vg 14 3 7 false 12 rfl (mv 1 (vi x1)) ?_
   refine Vg 15 4 7 false 12 rfl (run_lss (t := 3) (t' := 3) (x := (.tmp 13)) (y := (.tmp 14)) (k := .i64) (a := x0) (b := x1) rfl rfl) ?_
   refine V 16 4 (p0 12 (.const (.bool true)) (.tmp 15) (.bool (decide (x0 < x1))) rfl) ?_
   refine V 4 4 (ma 16 (.bool (decide (x0 < x1)))) ?_
   obtain rfl := some_inj h30
   exact RWP.nil ⟨rfl, F2, hs14, le15, rfl, rfl⟩
 ·rintro f w1 ⟨F1, hs2, le3, e5, e6⟩
  refine thenQ_nrm ?_
  refine CWP.ret (by kernel_rfl) ?_
  have hfin := some_inj h8
  subst hfin
  exact ⟨e5, (.bool j4), res_of (l := [.tmp 4]) (by kernel_rfl) (vs := [(.bool j4)]) ⟨e6, trivial⟩, (.bool j4), F1, rfl, hs2.clear, rfl⟩
end Go.Proofs.Ythbcnabeabcmlaa
namespace Go.Proofs.Ythbcnabeabcmlaa
open Go.Proofs
def slices_isNaN_int (N : Nat) (x0 : Int) : Option Bool :=
 some (x0 != x0)
theorem co_slices_isNaN_int : CallOk Try.prog 138 := fun _ _ => by kernel_rfl
set_option maxHeartbeats 4000000 in
set_option maxRecDepth 100000 in
theorem c_slices_isNaN_int (N : Nat) (w0 : World) (F0 : Mem) (hF : ∀ b o, F0 b = some o → w0.heap[b]? = some o) (x0 : Int) (r : Bool) (h : slices_isNaN_int N x0 = some r) :
  Calls Try.prog 138 ([(vi x0)] : List Value).toArray w0 (FRet w0 F0 fun F' v => v = (.bool r)) := by
 have hs0 := HS.start hF
 refine calls_of (n := 6) (c := bodyOf Try.f138) Try.func138 (by kernel_rfl) (by kernel_rfl) (by kernel_rfl) ?_
 refine Sq (Rg [0] ?_)
 refine V 2 4 (mc (.bool false) (.bool false)) ?_
 refine Nss (Rg [0, 1, 2, 3] ?_)
 refine V 3 3 (mv 0 (vi x0)) ?_
 refine V 4 3 (mv 0 (vi x0)) ?_
 refine V 5 4 (run_neq (t := 3) (t' := 3) (x := (.tmp 3)) (y := (.tmp 4)) (k := .i64) (a := x0) (b := x0) rfl rfl) ?_
 refine V 2 4 (ma 5 (.bool (x0 != x0))) ?_
 refine Nt ?_
 refine CWP.ret (by kernel_rfl) ?_
 have hfin := some_inj h
 subst hfin
 exact ⟨rfl, (.bool (x0 != x0)), res_of (l := [.tmp 2]) (by kernel_rfl) (vs := [(.bool (x0 != x0))]) ⟨rfl, trivial⟩, (.bool (x0 != x0)), F0, rfl, hs0.clear, rfl⟩
end Go.Proofs.Ythbcnabeabcmlaa
namespace Go.Proofs.Ythbcnabeabcmlaa
open Go.Proofs
def slices_BinarySearch_int_int_L0 (N : Nat) (x0 : (List Int)) (x1 : Int) : (Int × Int) → Option (Flow (Int × Bool) (Int × Int)) := fun s4 =>
 (bif (decide (s4.1 < s4.2)) then ((idx x0 (W64 (Int.fdiv (IntKind.u64.wrap (W64 (s4.1 + s4.2))) (2 ^ min (1 : Int).toNat IntKind.u64.bits)))).bind fun x31 => ((cmp_Less_int N x31 x1).bind fun r45 => some (.next ((bif r45 then (W64 ((W64 (Int.fdiv (IntKind.u64.wrap (W64 (s4.1 + s4.2))) (2 ^ min (1 : Int).toNat IntKind.u64.bits))) + 1)) else s4.1), (bif r45 then s4.2 else (W64 (Int.fdiv (IntKind.u64.wrap (W64 (s4.1 + s4.2))) (2 ^ min (1 : Int).toNat IntKind.u64.bits)))))))) else some (.done (s4.1, s4.2)))
def slices_BinarySearch_int_int (N : Nat) (x0 : (List Int)) (x1 : Int) : Option (Int × Bool) :=
 ((iter (slices_BinarySearch_int_int_L0 N x0 x1) N (0, (x0.length : Int))).bind fun o => o.k (fun r => some r) (fun s14 => ((bif (decide (s14.1 < (x0.length : Int))) then ((idx x0 s14.1).bind fun x78 => (bif (x78 == x1) then some true else ((idx x0 s14.1).bind fun x95 => ((slices_isNaN_int N x95).bind fun r101 => (bif r101 then ((slices_isNaN_int N x1).bind fun r111 => some r111) else some false))))) else some false).bind fun j70 => some (s14.1, j70))))
theorem co_slices_BinarySearch_int_int : CallOk Try.prog 123 := fun _ _ => by kernel_rfl
set_option maxHeartbeats 4000000 in
set_option maxRecDepth 100000 in
theorem c_slices_BinarySearch_int_int (N : Nat) (w0 : World) (F0 : Mem) (hF : ∀ b o, F0 b = some o → w0.heap[b]? = some o) (x0 : (List Int)) (a0_0 : Option Addr) (n0_0 : Nat) (hb0_0 : LC x0.length n0_0) (hs0_0 : SlA tInt F0 a0_0 x0) (x1 : Int) (r : (Int × Bool)) (h : slices_BinarySearch_int_int N x0 x1 = some r) :
  Calls Try.prog 123 ([(.slice a0_0 x0.length n0_0), (vi x1)] : List Value).toArray w0 (FRet w0 F0 fun F' v => v = (.tuple #[(vi r.1), (.bool r.2)])) := by
 have hs0 := HS.start hF
 refine calls_of (n := 54) (c := bodyOf Try.f123) Try.func123 (by kernel_rfl) (by kernel_rfl) (by kernel_rfl) ?_
 refine Sq (Rg [0, 1] ?_)
 refine V 4 3 (mc (vi 0) (vi 0)) ?_
 refine V 5 4 (mc (.bool false) (.bool false)) ?_
 refine Nss (Rg [0, 1, 2] ?_)
 refine V 10 50 (mv 0 (.slice a0_0 x0.length n0_0)) ?_
 refine V 11 3 (ln 10 50 a0_0 x0.length n0_0 3 1 8) ?_
 refine V 6 3 (ma 11 (vi (x0.length : Int))) ?_
 refine Nss (Rg [0, 1, 2] ?_)
 refine V 12 3 (mv 6 (vi (x0.length : Int))) ?_
 refine V 7 3 (mc (vi 0) (vi 0)) ?_
 refine V 8 3 (ma 12 (vi (x0.length : Int))) ?_
 refine Nss ?_
 obtain ⟨o1, ho2, h3⟩ := bind_some h
 refine CWP.cut (fun f w => ∃ (s14 : (Int × Int)) (F2 : Mem), o1 = .done s14 ∧ HS w0 F0 w F2 [] ∧ Mem.le F0 F2 ∧ f.d = [] ∧ f 0 = (.slice a0_0 x0.length n0_0) ∧ f 1 = (vi x1) ∧ f 6 = (vi (x0.length : Int)) ∧ f 7 = (vi s14.1)) ?_ ?_
 ·refine Bk ?_
  refine CWP.loop (by kernel_rfl) (fun m f w => ∃ (s4 : (Int × Int)) (F1 : Mem), iter (slices_BinarySearch_int_int_L0 N x0 x1) m s4 = some o1 ∧ HS w0 F0 w F1 [] ∧ Mem.le F0 F1 ∧ f.d = [] ∧ f 0 = (.slice a0_0 x0.length n0_0) ∧ f 1 = (vi x1) ∧ f 6 = (vi (x0.length : Int)) ∧ f 7 = (vi s4.1) ∧ f 8 = (vi s4.2)) N ⟨(0, (x0.length : Int)), F0, ho2, hs0, (Mem.le.refl _), rfl, rfl, rfl, rfl, rfl, rfl⟩ ?_
  rintro m23 f w5 ⟨s4, F1, hit24, hs6, le7, e8, e9, e10, e11, e12, e13⟩
  obtain ⟨m25, fl26, rfl, hb27, hnx28⟩ := iter_step hit24
  refine Sq ?_
  refine Sq (Rg [0, 1, 2] ?_)
  refine V 13 3 (mv 7 (vi s4.1) e12) ?_
  refine V 14 3 (mv 8 (vi s4.2) e13) ?_
  refine V 15 4 (run_lss (t := 3) (t' := 3) (x := (.tmp 13)) (y := (.tmp 14)) (k := .i64) (a := s4.1) (b := s4.2) rfl rfl) ?_
  refine Nt ?_
  refine CWP.cond (t := (decide (s4.1 < s4.2))) (by kernel_rfl) rfl (fun hb29 => ?_) (fun hb29 => ?_)
  ·have h30 := cond_t hb27 hb29
   refine Sc ?_
   refine thenQ_nrm ?_
   refine Bk ?_
   refine Sq (Rg [0, 1, 2, 3, 4, 5, 6] ?_)
   refine V 16 3 (mv 7 (vi s4.1) e12) ?_
   refine V 17 3 (mv 8 (vi s4.2) e13) ?_
   refine V 18 3 (run_add (t := 3) (t' := 3) (x := (.tmp 16)) (y := (.tmp 17)) (k := .i64) (a := s4.1) (b := s4.2) rfl rfl) ?_
   refine V 19 162 (run_convInt (s := 3) (d := 162) (x := (.tmp 18)) (k := .u64) (q := .i64) (a := (W64 (s4.1 + s4.2))) rfl (by kernel_rfl) (by kernel_rfl)) ?_
   refine V 20 162 (run_shr (t := 162) (t' := 162) (x := (.tmp 19)) (y := (.const (.int .u64 1))) (k := .u64) (q := .u64) (a := (IntKind.u64.wrap (W64 (s4.1 + s4.2)))) (b := 1) rfl rfl (by decide)) ?_
   refine V 21 3 (run_convInt (s := 162) (d := 3) (x := (.tmp 20)) (k := .i64) (q := .u64) (a := (Int.fdiv (IntKind.u64.wrap (W64 (s4.1 + s4.2))) (2 ^ min (1 : Int).toNat IntKind.u64.bits))) rfl (by kernel_rfl) (by kernel_rfl)) ?_
   refine V 9 3 (ma 21 (vi (W64 (Int.fdiv (IntKind.u64.wrap (W64 (s4.1 + s4.2))) (2 ^ min (1 : Int).toNat IntKind.u64.bits))))) ?_
   refine Nss (Rg [0, 1, 2, 3, 4, 5] ?_)
   refine V 22 50 (mv 0 (.slice a0_0 x0.length n0_0) e9) ?_
   refine V 23 3 (mv 9 (vi (W64 (Int.fdiv (IntKind.u64.wrap (W64 (s4.1 + s4.2))) (2 ^ min (1 : Int).toNat IntKind.u64.bits))))) ?_
   obtain ⟨x31, hx32, h34⟩ := bind_some h30
   obtain ⟨hi33, hx32'⟩ := idx_spec hx32
   obtain ⟨b35, o36, C37, E38, fz39, rfl, hF41, hE42⟩ := SlA.open (SlA.mono hs0_0 le7) hx32'
   have hc44 := hE42 _ _ hx32'
   refine V 24 0 (ix 50 22 23 b35 o36 3 1 8 hi33) ?_
   refine V 25 3 (lx 3 24 0 1 false 1 (vi x31) (hs6.pers _ _ hF41) hc44) ?_
   refine V 26 3 (mv 1 (vi x1) e10) ?_
   obtain ⟨r45, hr46, h47⟩ := bind_some h34
   refine Cl 27 4 137 #[(.tmp 25), (.tmp 26)] #[3, 3] co_cmp_Less_int hs6 (c_cmp_Less_int N w5 F1 hs6.pers (x31) (x1) _ hr46) ?_
   intro v48 F3 w49 hs50 le51 hp52
   obtain rfl := hp52
   refine Nt ?_
   refine CWP.cut (fun f w => ∃ (F4 : Mem), HS w0 F0 w F4 [] ∧ Mem.le F3 F4 ∧ f.d = [] ∧ f 0 = (.slice (some ⟨b35, o36, none⟩) x0.length n0_0) ∧ f 1 = (vi x1) ∧ f 6 = (vi (x0.length : Int)) ∧ f 7 = (vi (bif r45 then (W64 ((W64 (Int.fdiv (IntKind.u64.wrap (W64 (s4.1 + s4.2))) (2 ^ min (1 : Int).toNat IntKind.u64.bits))) + 1)) else s4.1)) ∧ f 8 = (vi (bif r45 then s4.2 else (W64 (Int.fdiv (IntKind.u64.wrap (W64 (s4.1 + s4.2))) (2 ^ min (1 : Int).toNat IntKind.u64.bits)))))) ?_ ?_
   ·refine CWP.cond (t := r45) (by kernel_rfl) rfl (fun hb62 => ?_) (fun hb62 => ?_)
    ·refine Rg [0, 1, 2] ?_
     refine V 28 3 (mv 9 (vi (W64 (Int.fdiv (IntKind.u64.wrap (W64 (s4.1 + s4.2))) (2 ^ min (1 : Int).toNat IntKind.u64.bits))))) ?_
     refine V 29 3 (run_add (t := 3) (t' := 3) (x := (.tmp 28)) (y := (.const (vi 1))) (k := .i64) (a := (W64 (Int.fdiv (IntKind.u64.wrap (W64 (s4.1 + s4.2))) (2 ^ min (1 : Int).toNat IntKind.u64.bits)))) (b := 1) rfl rfl) ?_
     refine V 7 3 (ma 29 (vi (W64 ((W64 (Int.fdiv (IntKind.u64.wrap (W64 (s4.1 + s4.2))) (2 ^ min (1 : Int).toNat IntKind.u64.bits))) + 1)))) ?_
     refine RWP.nil ?_
     exact .inl ⟨rfl, F3, hs50, (Mem.le.refl _), e8, e9, e10, e11, (congrArg (Value.int .i64) (bif_t hb62 (rfl))), (e13.trans (congrArg (Value.int .i64) (bif_t hb62 (rfl))))⟩
    ·refine Rg [0, 1] ?_
     refine V 30 3 (mv 9 (vi (W64 (Int.fdiv (IntKind.u64.wrap (W64 (s4.1 + s4.2))) (2 ^ min (1 : Int).toNat IntKind.u64.bits))))) ?_
     refine V 8 3 (ma 30 (vi (W64 (Int.fdiv (IntKind.u64.wrap (W64 (s4.1 + s4.2))) (2 ^ min (1 : Int).toNat IntKind.u64.bits))))) ?_
     refine RWP.nil ?_
     exact .inl ⟨rfl, F3, hs50, (Mem.le.refl _), e8, e9, e10, e11, (e12.trans (congrArg (Value.int .i64) (bif_f hb62 (rfl)))), (congrArg (Value.int .i64) (bif_f hb62 (rfl)))⟩
   ·rintro f w53 ⟨F4, hs54, le55, e56, e57, e58, e59, e60, e61⟩
    refine blockQ_nrm ?_
    have hn63 := iter_next h47 hnx28
    exact ⟨m25, Nat.lt_succ_self _, ((bif r45 then (W64 ((W64 (Int.fdiv (IntKind.u64.wrap (W64 (s4.1 + s4.2))) (2 ^ min (1 : Int).toNat IntKind.u64.bits))) + 1)) else s4.1), (bif r45 then s4.2 else (W64 (Int.fdiv (IntKind.u64.wrap (W64 (s4.1 + s4.2))) (2 ^ min (1 : Int).toNat IntKind.u64.bits))))), F4, hn63, hs54, ((le7.trans le51).trans le55), e56, e57, e58, e59, e60, e61⟩
  ·have h64 := cond_f hb27 hb29
   refine CWP.exit (by kernel_rfl) ?_
   refine thenQ_ex ?_
   refine thenQ_ex ?_
   refine blockQ_hit rfl ?_
   have ho65 := iter_done h64 hnx28
   exact .inl ⟨rfl, (s4.1, s4.2), F1, ho65, hs6, le7, e8, e9, e10, e11, e12⟩
 ·rintro f w15 ⟨s14, F2, rfl, hs16, le17, e18, e19, e20, e21, e22⟩
  have h66 := k_done h3
  refine thenQ_nrm ?_
  refine Sq (Rg [0, 1, 2, 3, 4, 5, 6, 7, 8, 9, 10, 11, 12, 13, 14, 15, 16, 17, 18, 19, 20, 21, 22, 23, 24] ?_)
  obtain ⟨j70, hj74, h75⟩ := bind_some h66
  refine RWP.cut (fun f w => ∃ (F5 : Mem), HS w0 F0 w F5 [] ∧ Mem.le F2 F5 ∧ f.d = [] ∧ f 4 = (vi s14.1) ∧ f 5 = (.bool j70)) ?_ ?_
  ·refine V 31 3 (mv 7 (vi s14.1) e22) ?_
   refine V 32 3 (mv 7 (vi s14.1) e22) ?_
   refine V 33 3 (mv 6 (vi (x0.length : Int)) e21) ?_
   refine V 34 4 (run_lss (t := 3) (t' := 3) (x := (.tmp 32)) (y := (.tmp 33)) (k := .i64) (a := s14.1) (b := (x0.length : Int)) rfl rfl) ?_
   refine V 35 4 (mv 34 (.bool (decide (s14.1 < (x0.length : Int))))) ?_
   refine RWP.split (decide (s14.1 < (x0.length : Int))) (fun hb76 => ?_) (fun hb76 => ?_)
   ·have h77 := cond_t hj74 hb76
    refine Vg 36 50 4 true 35 hb76 (mv 0 (.slice a0_0 x0.length n0_0) e19) ?_
    refine Vg 37 3 4 true 35 hb76 (mv 7 (vi s14.1) e22) ?_
    obtain ⟨x78, hx79, h81⟩ := bind_some h77
    obtain ⟨hi80, hx79'⟩ := idx_spec hx79
    obtain ⟨b82, o83, C84, E85, fz86, rfl, hF88, hE89⟩ := SlA.open (SlA.mono hs0_0 le17) hx79'
    have hc91 := hE89 _ _ hx79'
    refine Vg 38 0 4 true 35 hb76 (ix 50 36 37 b82 o83 3 1 8 hi80) ?_
    refine Vg 39 3 4 true 35 hb76 (lx 3 38 0 1 false 1 (vi x78) (hs16.pers _ _ hF88) hc91) ?_
    refine Vg 40 3 4 true 35 hb76 (mv 1 (vi x1) e20) ?_
    refine Vg 41 4 4 true 35 hb76 (run_eql (t := 3) (t' := 3) (x := (.tmp 39)) (y := (.tmp 40)) (k := .i64) (a := x78) (b := x1) rfl rfl) ?_
    refine Vg 42 4 4 true 35 hb76 (mv 41 (.bool (x78 == x1))) ?_
    refine RWP.split (x78 == x1) (fun hb92 => ?_) (fun hb92 => ?_)
    ·have h93 := cond_t h81 hb92
     refine Sk [43, 44, 45, 46, 47, 48] 11 false 42 hb92 ?_
     refine Su [49, 50] 17 true 48 ?_
     refine Sk [51] 11 false 42 hb92 ?_
     refine Vg 52 4 4 true 35 hb76 (p1 42 (.const (.bool true)) (.tmp 51) (.bool true) hb92) ?_
     refine V 53 4 (p1 35 (.tmp 52) (.const (.bool false)) (.bool true) hb76) ?_
     refine V 4 3 (ma 31 (vi s14.1)) ?_
     refine V 5 4 (ma 53 (.bool true)) ?_
     obtain rfl := some_inj h93
     exact RWP.nil ⟨rfl, F2, hs16, (Mem.le.refl _), e18, rfl, rfl⟩
    ·have h94 := cond_f h81 hb92
     refine Vg 43 50 11 false 42 hb92 (mv 0 (.slice (some ⟨b82, o83, none⟩) x0.length n0_0) e19) ?_
     refine Vg 44 3 11 false 42 hb92 (mv 7 (vi s14.1) e22) ?_
     obtain ⟨x95, hx96, h98⟩ := bind_some h94
     obtain ⟨hi97, hx96'⟩ := idx_spec hx96
     have hc100 := hE89 _ _ hx96'
     refine Vg 45 0 11 false 42 hb92 (ix 50 43 44 b82 o83 3 1 8 hi97) ?_
     refine Vg 46 3 11 false 42 hb92 (lx 3 45 0 1 false 1 (vi x95) (hs16.pers _ _ hF88) hc100) ?_
     obtain ⟨r101, hr102, h103⟩ := bind_some h98
     refine RWP.call (dst := (some 47)) (ty := 4) (g := (some (11, false))) (by kernel_rfl) (gd_y (d := 42) (by kernel_rfl) rfl hb92) (f0 := (.func 138)) (aos := #[(.tmp 46)]) (ats := #[3]) (fid := 138) (first := #[]) (cap := #[]) (args := [(vi x95)]) rfl co_slices_isNaN_int (rfl) hs16 (c_slices_isNaN_int N w15 F2 hs16.pers (x95) _ hr102) ?_
     intro v104 F6 w105 hs106 le107 hp108
     obtain rfl := hp108
     refine Vg 48 4 11 false 42 hb92 (mv 47 (.bool r101)) ?_
     refine RWP.split r101 (fun hb109 => ?_) (fun hb109 => ?_)
     ·have h110 := cond_t h103 hb109
      refine Vg 49 3 17 true 48 hb109 (mv 1 (vi x1) e20) ?_
      obtain ⟨r111, hr112, h113⟩ := bind_some h110
      refine RWP.call (dst := (some 50)) (ty := 4) (g := (some (17, true))) (by kernel_rfl) (gd_y (d := 48) (by kernel_rfl) rfl hb109) (f0 := (.func 138)) (aos := #[(.tmp 49)]) (ats := #[3]) (fid := 138) (first := #[]) (cap := #[]) (args := [(vi x1)]) rfl co_slices_isNaN_int (rfl) hs106 (c_slices_isNaN_int N w105 F6 hs106.pers (x1) _ hr112) ?_
      intro v114 F7 w115 hs116 le117 hp118
      obtain rfl := hp118
      refine Vg 51 4 11 false 42 hb92 (p1 48 (.tmp 50) (.const (.bool false)) (.bool r111) hb109) ?_
      refine Vg 52 4 4 true 35 hb76 (p0 42 (.const (.bool true)) (.tmp 51) (.bool r111) hb92) ?_
      refine V 53 4 (p1 35 (.tmp 52) (.const (.bool false)) (.bool r111) hb76) ?_
      refine V 4 3 (ma 31 (vi s14.1)) ?_
      refine V 5 4 (ma 53 (.bool r111)) ?_
      obtain rfl := some_inj h113
      exact RWP.nil ⟨rfl, F7, hs116, (le107.trans le117), e18, rfl, rfl⟩
     ·have h119 := cond_f h103 hb109
      refine Sk [49, 50] 17 true 48 hb109 ?_
      refine Vg 51 4 11 false 42 hb92 (p0 48 (.tmp 50) (.const (.bool false)) (.bool false) hb109) ?_
      refine Vg 52 4 4 true 35 hb76 (p0 42 (.const (.bool true)) (.tmp 51) (.bool false) hb92) ?_
      refine V 53 4 (p1 35 (.tmp 52) (.const (.bool false)) (.bool false) hb76) ?_
      refine V 4 3 (ma 31 (vi s14.1)) ?_
      refine V 5 4 (ma 53 (.bool false)) ?_
      obtain rfl := some_inj h119
      exact RWP.nil ⟨rfl, F6, hs106, le107, e18, rfl, rfl⟩
   ·have h120 := cond_f hj74 hb76
    refine Sk [36, 37, 38, 39, 40, 41, 42] 4 true 35 hb76 ?_
    refine Su [43, 44, 45, 46, 47, 48] 11 false 42 ?_
    refine Su [49, 50] 17 true 48 ?_
    refine Su [51] 11 false 42 ?_
    refine Sk [52] 4 true 35 hb76 ?_
    refine V 53 4 (p0 35 (.tmp 52) (.const (.bool false)) (.bool false) hb76) ?_
    refine V 4 3 (ma 31 (vi s14.1)) ?_
    refine V 5 4 (ma 53 (.bool false)) ?_
    obtain rfl := some_inj h120
    exact RWP.nil ⟨rfl, F2, hs16, (Mem.le.refl _), e18, rfl, rfl⟩
  ·rintro f w67 ⟨F5, hs68, le69, e71, e72, e73⟩
   refine thenQ_nrm ?_
   refine CWP.ret (by kernel_rfl) ?_
   have hfin := some_inj h75
   subst hfin
   exact ⟨e71, (.tuple #[(vi s14.1), (.bool j70)]), res_of (l := [.tmp 4, .tmp 5]) (by kernel_rfl) (vs := [(vi s14.1), (.bool j70)]) ⟨e72, ⟨e73, trivial⟩⟩, (.tuple #[(vi s14.1), (.bool j70)]), F5, rfl, hs68.clear, rfl⟩
end Go.Proofs.Ythbcnabeabcmlaa
namespace Go.Proofs.Ythbcnabeabcmlaa
open Go.Proofs
def clocks_segment (N : Nat) (x0 : Clock) (x1 : Int) : Option Int :=
 ((slices_BinarySearch_int_int N x0.Jumps (W64 (x1 + 1))).bind fun r4 => some r4.1)
theorem co_clocks_segment : CallOk Try.prog 82 := fun _ _ => by kernel_rfl
set_option maxHeartbeats 4000000 in
set_option maxRecDepth 100000 in
theorem c_clocks_segment (N : Nat) (w0 : World) (F0 : Mem) (hF : ∀ b o, F0 b = some o → w0.heap[b]? = some o) (x0 : Clock) (a0_2 : Option Addr) (n0_2 : Nat) (hb0_2 : LC x0.Jumps.length n0_2) (hs0_2 : SlA tInt F0 a0_2 x0.Jumps) (x1 : Int) (r : Int) (h : clocks_segment N x0 x1 = some r) :
  Calls Try.prog 82 ([(.agg (kClock x0 a0_2 n0_2)), (vi x1)] : List Value).toArray w0 (FRet w0 F0 fun F' v => v = (vi r)) := by
 have hs0 := HS.start hF
 refine calls_of (n := 16) (c := bodyOf Try.f82) Try.func82 (by kernel_rfl) (by kernel_rfl) (by kernel_rfl) ?_
 refine Sq (Rg [0, 1] ?_)
 refine Bx 2 0 0 52 (kClock x0 a0_2 n0_2) hs0 (fun b1 w2 (hs3 : HS w0 F0 w2 F0 [(sb b1 (kClock x0 a0_2 n0_2) 52)]) => ?_)
 refine V 4 3 (mc (vi 0) (vi 0)) ?_
 refine Nss (Rg [0, 1, 2, 3, 4, 5, 6, 7, 8, 9] ?_)
 refine V 8 0 (fa 52 2 2 2 1 b1 0 2) ?_
 refine V 9 50 (ld 50 8 b1 2 false 1 (.slice a0_2 x0.Jumps.length n0_2) (hs3.ownAt (k := 0) rfl)) ?_
 refine V 10 3 (mv 1 (vi x1)) ?_
 refine V 11 3 (run_add (t := 3) (t' := 3) (x := (.tmp 10)) (y := (.const (vi 1))) (k := .i64) (a := x1) (b := 1) rfl rfl) ?_
 obtain ⟨r4, hr5, h6⟩ := bind_some h
 refine Cl 12 149 123 #[(.tmp 9), (.tmp 11)] #[50, 3] co_slices_BinarySearch_int_int hs3 (c_slices_BinarySearch_int_int N w2 F0 hs3.pers (x0.Jumps) a0_2 n0_2 hb0_2 hs0_2 ((W64 (x1 + 1))) _ hr5) ?_
 intro v7 F1 w8 hs9 le10 hp11
 obtain rfl := hp11
 refine V 7 149 (mv 12 (.tuple #[(vi r4.1), (.bool r4.2)])) ?_
 refine V 13 3 (ex 7 0 (vi r4.1) (vs := #[(vi r4.1), (.bool r4.2)])) ?_
 refine V 14 4 (ex 7 1 (.bool r4.2) (vs := #[(vi r4.1), (.bool r4.2)])) ?_
 refine V 5 3 (ma 13 (vi r4.1)) ?_
 refine V 6 4 (ma 14 (.bool r4.2)) ?_
 refine Nss (Rg [0, 1] ?_)
 refine V 15 3 (mv 5 (vi r4.1)) ?_
 refine V 4 3 (ma 15 (vi r4.1)) ?_
 refine Nt ?_
 refine CWP.ret (by kernel_rfl) ?_
 have hfin := some_inj h6
 subst hfin
 exact ⟨rfl, (vi r4.1), res_of (l := [.tmp 4]) (by kernel_rfl) (vs := [(vi r4.1)]) ⟨rfl, trivial⟩, (vi r4.1), F1, rfl, hs9.clear, rfl⟩
end Go.Proofs.Ythbcnabeabcmlaa
namespace Go.Proofs.Ythbcnabeabcmlaa
open Go.Proofs
def clocks_bounds_1_L1 {σ : Type} (N : Nat) (y : (σ → Bound → Option (Bool × σ))) (z0 : System) (s : σ) (s4 : (Int × σ)) (x33 : Track) : (Int × σ) → Option (Flow σ (Int × σ)) := fun s55 =>
 (bif (decide (s55.1 < (x33.Times.length : Int))) then ((idx x33.Times s55.1).bind fun x92 => (((clocks_beginning N ).bind fun r133 => ((y s55.2 ({ From := r133, To := ({ Log := s4.1, Line := s55.1 } : Ref), Most := (W64 (x92 + x33.Clock.Slip)), Kind := 1, ID := s55.1 } : Bound)).bind fun q141 => (bif (!q141.1) then some (true, q141.2) else ((clocks_beginning N ).bind fun r154 => ((y q141.2 ({ From := ({ Log := s4.1, Line := s55.1 } : Ref), To := r154, Most := (W64 (x33.Clock.Slip - x92)), Kind := 1, ID := s55.1 } : Bound)).bind fun q162 => some ((!q162.1), q162.2)))))).bind fun j116 => (bif j116.1 then some (.ret j116.2) else some (.next ((W64 (s55.1 + 1)), j116.2))))) else some (.done (s55.1, s55.2)))
def clocks_bounds_1_L0 {σ : Type} (N : Nat) (y : (σ → Bound → Option (Bool × σ))) (z0 : System) (s : σ) : (Int × σ) → Option (Flow σ (Int × σ)) := fun s4 =>
 (bif (decide (s4.1 < (z0.Tracks.length : Int))) then ((idx z0.Tracks s4.1).bind fun x33 => ((iter (clocks_bounds_1_L1 N y z0 s s4 x33) N (0, s4.2)).bind fun o => o.k (fun r => some (.ret r)) (fun s72 => some (.next ((W64 (s4.1 + 1)), s72.2))))) else some (.done (s4.1, s4.2)))
def clocks_bounds_1_L3 {σ : Type} (N : Nat) (y : (σ → Bound → Option (Bool × σ))) (z0 : System) (s : σ) (s16 : (Int × σ)) (s188 : (Int × σ)) (x217 : Track) : (Int × σ) → Option (Flow σ (Int × σ)) := fun s239 =>
 (bif (decide ((W64 (s239.1 + 1)) < (x217.Times.length : Int))) then ((y s239.2 ({ From := ({ Log := s188.1, Line := (W64 (s239.1 + 1)) } : Ref), To := ({ Log := s188.1, Line := s239.1 } : Ref), Most := 0, Kind := 2, ID := s239.1 } : Bound)).bind fun q284 => (bif (!q284.1) then some (.ret q284.2) else (((idx x217.Times s239.1).bind fun x319 => ((idx x217.Times (W64 (s239.1 + 1))).bind fun x333 => ((clocks_segment N x217.Clock x319).bind fun r339 => ((clocks_segment N x217.Clock x333).bind fun r347 => some (r339 != r347))))).bind fun j304 => (bif j304 then some (.next ((W64 (s239.1 + 1)), q284.2)) else (((idx x217.Times (W64 (s239.1 + 1))).bind fun x381 => ((idx x217.Times s239.1).bind fun x395 => some (W64 (x381 - x395)))).bind fun j366 => (((y q284.2 ({ From := ({ Log := s188.1, Line := s239.1 } : Ref), To := ({ Log := s188.1, Line := (W64 (s239.1 + 1)) } : Ref), Most := (W64 (j366 + (W64 (1 + (W64 (Int.tdiv (W64 ((W64 (x217.Clock.Drift * j366)) + 999)) 1000)))))), Kind := 3, ID := s239.1 } : Bound)).bind fun q419 => (bif (!q419.1) then some (true, q419.2) else ((y q419.2 ({ From := ({ Log := s188.1, Line := (W64 (s239.1 + 1)) } : Ref), To := ({ Log := s188.1, Line := s239.1 } : Ref), Most := (W64 ((W64 (1 + (W64 (Int.tdiv (W64 ((W64 (x217.Clock.Drift * j366)) + 999)) 1000)))) - j366)), Kind := 3, ID := s239.1 } : Bound)).bind fun q433 => some ((!q433.1), q433.2)))).bind fun j404 => (bif j404.1 then some (.ret j404.2) else some (.next ((W64 (s239.1 + 1)), j404.2))))))))) else some (.done (s239.1, s239.2)))
def clocks_bounds_1_L2 {σ : Type} (N : Nat) (y : (σ → Bound → Option (Bool × σ))) (z0 : System) (s : σ) (s16 : (Int × σ)) : (Int × σ) → Option (Flow σ (Int × σ)) := fun s188 =>
 (bif (decide (s188.1 < (z0.Tracks.length : Int))) then ((idx z0.Tracks s188.1).bind fun x217 => ((iter (clocks_bounds_1_L3 N y z0 s s16 s188 x217) N (0, s188.2)).bind fun o => o.k (fun r => some (.ret r)) (fun s254 => some (.next ((W64 (s188.1 + 1)), s254.2))))) else some (.done (s188.1, s188.2)))
def clocks_bounds_1_L4 {σ : Type} (N : Nat) (y : (σ → Bound → Option (Bool × σ))) (z0 : System) (s : σ) (s16 : (Int × σ)) (s200 : (Int × σ)) : (Int × σ) → Option (Flow σ (Int × σ)) := fun s460 =>
 (bif (decide (s460.1 < (z0.Ties.length : Int))) then ((idx z0.Ties s460.1).bind fun x487 => (((y s460.2 ({ From := x487.A, To := x487.B, Most := z0.Window, Kind := 4, ID := s460.1 } : Bound)).bind fun q521 => (bif (!q521.1) then some (true, q521.2) else ((y q521.2 ({ From := x487.B, To := x487.A, Most := z0.Window, Kind := 4, ID := s460.1 } : Bound)).bind fun q534 => some ((!q534.1), q534.2)))).bind fun j509 => (bif j509.1 then some (.ret j509.2) else some (.next ((W64 (s460.1 + 1)), j509.2))))) else some (.done (s460.1, s460.2)))
def clocks_bounds_1 {σ : Type} (N : Nat) (y : σ → Bound → Option (Bool × σ)) (z0 : System) (s : σ) : Option σ :=
 ((iter (clocks_bounds_1_L0 N y z0 s) N (0, s)).bind fun o => o.k (fun r => some r) (fun s16 => ((iter (clocks_bounds_1_L2 N y z0 s s16) N (0, s16.2)).bind fun o => o.k (fun r => some r) (fun s200 => ((iter (clocks_bounds_1_L4 N y z0 s s16 s200) N (0, s200.2)).bind fun o => o.k (fun r => some r) (fun s472 => some s472.2))))))
theorem co_clocks_bounds_1 : CallOk Try.prog 120 := fun _ _ => by kernel_rfl
set_option maxHeartbeats 4000000 in
set_option maxRecDepth 100000 in
theorem c_clocks_bounds_1 (N : Nat) (F0 : Mem) (z0 : System) (az0_0 : Option Addr) (nz0_0 : Nat) (hbz0_0 : LC z0.Tracks.length nz0_0) (hsz0_0 : SlA tTrack F0 az0_0 z0.Tracks) (az0_1 : Option Addr) (nz0_1 : Nat) (hbz0_1 : LC z0.Ties.length nz0_1) (hsz0_1 : SlA tTie F0 az0_1 z0.Ties) (bz0 : Nat) (hz0 : F0 bz0 = some (oc (kSystem z0 az0_0 nz0_0 az0_1 nz0_1) 25)) :
  SeqOk Try.prog 120 [(.pointer (some ⟨bz0, 0, none⟩))] F0 [] enc134 ok134 px134 (fun {_} y s => clocks_bounds_1 N y z0 s) := by
 intro σ wb w0 Fb F1 l y J s r Lf le01 hJm hs0 hJ hY h
 have hs0 : HS wb Fb w0 F1 Lf := hs0
 refine calls_of (n := 188) (c := bodyOf Try.f120) Try.func120 (by kernel_rfl) (by kernel_rfl) (by kernel_rfl) ?_
 refine Sq ?_
 refine Sq (Rg [0, 1, 2, 3] ?_)
 refine V 17 0 (fa 25 1 0 0 1 bz0 0 0) ?_
 refine V 18 22 (ld 22 17 bz0 0 false 1 (.slice az0_0 z0.Tracks.length nz0_0) (hs0.pers _ _ (le01 _ _ hz0))) ?_
 refine V 19 3 (ln 18 22 az0_0 z0.Tracks.length nz0_0 54 4 64) ?_
 refine V 20 3 (run_move (x := (.const (vi 0))) (v := (vi 0)) rfl) ?_
 refine Nt ?_
 obtain ⟨o1, ho2, h3⟩ := bind_some h
 refine CWP.cut (fun f w => ∃ (s16 : (Int × σ)) (F3 : Mem) (Lf20 : Own), o1 = .done s16 ∧ HS wb Fb w F3 Lf20 ∧ Mem.le F1 F3 ∧ f.d = [] ∧ f 0 = (.func (.yield l) #[] #[]) ∧ f 1 = (.pointer (some ⟨bz0, 0, none⟩)) ∧ J s16.2 F3 Lf20) ?_ ?_
 ·refine Bk ?_
  refine CWP.loop (by kernel_rfl) (fun m f w => ∃ (s4 : (Int × σ)) (F2 : Mem) (Lf8 : Own), iter (clocks_bounds_1_L0 N y z0 s) m s4 = some o1 ∧ HS wb Fb w F2 Lf8 ∧ Mem.le F1 F2 ∧ f.d = [] ∧ f 0 = (.func (.yield l) #[] #[]) ∧ f 1 = (.pointer (some ⟨bz0, 0, none⟩)) ∧ f 18 = (.slice az0_0 z0.Tracks.length nz0_0) ∧ f 19 = (vi (z0.Tracks.length : Int)) ∧ f 20 = (vi s4.1) ∧ J s4.2 F2 Lf8) N ⟨(0, s), F1, Lf, ho2, hs0, (Mem.le.refl _), rfl, rfl, rfl, rfl, rfl, rfl, hJ⟩ ?_
  rintro m25 f w5 ⟨s4, F2, Lf8, hit26, hs6, le7, e10, e11, e12, e13, e14, e15, hJ9⟩
  obtain ⟨m27, fl28, rfl, hb29, hnx30⟩ := iter_step hit26
  refine Sq (Rg [0] ?_)
  refine V 21 0 (run_lss (t := 3) (t' := 3) (x := (.tmp 20)) (y := (.tmp 19)) (k := .i64) (a := s4.1) (b := (z0.Tracks.length : Int)) e15 e14) ?_
  refine Nss ?_
  refine CWP.cond (t := (decide (s4.1 < (z0.Tracks.length : Int)))) (by kernel_rfl) rfl (fun hb31 => ?_) (fun hb31 => ?_)
  ·have h32 := cond_t hb29 hb31
   refine Sc ?_
   refine thenQ_nrm ?_
   refine Sq ?_
   refine Bk ?_
   refine Sq (Rg [0, 1, 2, 3, 4, 5] ?_)
   refine V 22 3 (mv 20 (vi s4.1) e15) ?_
   obtain ⟨x33, hx34, h36⟩ := bind_some h32
   obtain ⟨hi35, hx34'⟩ := idx_spec hx34
   obtain ⟨b37, o38, C39, E40, fz41, rfl, hF43, hE44⟩ := SlA.open (SlA.mono hsz0_0 (le01.trans le7)) hx34'
   obtain ⟨ae45_2, ne45_2, ae45_3, ne45_3, hc46, hbe45_2, hse45_2, hbe45_3, hse45_3⟩ := hE44 _ _ hx34'
   refine V 23 0 (run_index (t := 22) (x := (.tmp 18)) (y := (.tmp 20)) (b := b37) (o := o38) (E := 54) (s := 4) (by_ := 64) e13 e15 (by kernel_rfl) hi35) ?_
   refine V 24 54 (lx 54 23 0 4 true 4 (.agg (kTrack x33 ae45_2 ne45_2 ae45_3 ne45_3)) (hs6.pers _ _ hF43) hc46) ?_
   refine Al 4 0 54 #[(vi 0), (vi 0), (.slice none ([] : List Int).length 0), (.slice none ([] : List Int).length 0)] hs6 (fun b47 w48 (hs49 : HS wb Fb w48 F2 ((sb b47 #[(vi 0), (vi 0), (.slice none ([] : List Int).length 0), (.slice none ([] : List Int).length 0)] 54) :: Lf8)) => ?_)
   refine V 3 3 (ma 22 (vi s4.1)) ?_
   refine RWP.store (ty := 0) (g := none) (by kernel_rfl) rfl (x := (.tmp 4)) (y := (.tmp 24)) (t := 54) (gg := true) (s := 4) (v := (.agg (kTrack x33 ae45_2 ne45_2 ae45_3 ne45_3))) (b := b47) (o := 0) (C := #[(vi 0), (vi 0), (.slice none ([] : List Int).length 0), (.slice none ([] : List Int).length 0)]) rfl rfl (by kernel_rfl) hs49 (k := 0) rfl rfl rfl rfl (C' := (kTrack x33 ae45_2 ne45_2 ae45_3 ne45_3)) rfl (fun w50 (hs51 : HS wb Fb w50 F2 ((sb b47 (kTrack x33 ae45_2 ne45_2 ae45_3 ne45_3) 54) :: Lf8)) => ?_)
   refine Nss (Rg [0, 1, 2, 3] ?_)
   refine V 25 0 (fa 54 4 1 3 1 b47 0 3) ?_
   refine V 26 50 (ld 50 25 b47 3 false 1 (.slice ae45_3 x33.Times.length ne45_3) (hs51.ownAt (k := 0) rfl)) ?_
   refine V 27 3 (ln 26 50 ae45_3 x33.Times.length ne45_3 3 1 8) ?_
   refine V 28 3 (run_move (x := (.const (vi 0))) (v := (vi 0)) rfl) ?_
   refine Nt ?_
   obtain ⟨o52, ho53, h54⟩ := bind_some h36
   refine CWP.cut (fun f w => ∃ (s72 : (Int × σ)) (F5 : Mem) (Lf76 : Own), o52 = .done s72 ∧ HS wb Fb w F5 Lf76 ∧ Mem.le F2 F5 ∧ f.d = [] ∧ f 0 = (.func (.yield l) #[] #[]) ∧ f 1 = (.pointer (some ⟨bz0, 0, none⟩)) ∧ f 18 = (.slice (some ⟨b37, o38, none⟩) z0.Tracks.length nz0_0) ∧ f 19 = (vi (z0.Tracks.length : Int)) ∧ f 20 = (vi s4.1) ∧ J s72.2 F5 Lf76) ?_ ?_
   ·refine Bk ?_
    refine CWP.loop (by kernel_rfl) (fun m f w => ∃ (s55 : (Int × σ)) (F4 : Mem) (Lf59 : Own), iter (clocks_bounds_1_L1 N y z0 s s4 x33) m s55 = some o52 ∧ HS wb Fb w F4 ((sb b47 (kTrack x33 ae45_2 ne45_2 ae45_3 ne45_3) 54) :: Lf59) ∧ Mem.le F2 F4 ∧ f.d = [] ∧ f 0 = (.func (.yield l) #[] #[]) ∧ f 1 = (.pointer (some ⟨bz0, 0, none⟩)) ∧ f 3 = (vi s4.1) ∧ f 4 = (.pointer (some ⟨b47, 0, none⟩)) ∧ f 18 = (.slice (some ⟨b37, o38, none⟩) z0.Tracks.length nz0_0) ∧ f 19 = (vi (z0.Tracks.length : Int)) ∧ f 20 = (vi s4.1) ∧ f 26 = (.slice ae45_3 x33.Times.length ne45_3) ∧ f 27 = (vi (x33.Times.length : Int)) ∧ f 28 = (vi s55.1) ∧ J s55.2 F4 Lf59) N ⟨(0, s4.2), F2, Lf8, ho53, hs51, (Mem.le.refl _), e10, e11, e12, rfl, rfl, e13, e14, e15, rfl, rfl, rfl, hJ9⟩ ?_
    rintro m84 f w56 ⟨s55, F4, Lf59, hit85, hs57, le58, e61, e62, e63, e64, e65, e66, e67, e68, e69, e70, e71, hJ60⟩
    obtain ⟨m86, fl87, rfl, hb88, hnx89⟩ := iter_step hit85
    refine Sq (Rg [0] ?_)
    refine V 29 0 (run_lss (t := 3) (t' := 3) (x := (.tmp 28)) (y := (.tmp 27)) (k := .i64) (a := s55.1) (b := (x33.Times.length : Int)) e71 e70) ?_
    refine Nss ?_
    refine CWP.cond (t := (decide (s55.1 < (x33.Times.length : Int)))) (by kernel_rfl) rfl (fun hb90 => ?_) (fun hb90 => ?_)
    ·have h91 := cond_t hb88 hb90
     refine Sc ?_
     refine thenQ_nrm ?_
     refine Sq ?_
     refine Bk ?_
     refine Sq (Rg [0, 1, 2, 3, 4] ?_)
     refine V 30 3 (mv 28 (vi s55.1) e71) ?_
     obtain ⟨x92, hx93, h95⟩ := bind_some h91
     obtain ⟨hi94, hx93'⟩ := idx_spec hx93
     obtain ⟨b96, o97, C98, E99, fz100, rfl, hF102, hE103⟩ := SlA.open (SlA.mono hse45_3 le58) hx93'
     have hc105 := hE103 _ _ hx93'
     refine V 31 0 (run_index (t := 50) (x := (.tmp 26)) (y := (.tmp 28)) (b := b96) (o := o97) (E := 3) (s := 1) (by_ := 8) e69 e71 (by kernel_rfl) hi94) ?_
     refine V 32 3 (lx 3 31 0 1 false 1 (vi x92) (hs57.pers _ _ hF102) hc105) ?_
     refine V 5 3 (ma 30 (vi s55.1)) ?_
     refine V 6 3 (ma 32 (vi x92)) ?_
     refine Nss (Rg [0, 1, 2, 3, 4] ?_)
     refine V 33 3 (mv 3 (vi s4.1) e64) ?_
     refine V 34 3 (mv 5 (vi s55.1)) ?_
     refine V 35 27 (run_build2 (t := 27) (parts := #[(0, (.tmp 33)), (1, (.tmp 34))]) (vs := [(0, (vi s4.1)), (1, (vi s55.1))]) (rfl) (cs := [(vi s4.1), (vi s55.1)]) (by kernel_rfl)) ?_
     refine Al 7 0 27 #[(vi 0), (vi 0)] hs57 (fun b106 w107 (hs108 : HS wb Fb w107 F4 ((sb b106 #[(vi 0), (vi 0)] 27) :: (sb b47 (kTrack x33 ae45_2 ne45_2 (some ⟨b96, o97, none⟩) ne45_3) 54) :: Lf59)) => ?_)
     refine RWP.store (ty := 0) (g := none) (by kernel_rfl) rfl (x := (.tmp 7)) (y := (.tmp 35)) (t := 27) (gg := true) (s := 2) (v := (.agg #[(vi s4.1), (vi s55.1)])) (b := b106) (o := 0) (C := #[(vi 0), (vi 0)]) rfl rfl (by kernel_rfl) hs108 (k := 0) rfl rfl rfl rfl (C' := #[(vi s4.1), (vi s55.1)]) rfl (fun w109 (hs110 : HS wb Fb w109 F4 ((sb b106 #[(vi s4.1), (vi s55.1)] 27) :: (sb b47 (kTrack x33 ae45_2 ne45_2 (some ⟨b96, o97, none⟩) ne45_3) 54) :: Lf59)) => ?_)
     refine Nss ?_
     obtain ⟨j116, hj131, h132⟩ := bind_some h95
     refine CWP.regionD (by kernel_rfl) (by kernel_rfl) (by kernel_rfl) (by kernel_rfl) (z := 26) (F := F4) (Lc := [(sb b106 #[(vi s4.1), (vi s55.1)] 27), (sb b47 (kTrack x33 ae45_2 ne45_2 (some ⟨b96, o97, none⟩) ne45_3) 54)]) (Lz := []) (l := [false, false, false, false, false, false, false, false, false, false, false, false, false, false, false, false, false, false, false, false, false, false, false, false, false, false]) (fuel := 26) (by kernel_rfl) (by kernel_rfl) hs110 (by simp) (by simp) (fun f w => ∃ (F6 : Mem) (Lf117 : Own), HS wb Fb w F6 ((sb b47 (kTrack x33 ae45_2 ne45_2 (some ⟨b96, o97, none⟩) ne45_3) 54) :: Lf117) ∧ Mem.le F4 F6 ∧ f.d = [] ∧ f 0 = (.func (.yield l) #[] #[]) ∧ f 1 = (.pointer (some ⟨bz0, 0, none⟩)) ∧ f 3 = (vi s4.1) ∧ f 4 = (.pointer (some ⟨b47, 0, none⟩)) ∧ f 18 = (.slice (some ⟨b37, o38, none⟩) z0.Tracks.length nz0_0) ∧ f 19 = (vi (z0.Tracks.length : Int)) ∧ f 20 = (vi s4.1) ∧ f 26 = (.slice (some ⟨b96, o97, none⟩) x33.Times.length ne45_3) ∧ f 27 = (vi (x33.Times.length : Int)) ∧ f 28 = (vi s55.1) ∧ f 61 = (.bool j116.1) ∧ J j116.2 F6 Lf117) (fun wd111 hw112 => ?_) ?_
     ·refine Dtl 0 36 134 _ [tt, ff, ff, ff, ff, ff, ff, ff, ff, ff, ff, ff, ff, ff, ff, ff, ff, ff, ff, ff, ff, ff, ff, ff, ff, ff] (fun _ hq => mv 0 (.func (.yield l) #[] #[]) e62) ?_
      refine Dtl 2 38 27 _ [tt, ff, tt, ff, ff, ff, ff, ff, ff, ff, ff, ff, ff, ff, ff, ff, ff, ff, ff, ff, ff, ff, ff, ff, ff, ff] (fun _ hq => ld 27 7 b106 0 true 2 (.agg #[(vi s4.1), (vi s55.1)]) (hq.1.2 0 _ _ rfl)) ?_
      refine Dtl 3 39 3 _ [tt, ff, tt, tt, ff, ff, ff, ff, ff, ff, ff, ff, ff, ff, ff, ff, ff, ff, ff, ff, ff, ff, ff, ff, ff, ff] (fun _ hq => mv 6 (vi x92)) ?_
      refine Dtl 4 40 0 (.pointer (some ⟨b47, 0, none⟩)) [tt, ff, tt, tt, tt, ff, ff, ff, ff, ff, ff, ff, ff, ff, ff, ff, ff, ff, ff, ff, ff, ff, ff, ff, ff, ff] (fun _ hq => fa 54 4 0 0 3 b47 0 0 e65) ?_
      refine Dtl 5 41 0 (.pointer (some ⟨b47, 0, none⟩)) [tt, ff, tt, tt, tt, tt, ff, ff, ff, ff, ff, ff, ff, ff, ff, ff, ff, ff, ff, ff, ff, ff, ff, ff, ff, ff] (fun _ hq => fa 52 40 0 0 1 b47 0 0) ?_
      refine Dtl 6 42 3 _ [tt, ff, tt, tt, tt, tt, tt, ff, ff, ff, ff, ff, ff, ff, ff, ff, ff, ff, ff, ff, ff, ff, ff, ff, ff, ff] (fun _ hq => ld 3 41 b47 0 false 1 (vi x33.Clock.Slip) (hq.1.2 1 _ _ rfl)) ?_
      refine Dtl 7 43 3 (vi (W64 (x92 + x33.Clock.Slip))) [tt, ff, tt, tt, tt, tt, tt, tt, ff, ff, ff, ff, ff, ff, ff, ff, ff, ff, ff, ff, ff, ff, ff, ff, ff, ff] (fun _ hq => run_add (t := 3) (t' := 3) (x := (.tmp 39)) (y := (.tmp 42)) (k := .i64) (a := x92) (b := x33.Clock.Slip) rfl rfl) ?_
      refine Dtl 8 44 3 _ [tt, ff, tt, tt, tt, tt, tt, tt, tt, ff, ff, ff, ff, ff, ff, ff, ff, ff, ff, ff, ff, ff, ff, ff, ff, ff] (fun _ hq => mv 5 (vi s55.1)) ?_
      refine DWP.one (i := 1) (by kernel_rfl) ?_
      obtain ⟨r133, hr134, h135⟩ := bind_some hj131
      refine DStep.call (l' := [true, true, true, true, true, true, true, true, true, false, false, false, false, false, false, false, false, false, false, false, false, false, false, false, false, false]) (zd := true) (by kernel_rfl) (by kernel_rfl) (by kernel_rfl) (dst := (some 37)) (ty := 27) (g := none) (by kernel_rfl) rfl (f0 := (.func 108)) (aos := #[]) (ats := #[]) (fid := 108) (first := #[]) (cap := #[]) (args := []) rfl co_clocks_beginning (rfl) hw112 (c_clocks_beginning N wd111 F4 hw112.pers  _ hr134) ?_
      intro v136 F7 w137 hs138 le139 hp140
      obtain rfl := hp140
      refine Dtl 9 45 103 (.agg #[(vi r133.Log), (vi r133.Line), (vi s4.1), (vi s55.1), (vi (W64 (x92 + x33.Clock.Slip))), (vi 1), (vi s55.1)]) [tt, tt, tt, tt, tt, tt, tt, tt, tt, tt, ff, ff, ff, ff, ff, ff, ff, ff, ff, ff, ff, ff, ff, ff, ff, ff] (fun _ hq => run_build2 (t := 103) (parts := #[(0, (.tmp 37)), (1, (.tmp 38)), (2, (.tmp 43)), (3, (.const (vi 1))), (4, (.tmp 44))]) (vs := [(0, (.agg (kRef r133))), (1, (.agg #[(vi s4.1), (vi s55.1)])), (2, (vi (W64 (x92 + x33.Clock.Slip)))), (3, (vi 1)), (4, (vi s55.1))]) (rfl) (cs := [(vi r133.Log), (vi r133.Line), (vi s4.1), (vi s55.1), (vi (W64 (x92 + x33.Clock.Slip))), (vi 1), (vi s55.1)]) (by kernel_rfl)) ?_
      refine DWP.one (i := 10) (by kernel_rfl) ?_
      obtain ⟨q141, hq142, h143⟩ := bind_some h135
      refine DStep.yield (l' := [true, true, true, true, true, true, true, true, true, true, true, false, false, false, false, false, false, false, false, false, false, false, false, false, false, false]) (zd := true) (by kernel_rfl) (by kernel_rfl) (dst := (some 46)) (ty := 4) (g := none) (by kernel_rfl) rfl (f0 := (.tmp 36)) (aos := #[(.tmp 45)]) (ats := #[103]) (l := l) (args := [(.agg #[(vi r133.Log), (vi r133.Line), (vi s4.1), (vi s55.1), (vi (W64 (x92 + x33.Clock.Slip))), (vi 1), (vi s55.1)])]) rfl (rfl) (hY s55.2 ({ From := r133, To := ({ Log := s4.1, Line := s55.1 } : Ref), Most := (W64 (x92 + x33.Clock.Slip)), Kind := 1, ID := s55.1 } : Bound) w137 F7 [(sb b106 #[(vi s4.1), (vi s55.1)] 27), (sb b47 (kTrack x33 ae45_2 ne45_2 (some ⟨b96, o97, none⟩) ne45_3) 54)] Lf59 q141 ((le7.trans le58).trans le139) trivial (hJm _ _ _ _ hJ60 le139) hs138 hq142) ?_
      rintro _ w144 ⟨F8, Lf148, rfl, hs145, le146, hJ147⟩
      have hs149 : HS wb Fb w144 F8 ((sb b106 #[(vi s4.1), (vi s55.1)] 27) :: (sb b47 (kTrack x33 ae45_2 ne45_2 (some ⟨b96, o97, none⟩) ne45_3) 54) :: Lf148) := hs145
      refine ⟨_, rfl, dz_of hs149 (le139.trans le146) (by simp) (fun e => by cases e), ?_⟩
      refine Dtl 11 47 4 (.bool (!q141.1)) [tt, tt, tt, tt, tt, tt, tt, tt, tt, tt, tt, tt, ff, ff, ff, ff, ff, ff, ff, ff, ff, ff, ff, ff, ff, ff] (fun _ hq => run_not (t := 4) (x := (.tmp 46)) (a := q141.1) rfl) ?_
      refine Dtl 12 48 4 _ [tt, tt, tt, tt, tt, tt, tt, tt, tt, tt, tt, tt, tt, ff, ff, ff, ff, ff, ff, ff, ff, ff, ff, ff, ff, ff] (fun _ hq => mv 47 (.bool (!q141.1))) ?_
      refine DWP.split (!q141.1) (fun hb150 => ?_) (fun hb150 => ?_)
      ·have h151 := cond_t h143 hb150
       refine Dkl [(13, 49), (14, 50), (15, 51), (16, 52), (17, 53), (18, 54)] 12 false 48 hb150 [tt, tt, tt, tt, tt, tt, tt, tt, tt, tt, tt, tt, tt, tt, tt, tt, tt, tt, tt, ff, ff, ff, ff, ff, ff, ff] ?_
       refine Dkl [(19, 55), (20, 56), (21, 57), (22, 58), (23, 59), (24, 60)] 12 false 48 hb150 [tt, tt, tt, tt, tt, tt, tt, tt, tt, tt, tt, tt, tt, tt, tt, tt, tt, tt, tt, tt, tt, tt, tt, tt, tt, ff] ?_
       refine Dtl 25 61 4 _ [tt, tt, tt, tt, tt, tt, tt, tt, tt, tt, tt, tt, tt, tt, tt, tt, tt, tt, tt, tt, tt, tt, tt, tt, tt, tt] (fun _ hq => p1 48 (.const (.bool true)) (.tmp 60) (.bool true) hb150) ?_
       obtain rfl := some_inj h151
       have hs152 : HS wb Fb w144 F8 ((sb b47 (kTrack x33 ae45_2 ne45_2 (some ⟨b96, o97, none⟩) ne45_3) 54) :: Lf148) := hs149.drop 0
       exact DWP.done (by kernel_rfl) ⟨F8, Lf148, hs152, (le139.trans le146), e61, e62, e63, e64, e65, e66, e67, e68, e69, e70, e71, rfl, hJ147⟩
      ·have h153 := cond_f h143 hb150
       refine Dgl 13 49 134 _ [tt, tt, tt, tt, tt, tt, tt, tt, tt, tt, tt, tt, tt, tt, ff, ff, ff, ff, ff, ff, ff, ff, ff, ff, ff, ff] 12 false 48 hb150 (fun _ hq => mv 0 (.func (.yield l) #[] #[]) e62) ?_
       refine Dgl 14 50 27 _ [tt, tt, tt, tt, tt, tt, tt, tt, tt, tt, tt, tt, tt, tt, tt, ff, ff, ff, ff, ff, ff, ff, ff, ff, ff, ff] 12 false 48 hb150 (fun _ hq => ld 27 7 b106 0 true 2 (.agg #[(vi s4.1), (vi s55.1)]) (hq.1.2 0 _ _ rfl)) ?_
       refine Dgl 16 52 0 (.pointer (some ⟨b47, 0, none⟩)) [tt, tt, tt, tt, tt, tt, tt, tt, tt, tt, tt, tt, tt, tt, tt, ff, tt, ff, ff, ff, ff, ff, ff, ff, ff, ff] 12 false 48 hb150 (fun _ hq => fa 54 4 0 0 3 b47 0 0 e65) ?_
       refine Dgl 17 53 0 (.pointer (some ⟨b47, 0, none⟩)) [tt, tt, tt, tt, tt, tt, tt, tt, tt, tt, tt, tt, tt, tt, tt, ff, tt, tt, ff, ff, ff, ff, ff, ff, ff, ff] 12 false 48 hb150 (fun _ hq => fa 52 52 0 0 1 b47 0 0) ?_
       refine Dgl 18 54 3 _ [tt, tt, tt, tt, tt, tt, tt, tt, tt, tt, tt, tt, tt, tt, tt, ff, tt, tt, tt, ff, ff, ff, ff, ff, ff, ff] 12 false 48 hb150 (fun _ hq => ld 3 53 b47 0 false 1 (vi x33.Clock.Slip) (hq.1.2 1 _ _ rfl)) ?_
       refine Dgl 19 55 3 _ [tt, tt, tt, tt, tt, tt, tt, tt, tt, tt, tt, tt, tt, tt, tt, ff, tt, tt, tt, tt, ff, ff, ff, ff, ff, ff] 12 false 48 hb150 (fun _ hq => mv 6 (vi x92)) ?_
       refine Dgl 20 56 3 (vi (W64 (x33.Clock.Slip - x92))) [tt, tt, tt, tt, tt, tt, tt, tt, tt, tt, tt, tt, tt, tt, tt, ff, tt, tt, tt, tt, tt, ff, ff, ff, ff, ff] 12 false 48 hb150 (fun _ hq => run_sub (t := 3) (t' := 3) (x := (.tmp 54)) (y := (.tmp 55)) (k := .i64) (a := x33.Clock.Slip) (b := x92) rfl rfl) ?_
       refine Dgl 21 57 3 _ [tt, tt, tt, tt, tt, tt, tt, tt, tt, tt, tt, tt, tt, tt, tt, ff, tt, tt, tt, tt, tt, tt, ff, ff, ff, ff] 12 false 48 hb150 (fun _ hq => mv 5 (vi s55.1)) ?_
       refine DWP.one (i := 15) (by kernel_rfl) ?_
       obtain ⟨r154, hr155, h156⟩ := bind_some h153
       refine DStep.call (l' := [true, true, true, true, true, true, true, true, true, true, true, true, true, true, true, true, true, true, true, true, true, true, false, false, false, false]) (zd := true) (by kernel_rfl) (by kernel_rfl) (by kernel_rfl) (dst := (some 51)) (ty := 27) (g := (some (12, false))) (by kernel_rfl) (gd_y (d := 48) (by kernel_rfl) rfl hb150) (f0 := (.func 108)) (aos := #[]) (ats := #[]) (fid := 108) (first := #[]) (cap := #[]) (args := []) rfl co_clocks_beginning (rfl) hs149 (c_clocks_beginning N w144 F8 hs149.pers  _ hr155) ?_
       intro v157 F9 w158 hs159 le160 hp161
       obtain rfl := hp161
       refine Dgl 22 58 103 (.agg #[(vi s4.1), (vi s55.1), (vi r154.Log), (vi r154.Line), (vi (W64 (x33.Clock.Slip - x92))), (vi 1), (vi s55.1)]) [tt, tt, tt, tt, tt, tt, tt, tt, tt, tt, tt, tt, tt, tt, tt, tt, tt, tt, tt, tt, tt, tt, tt, ff, ff, ff] 12 false 48 hb150 (fun _ hq => run_build2 (t := 103) (parts := #[(0, (.tmp 50)), (1, (.tmp 51)), (2, (.tmp 56)), (3, (.const (vi 1))), (4, (.tmp 57))]) (vs := [(0, (.agg #[(vi s4.1), (vi s55.1)])), (1, (.agg (kRef r154))), (2, (vi (W64 (x33.Clock.Slip - x92)))), (3, (vi 1)), (4, (vi s55.1))]) (rfl) (cs := [(vi s4.1), (vi s55.1), (vi r154.Log), (vi r154.Line), (vi (W64 (x33.Clock.Slip - x92))), (vi 1), (vi s55.1)]) (by kernel_rfl)) ?_
       refine DWP.one (i := 23) (by kernel_rfl) ?_
       obtain ⟨q162, hq163, h164⟩ := bind_some h156
       refine DStep.yield (l' := [true, true, true, true, true, true, true, true, true, true, true, true, true, true, true, true, true, true, true, true, true, true, true, true, false, false]) (zd := true) (by kernel_rfl) (by kernel_rfl) (dst := (some 59)) (ty := 4) (g := (some (12, false))) (by kernel_rfl) (gd_y (d := 48) (by kernel_rfl) rfl hb150) (f0 := (.tmp 49)) (aos := #[(.tmp 58)]) (ats := #[103]) (l := l) (args := [(.agg #[(vi s4.1), (vi s55.1), (vi r154.Log), (vi r154.Line), (vi (W64 (x33.Clock.Slip - x92))), (vi 1), (vi s55.1)])]) rfl (rfl) (hY q141.2 ({ From := ({ Log := s4.1, Line := s55.1 } : Ref), To := r154, Most := (W64 (x33.Clock.Slip - x92)), Kind := 1, ID := s55.1 } : Bound) w158 F9 [(sb b106 #[(vi s4.1), (vi s55.1)] 27), (sb b47 (kTrack x33 ae45_2 ne45_2 (some ⟨b96, o97, none⟩) ne45_3) 54)] Lf148 q162 ((((le7.trans le58).trans le139).trans le146).trans le160) trivial (hJm _ _ _ _ hJ147 le160) hs159 hq163) ?_
       rintro _ w165 ⟨F10, Lf169, rfl, hs166, le167, hJ168⟩
       have hs170 : HS wb Fb w165 F10 ((sb b106 #[(vi s4.1), (vi s55.1)] 27) :: (sb b47 (kTrack x33 ae45_2 ne45_2 (some ⟨b96, o97, none⟩) ne45_3) 54) :: Lf169) := hs166
       refine ⟨_, rfl, dz_of hs170 (((le139.trans le146).trans le160).trans le167) (by simp) (fun e => by cases e), ?_⟩
       refine Dgl 24 60 4 (.bool (!q162.1)) [tt, tt, tt, tt, tt, tt, tt, tt, tt, tt, tt, tt, tt, tt, tt, tt, tt, tt, tt, tt, tt, tt, tt, tt, tt, ff] 12 false 48 hb150 (fun _ hq => run_not (t := 4) (x := (.tmp 59)) (a := q162.1) rfl) ?_
       refine Dtl 25 61 4 _ [tt, tt, tt, tt, tt, tt, tt, tt, tt, tt, tt, tt, tt, tt, tt, tt, tt, tt, tt, tt, tt, tt, tt, tt, tt, tt] (fun _ hq => p0 48 (.const (.bool true)) (.tmp 60) (.bool (!q162.1)) hb150) ?_
       obtain rfl := some_inj h164
       have hs171 : HS wb Fb w165 F10 ((sb b47 (kTrack x33 ae45_2 ne45_2 (some ⟨b96, o97, none⟩) ne45_3) 54) :: Lf169) := hs170.drop 0
       exact DWP.done (by kernel_rfl) ⟨F10, Lf169, hs171, (((le139.trans le146).trans le160).trans le167), e61, e62, e63, e64, e65, e66, e67, e68, e69, e70, e71, rfl, hJ168⟩
     ·rintro f w113 ⟨F6, Lf117, hs114, le115, e119, e120, e121, e122, e123, e124, e125, e126, e127, e128, e129, e130, hJ118⟩
      refine thenQ_nrm ?_
      refine CWP.cond (t := j116.1) (by kernel_rfl) e130 (fun hb172 => ?_) (fun hb172 => ?_)
      ·have h173 := cond_t h132 hb172
       refine CWP.ret (by kernel_rfl) ?_
       refine blockQ_ret ?_
       refine thenQ_ret ?_
       refine thenQ_ret ?_
       refine blockQ_ret ?_
       have hret := iter_ret h173 hnx89
       subst hret
       refine .inr ?_
       refine blockQ_ret ?_
       refine thenQ_ret ?_
       refine thenQ_ret ?_
       refine blockQ_ret ?_
       have hret := iter_ret h54 hnx30
       subst hret
       refine .inr ?_
       refine thenQ_ret ?_
       have hs174 : HS wb Fb w113 F6 Lf117 := hs114.drop 0
       have hfin := some_inj h3
       subst hfin
       exact ⟨e119, .tuple #[], res_of (l := []) (by kernel_rfl) (vs := []) trivial, F6, Lf117, rfl, hs174, ((le7.trans le58).trans le115), hJ118⟩
      ·have h175 := cond_f h132 hb172
       refine Sc ?_
       refine blockQ_nrm ?_
       refine thenQ_nrm ?_
       refine Rg [0, 1] ?_
       refine V 62 3 (run_add (t := 3) (t' := 3) (x := (.tmp 28)) (y := (.const (vi 1))) (k := .i64) (a := s55.1) (b := 1) e129 rfl) ?_
       refine V 28 3 (mv 62 (vi (W64 (s55.1 + 1)))) ?_
       refine RWP.nil ?_
       have hn176 := iter_next h175 hnx89
       exact ⟨m86, Nat.lt_succ_self _, ((W64 (s55.1 + 1)), j116.2), F6, Lf117, hn176, hs114, (le58.trans le115), e119, e120, e121, e122, e123, e124, e125, e126, e127, e128, rfl, hJ118⟩
    ·have h177 := cond_f hb88 hb90
     refine CWP.exit (by kernel_rfl) ?_
     refine thenQ_ex ?_
     refine thenQ_ex ?_
     refine blockQ_hit rfl ?_
     have hs178 : HS wb Fb w56 F4 Lf59 := hs57.drop 0
     have ho179 := iter_done h177 hnx89
     exact .inl ⟨rfl, (s55.1, s55.2), F4, Lf59, ho179, hs178, le58, e61, e62, e63, e66, e67, e68, hJ60⟩
   ·rintro f w73 ⟨s72, F5, Lf76, rfl, hs74, le75, e78, e79, e80, e81, e82, e83, hJ77⟩
    have h180 := k_done h54
    refine blockQ_nrm ?_
    refine thenQ_nrm ?_
    refine Rg [0, 1] ?_
    refine V 63 3 (run_add (t := 3) (t' := 3) (x := (.tmp 20)) (y := (.const (vi 1))) (k := .i64) (a := s4.1) (b := 1) e83 rfl) ?_
    refine V 20 3 (mv 63 (vi (W64 (s4.1 + 1)))) ?_
    refine RWP.nil ?_
    have hn181 := iter_next h180 hnx30
    exact ⟨m27, Nat.lt_succ_self _, ((W64 (s4.1 + 1)), s72.2), F5, Lf76, hn181, hs74, (le7.trans le75), e78, e79, e80, e81, e82, rfl, hJ77⟩
  ·have h182 := cond_f hb29 hb31
   refine CWP.exit (by kernel_rfl) ?_
   refine thenQ_ex ?_
   refine thenQ_ex ?_
   refine blockQ_hit rfl ?_
   have ho183 := iter_done h182 hnx30
   exact .inl ⟨rfl, (s4.1, s4.2), F2, Lf8, ho183, hs6, le7, e10, e11, e12, hJ9⟩
 ·rintro f w17 ⟨s16, F3, Lf20, rfl, hs18, le19, e22, e23, e24, hJ21⟩
  have h184 := k_done h3
  refine thenQ_nrm ?_
  refine Sq ?_
  refine Sq (Rg [0, 1, 2, 3] ?_)
  refine V 64 0 (fa 25 1 0 0 1 bz0 0 0 e24) ?_
  refine V 65 22 (ld 22 64 bz0 0 false 1 (.slice az0_0 z0.Tracks.length nz0_0) (hs18.pers _ _ ((le01.trans le19) _ _ hz0))) ?_
  refine V 66 3 (ln 65 22 az0_0 z0.Tracks.length nz0_0 54 4 64) ?_
  refine V 67 3 (run_move (x := (.const (vi 0))) (v := (vi 0)) rfl) ?_
  refine Nt ?_
  obtain ⟨o185, ho186, h187⟩ := bind_some h184
  refine CWP.cut (fun f w => ∃ (s200 : (Int × σ)) (F12 : Mem) (Lf204 : Own), o185 = .done s200 ∧ HS wb Fb w F12 Lf204 ∧ Mem.le F3 F12 ∧ f.d = [] ∧ f 0 = (.func (.yield l) #[] #[]) ∧ f 1 = (.pointer (some ⟨bz0, 0, none⟩)) ∧ J s200.2 F12 Lf204) ?_ ?_
  ·refine Bk ?_
   refine CWP.loop (by kernel_rfl) (fun m f w => ∃ (s188 : (Int × σ)) (F11 : Mem) (Lf192 : Own), iter (clocks_bounds_1_L2 N y z0 s s16) m s188 = some o185 ∧ HS wb Fb w F11 Lf192 ∧ Mem.le F3 F11 ∧ f.d = [] ∧ f 0 = (.func (.yield l) #[] #[]) ∧ f 1 = (.pointer (some ⟨bz0, 0, none⟩)) ∧ f 65 = (.slice az0_0 z0.Tracks.length nz0_0) ∧ f 66 = (vi (z0.Tracks.length : Int)) ∧ f 67 = (vi s188.1) ∧ J s188.2 F11 Lf192) N ⟨(0, s16.2), F3, Lf20, ho186, hs18, (Mem.le.refl _), e22, e23, e24, rfl, rfl, rfl, hJ21⟩ ?_
   rintro m209 f w189 ⟨s188, F11, Lf192, hit210, hs190, le191, e194, e195, e196, e197, e198, e199, hJ193⟩
   obtain ⟨m211, fl212, rfl, hb213, hnx214⟩ := iter_step hit210
   refine Sq (Rg [0] ?_)
   refine V 68 0 (run_lss (t := 3) (t' := 3) (x := (.tmp 67)) (y := (.tmp 66)) (k := .i64) (a := s188.1) (b := (z0.Tracks.length : Int)) e199 e198) ?_
   refine Nss ?_
   refine CWP.cond (t := (decide (s188.1 < (z0.Tracks.length : Int)))) (by kernel_rfl) rfl (fun hb215 => ?_) (fun hb215 => ?_)
   ·have h216 := cond_t hb213 hb215
    refine Sc ?_
    refine thenQ_nrm ?_
    refine Sq ?_
    refine Bk ?_
    refine Sq (Rg [0, 1, 2, 3, 4, 5] ?_)
    refine V 69 3 (mv 67 (vi s188.1) e199) ?_
    obtain ⟨x217, hx218, h220⟩ := bind_some h216
    obtain ⟨hi219, hx218'⟩ := idx_spec hx218
    obtain ⟨b221, o222, C223, E224, fz225, rfl, hF227, hE228⟩ := SlA.open (SlA.mono hsz0_0 ((le01.trans le19).trans le191)) hx218'
    obtain ⟨ae229_2, ne229_2, ae229_3, ne229_3, hc230, hbe229_2, hse229_2, hbe229_3, hse229_3⟩ := hE228 _ _ hx218'
    refine V 70 0 (run_index (t := 22) (x := (.tmp 65)) (y := (.tmp 67)) (b := b221) (o := o222) (E := 54) (s := 4) (by_ := 64) e197 e199 (by kernel_rfl) hi219) ?_
    refine V 71 54 (lx 54 70 0 4 true 4 (.agg (kTrack x217 ae229_2 ne229_2 ae229_3 ne229_3)) (hs190.pers _ _ hF227) hc230) ?_
    refine Al 9 0 54 #[(vi 0), (vi 0), (.slice none ([] : List Int).length 0), (.slice none ([] : List Int).length 0)] hs190 (fun b231 w232 (hs233 : HS wb Fb w232 F11 ((sb b231 #[(vi 0), (vi 0), (.slice none ([] : List Int).length 0), (.slice none ([] : List Int).length 0)] 54) :: Lf192)) => ?_)
    refine V 8 3 (ma 69 (vi s188.1)) ?_
    refine RWP.store (ty := 0) (g := none) (by kernel_rfl) rfl (x := (.tmp 9)) (y := (.tmp 71)) (t := 54) (gg := true) (s := 4) (v := (.agg (kTrack x217 ae229_2 ne229_2 ae229_3 ne229_3))) (b := b231) (o := 0) (C := #[(vi 0), (vi 0), (.slice none ([] : List Int).length 0), (.slice none ([] : List Int).length 0)]) rfl rfl (by kernel_rfl) hs233 (k := 0) rfl rfl rfl rfl (C' := (kTrack x217 ae229_2 ne229_2 ae229_3 ne229_3)) rfl (fun w234 (hs235 : HS wb Fb w234 F11 ((sb b231 (kTrack x217 ae229_2 ne229_2 ae229_3 ne229_3) 54) :: Lf192)) => ?_)
    refine Nss (Rg [0] ?_)
    refine V 10 3 (mc (vi 0) (vi 0)) ?_
    refine Nt ?_
    obtain ⟨o236, ho237, h238⟩ := bind_some h220
    refine CWP.cut (fun f w => ∃ (s254 : (Int × σ)) (F14 : Mem) (Lf258 : Own), o236 = .done s254 ∧ HS wb Fb w F14 Lf258 ∧ Mem.le F11 F14 ∧ f.d = [] ∧ f 0 = (.func (.yield l) #[] #[]) ∧ f 1 = (.pointer (some ⟨bz0, 0, none⟩)) ∧ f 65 = (.slice (some ⟨b221, o222, none⟩) z0.Tracks.length nz0_0) ∧ f 66 = (vi (z0.Tracks.length : Int)) ∧ f 67 = (vi s188.1) ∧ J s254.2 F14 Lf258) ?_ ?_
    ·refine Bk ?_
     refine CWP.loop (by kernel_rfl) (fun m f w => ∃ (s239 : (Int × σ)) (F13 : Mem) (Lf243 : Own), iter (clocks_bounds_1_L3 N y z0 s s16 s188 x217) m s239 = some o236 ∧ HS wb Fb w F13 ((sb b231 (kTrack x217 ae229_2 ne229_2 ae229_3 ne229_3) 54) :: Lf243) ∧ Mem.le F11 F13 ∧ f.d = [] ∧ f 0 = (.func (.yield l) #[] #[]) ∧ f 1 = (.pointer (some ⟨bz0, 0, none⟩)) ∧ f 8 = (vi s188.1) ∧ f 9 = (.pointer (some ⟨b231, 0, none⟩)) ∧ f 10 = (vi s239.1) ∧ f 65 = (.slice (some ⟨b221, o222, none⟩) z0.Tracks.length nz0_0) ∧ f 66 = (vi (z0.Tracks.length : Int)) ∧ f 67 = (vi s188.1) ∧ J s239.2 F13 Lf243) N ⟨(0, s188.2), F11, Lf192, ho237, hs235, (Mem.le.refl _), e194, e195, e196, rfl, rfl, rfl, e197, e198, e199, hJ193⟩ ?_
     rintro m266 f w240 ⟨s239, F13, Lf243, hit267, hs241, le242, e245, e246, e247, e248, e249, e250, e251, e252, e253, hJ244⟩
     obtain ⟨m268, fl269, rfl, hb270, hnx271⟩ := iter_step hit267
     refine Sq ?_
     refine Sq (Rg [0, 1, 2, 3, 4, 5] ?_)
     refine V 72 3 (mv 10 (vi s239.1) e250) ?_
     refine V 73 3 (run_add (t := 3) (t' := 3) (x := (.tmp 72)) (y := (.const (vi 1))) (k := .i64) (a := s239.1) (b := 1) rfl rfl) ?_
     refine V 74 0 (fa 54 9 1 3 1 b231 0 3 e249) ?_
     refine V 75 50 (ld 50 74 b231 3 false 1 (.slice ae229_3 x217.Times.length ne229_3) (hs241.ownAt (k := 0) rfl)) ?_
     refine V 76 3 (ln 75 50 ae229_3 x217.Times.length ne229_3 3 1 8) ?_
     refine V 77 4 (run_lss (t := 3) (t' := 3) (x := (.tmp 73)) (y := (.tmp 76)) (k := .i64) (a := (W64 (s239.1 + 1))) (b := (x217.Times.length : Int)) rfl rfl) ?_
     refine Nt ?_
     refine CWP.cond (t := (decide ((W64 (s239.1 + 1)) < (x217.Times.length : Int)))) (by kernel_rfl) rfl (fun hb272 => ?_) (fun hb272 => ?_)
     ·have h273 := cond_t hb270 hb272
      refine Sc ?_
      refine thenQ_nrm ?_
      refine Sq ?_
      refine Bk ?_
      refine Sq (Rg [0, 1, 2, 3, 4, 5, 6, 7, 8, 9, 10] ?_)
      refine V 80 3 (mv 8 (vi s188.1) e248) ?_
      refine V 81 3 (mv 10 (vi s239.1) e250) ?_
      refine V 82 27 (run_build2 (t := 27) (parts := #[(0, (.tmp 80)), (1, (.tmp 81))]) (vs := [(0, (vi s188.1)), (1, (vi s239.1))]) (rfl) (cs := [(vi s188.1), (vi s239.1)]) (by kernel_rfl)) ?_
      refine V 83 3 (mv 8 (vi s188.1) e248) ?_
      refine V 84 3 (mv 10 (vi s239.1) e250) ?_
      refine V 85 3 (run_add (t := 3) (t' := 3) (x := (.tmp 84)) (y := (.const (vi 1))) (k := .i64) (a := s239.1) (b := 1) rfl rfl) ?_
      refine V 86 27 (run_build2 (t := 27) (parts := #[(0, (.tmp 83)), (1, (.tmp 85))]) (vs := [(0, (vi s188.1)), (1, (vi (W64 (s239.1 + 1))))]) (rfl) (cs := [(vi s188.1), (vi (W64 (s239.1 + 1)))]) (by kernel_rfl)) ?_
      refine Al 11 0 27 #[(vi 0), (vi 0)] hs241 (fun b274 w275 (hs276 : HS wb Fb w275 F13 ((sb b274 #[(vi 0), (vi 0)] 27) :: (sb b231 (kTrack x217 ae229_2 ne229_2 ae229_3 ne229_3) 54) :: Lf243)) => ?_)
      refine Al 12 0 27 #[(vi 0), (vi 0)] hs276 (fun b277 w278 (hs279 : HS wb Fb w278 F13 ((sb b277 #[(vi 0), (vi 0)] 27) :: (sb b274 #[(vi 0), (vi 0)] 27) :: (sb b231 (kTrack x217 ae229_2 ne229_2 ae229_3 ne229_3) 54) :: Lf243)) => ?_)
      refine RWP.store (ty := 0) (g := none) (by kernel_rfl) rfl (x := (.tmp 11)) (y := (.tmp 82)) (t := 27) (gg := true) (s := 2) (v := (.agg #[(vi s188.1), (vi s239.1)])) (b := b274) (o := 0) (C := #[(vi 0), (vi 0)]) rfl rfl (by kernel_rfl) hs279 (k := 1) rfl rfl rfl rfl (C' := #[(vi s188.1), (vi s239.1)]) rfl (fun w280 (hs281 : HS wb Fb w280 F13 ((sb b277 #[(vi 0), (vi 0)] 27) :: (sb b274 #[(vi s188.1), (vi s239.1)] 27) :: (sb b231 (kTrack x217 ae229_2 ne229_2 ae229_3 ne229_3) 54) :: Lf243)) => ?_)
      refine RWP.store (ty := 0) (g := none) (by kernel_rfl) rfl (x := (.tmp 12)) (y := (.tmp 86)) (t := 27) (gg := true) (s := 2) (v := (.agg #[(vi s188.1), (vi (W64 (s239.1 + 1)))])) (b := b277) (o := 0) (C := #[(vi 0), (vi 0)]) rfl rfl (by kernel_rfl) hs281 (k := 0) rfl rfl rfl rfl (C' := #[(vi s188.1), (vi (W64 (s239.1 + 1)))]) rfl (fun w282 (hs283 : HS wb Fb w282 F13 ((sb b277 #[(vi s188.1), (vi (W64 (s239.1 + 1)))] 27) :: (sb b274 #[(vi s188.1), (vi s239.1)] 27) :: (sb b231 (kTrack x217 ae229_2 ne229_2 ae229_3 ne229_3) 54) :: Lf243)) => ?_)
      refine Nss ?_
      refine Sq (Rg [0, 1, 2, 3, 4, 5, 6] ?_)
      refine V 87 134 (mv 0 (.func (.yield l) #[] #[]) e246) ?_
      refine V 88 27 (ld 27 12 b277 0 true 2 (.agg #[(vi s188.1), (vi (W64 (s239.1 + 1)))]) (hs283.ownAt (k := 0) rfl)) ?_
      refine V 89 27 (ld 27 11 b274 0 true 2 (.agg #[(vi s188.1), (vi s239.1)]) (hs283.ownAt (k := 1) rfl)) ?_
      refine V 90 3 (mv 10 (vi s239.1) e250) ?_
      refine V 91 103 (run_build2 (t := 103) (parts := #[(0, (.tmp 88)), (1, (.tmp 89)), (3, (.const (vi 2))), (4, (.tmp 90))]) (vs := [(0, (.agg #[(vi s188.1), (vi (W64 (s239.1 + 1)))])), (1, (.agg #[(vi s188.1), (vi s239.1)])), (3, (vi 2)), (4, (vi s239.1))]) (rfl) (cs := [(vi s188.1), (vi (W64 (s239.1 + 1))), (vi s188.1), (vi s239.1), (vi 0), (vi 2), (vi s239.1)]) (by kernel_rfl)) ?_
      obtain ⟨q284, hq285, h286⟩ := bind_some h273
      refine RWP.yield (dst := (some 92)) (ty := 4) (g := none) (by kernel_rfl) rfl (f0 := (.tmp 87)) (aos := #[(.tmp 91)]) (ats := #[103]) (l := l) (args := [(.agg #[(vi s188.1), (vi (W64 (s239.1 + 1))), (vi s188.1), (vi s239.1), (vi 0), (vi 2), (vi s239.1)])]) rfl (rfl) (hY s239.2 ({ From := ({ Log := s188.1, Line := (W64 (s239.1 + 1)) } : Ref), To := ({ Log := s188.1, Line := s239.1 } : Ref), Most := 0, Kind := 2, ID := s239.1 } : Bound) w282 F13 [(sb b277 #[(vi s188.1), (vi (W64 (s239.1 + 1)))] 27), (sb b274 #[(vi s188.1), (vi s239.1)] 27), (sb b231 (kTrack x217 ae229_2 ne229_2 ae229_3 ne229_3) 54)] Lf243 q284 ((le19.trans le191).trans le242) trivial hJ244 hs283 hq285) ?_
      rintro _ w287 ⟨F15, Lf291, rfl, hs288, le289, hJ290⟩
      have hs292 : HS wb Fb w287 F15 ((sb b277 #[(vi s188.1), (vi (W64 (s239.1 + 1)))] 27) :: (sb b274 #[(vi s188.1), (vi s239.1)] 27) :: (sb b231 (kTrack x217 ae229_2 ne229_2 ae229_3 ne229_3) 54) :: Lf291) := hs288
      refine ⟨_, rfl, ?_⟩
      refine V 93 4 (run_not (t := 4) (x := (.tmp 92)) (a := q284.1) rfl) ?_
      refine Nt ?_
      refine CWP.cond (t := (!q284.1)) (by kernel_rfl) rfl (fun hb293 => ?_) (fun hb293 => ?_)
      ·have h294 := cond_t h286 hb293
       refine CWP.ret (by kernel_rfl) ?_
       refine thenQ_ret ?_
       refine blockQ_ret ?_
       refine thenQ_ret ?_
       refine thenQ_ret ?_
       refine blockQ_ret ?_
       have hret := iter_ret h294 hnx271
       subst hret
       refine .inr ?_
       refine blockQ_ret ?_
       refine thenQ_ret ?_
       refine thenQ_ret ?_
       refine blockQ_ret ?_
       have hret := iter_ret h238 hnx214
       subst hret
       refine .inr ?_
       refine thenQ_ret ?_
       have hs295 : HS wb Fb w287 F15 ((sb b274 #[(vi s188.1), (vi s239.1)] 27) :: (sb b231 (kTrack x217 ae229_2 ne229_2 ae229_3 ne229_3) 54) :: Lf291) := hs292.drop 0
       have hs296 : HS wb Fb w287 F15 ((sb b231 (kTrack x217 ae229_2 ne229_2 ae229_3 ne229_3) 54) :: Lf291) := hs295.drop 0
       have hs297 : HS wb Fb w287 F15 Lf291 := hs296.drop 0
       have hfin := some_inj h187
       subst hfin
       exact ⟨e245, .tuple #[], res_of (l := []) (by kernel_rfl) (vs := []) trivial, F15, Lf291, rfl, hs297, (((le19.trans le191).trans le242).trans le289), hJ290⟩
      ·have h298 := cond_f h286 hb293
       refine Sc ?_
       refine thenQ_nrm ?_
       refine Sq ?_
       refine Sq ?_
       obtain ⟨j304, hj317, h318⟩ := bind_some h298
       refine CWP.regionD (by kernel_rfl) (by kernel_rfl) (by kernel_rfl) (by kernel_rfl) (z := 18) (F := F15) (Lc := [(sb b277 #[(vi s188.1), (vi (W64 (s239.1 + 1)))] 27), (sb b274 #[(vi s188.1), (vi s239.1)] 27), (sb b231 (kTrack x217 ae229_2 ne229_2 ae229_3 ne229_3) 54)]) (Lz := []) (l := [false, false, false, false, false, false, false, false, false, false, false, false, false, false, false, false, false, false]) (fuel := 18) (by kernel_rfl) (by kernel_rfl) hs292 (by simp) (by simp) (fun f w => ∃ (F16 : Mem), HS wb Fb w F16 ((sb b277 #[(vi s188.1), (vi (W64 (s239.1 + 1)))] 27) :: (sb b274 #[(vi s188.1), (vi s239.1)] 27) :: (sb b231 (kTrack x217 ae229_2 ne229_2 ae229_3 ne229_3) 54) :: Lf291) ∧ Mem.le F15 F16 ∧ f.d = [] ∧ f 0 = (.func (.yield l) #[] #[]) ∧ f 1 = (.pointer (some ⟨bz0, 0, none⟩)) ∧ f 8 = (vi s188.1) ∧ f 9 = (.pointer (some ⟨b231, 0, none⟩)) ∧ f 10 = (vi s239.1) ∧ f 11 = (.pointer (some ⟨b274, 0, none⟩)) ∧ f 12 = (.pointer (some ⟨b277, 0, none⟩)) ∧ f 65 = (.slice (some ⟨b221, o222, none⟩) z0.Tracks.length nz0_0) ∧ f 66 = (vi (z0.Tracks.length : Int)) ∧ f 67 = (vi s188.1) ∧ f 111 = (.bool j304)) (fun wd299 hw300 => ?_) ?_
       ·refine Dt 0 94 0 (.pointer (some ⟨b231, 0, none⟩)) (fun _ hq => fa 54 9 0 0 3 b231 0 0 e249) ?_
        refine Dt 1 95 52 _ (fun _ hq => ld 52 94 b231 0 true 3 (.agg (kClock x217.Clock ae229_2 ne229_2)) (hq.1.2 2 _ _ rfl)) ?_
        refine Dt 2 96 0 (.pointer (some ⟨b231, 3, none⟩)) (fun _ hq => fa 54 9 1 3 1 b231 0 3 e249) ?_
        refine Dt 3 97 50 _ (fun _ hq => ld 50 96 b231 3 false 1 (.slice ae229_3 x217.Times.length ne229_3) (hq.1.2 2 _ _ rfl)) ?_
        refine Dt 4 98 3 _ (fun _ hq => mv 10 (vi s239.1) e250) ?_
        obtain ⟨x319, hx320, h322⟩ := bind_some hj317
        obtain ⟨hi321, hx320'⟩ := idx_spec hx320
        obtain ⟨b323, o324, C325, E326, fz327, rfl, hF329, hE330⟩ := SlA.open (SlA.mono hse229_3 (le242.trans le289)) hx320'
        have hc332 := hE330 _ _ hx320'
        refine Dt 5 99 0 (.pointer (some ⟨b323, (o324 + (s239.1 : Int).toNat * 1), none⟩)) (fun _ hq => ix 50 97 98 b323 o324 3 1 8 hi321) ?_
        refine Dt 6 100 3 _ (fun _ hq => lx 3 99 0 1 false 1 (vi x319) (hq.1.1 _ _ hF329) hc332) ?_
        refine Dt 8 102 0 (.pointer (some ⟨b231, 0, none⟩)) (fun _ hq => fa 54 9 0 0 3 b231 0 0 e249) ?_
        refine Dt 9 103 52 _ (fun _ hq => ld 52 102 b231 0 true 3 (.agg (kClock x217.Clock ae229_2 ne229_2)) (hq.1.2 2 _ _ rfl)) ?_
        refine Dt 10 104 0 (.pointer (some ⟨b231, 3, none⟩)) (fun _ hq => fa 54 9 1 3 1 b231 0 3 e249) ?_
        refine Dt 11 105 50 _ (fun _ hq => ld 50 104 b231 3 false 1 (.slice (some ⟨b323, o324, none⟩) x217.Times.length ne229_3) (hq.1.2 2 _ _ rfl)) ?_
        refine Dt 12 106 3 _ (fun _ hq => mv 10 (vi s239.1) e250) ?_
        refine Dt 13 107 3 (vi (W64 (s239.1 + 1))) (fun _ hq => run_add (t := 3) (t' := 3) (x := (.tmp 106)) (y := (.const (vi 1))) (k := .i64) (a := s239.1) (b := 1) rfl rfl) ?_
        obtain ⟨x333, hx334, h336⟩ := bind_some h322
        obtain ⟨hi335, hx334'⟩ := idx_spec hx334
        have hc338 := hE330 _ _ hx334'
        refine Dt 14 108 0 (.pointer (some ⟨b323, (o324 + ((W64 (s239.1 + 1)) : Int).toNat * 1), none⟩)) (fun _ hq => ix 50 105 107 b323 o324 3 1 8 hi335) ?_
        refine Dt 15 109 3 _ (fun _ hq => lx 3 108 0 1 false 1 (vi x333) (hq.1.1 _ _ hF329) hc338) ?_
        refine DWP.one (i := 7) (by kernel_rfl) ?_
        obtain ⟨r339, hr340, h341⟩ := bind_some h336
        refine DStep.call (l' := [true, true, true, true, true, true, true, true, true, true, true, true, true, true, true, true, false, false]) (zd := true) (by kernel_rfl) (by kernel_rfl) (by kernel_rfl) (dst := (some 101)) (ty := 3) (g := none) (by kernel_rfl) rfl (f0 := (.func 82)) (aos := #[(.tmp 95), (.tmp 100)]) (ats := #[52, 3]) (fid := 82) (first := #[]) (cap := #[]) (args := [(.agg (kClock x217.Clock ae229_2 ne229_2)), (vi x319)]) rfl co_clocks_segment (rfl) hw300 (c_clocks_segment N wd299 F15 hw300.pers (x217.Clock) ae229_2 ne229_2 hbe229_2 (SlA.mono hse229_2 (le242.trans le289)) (x319) _ hr340) ?_
        intro v342 F17 w343 hs344 le345 hp346
        obtain rfl := hp346
        refine DWP.one (i := 16) (by kernel_rfl) ?_
        obtain ⟨r347, hr348, h349⟩ := bind_some h341
        refine DStep.call (l' := [true, true, true, true, true, true, true, true, true, true, true, true, true, true, true, true, true, false]) (zd := true) (by kernel_rfl) (by kernel_rfl) (by kernel_rfl) (dst := (some 110)) (ty := 3) (g := none) (by kernel_rfl) rfl (f0 := (.func 82)) (aos := #[(.tmp 103), (.tmp 109)]) (ats := #[52, 3]) (fid := 82) (first := #[]) (cap := #[]) (args := [(.agg (kClock x217.Clock ae229_2 ne229_2)), (vi x333)]) rfl co_clocks_segment (rfl) hs344 (c_clocks_segment N w343 F17 hs344.pers (x217.Clock) ae229_2 ne229_2 hbe229_2 (SlA.mono hse229_2 ((le242.trans le289).trans le345)) (x333) _ hr348) ?_
        intro v350 F18 w351 hs352 le353 hp354
        obtain rfl := hp354
        refine Dt 17 111 4 (.bool (r339 != r347)) (fun _ hq => run_neq (t := 3) (t' := 3) (x := (.tmp 101)) (y := (.tmp 110)) (k := .i64) (a := r339) (b := r347) rfl rfl) ?_
        obtain rfl := some_inj h349
        exact DWP.done (by kernel_rfl) ⟨F18, hs352, (le345.trans le353), e245, e246, e247, e248, e249, e250, rfl, rfl, e251, e252, e253, rfl⟩
       ·rintro f w301 ⟨F16, hs302, le303, e305, e306, e307, e308, e309, e310, e311, e312, e313, e314, e315, e316⟩
        refine thenQ_nrm ?_
        refine CWP.cond (t := j304) (by kernel_rfl) e316 (fun hb355 => ?_) (fun hb355 => ?_)
        ·have h356 := cond_t h318 hb355
         refine CWP.exit (by kernel_rfl) ?_
         refine thenQ_ex ?_
         refine blockQ_hit rfl ?_
         refine thenQ_nrm ?_
         refine Rg [0, 1, 2] ?_
         refine V 78 3 (mv 10 (vi s239.1) e310) ?_
         refine V 79 3 (run_add (t := 3) (t' := 3) (x := (.tmp 78)) (y := (.const (vi 1))) (k := .i64) (a := s239.1) (b := 1) rfl rfl) ?_
         refine V 10 3 (ma 79 (vi (W64 (s239.1 + 1)))) ?_
         refine RWP.nil ?_
         have hs357 : HS wb Fb w301 F16 ((sb b274 #[(vi s188.1), (vi s239.1)] 27) :: (sb b231 (kTrack x217 ae229_2 ne229_2 ae229_3 ne229_3) 54) :: Lf291) := hs302.drop 0
         have hs358 : HS wb Fb w301 F16 ((sb b231 (kTrack x217 ae229_2 ne229_2 ae229_3 ne229_3) 54) :: Lf291) := hs357.drop 0
         have hn359 := iter_next h356 hnx271
         exact ⟨m268, Nat.lt_succ_self _, ((W64 (s239.1 + 1)), q284.2), F16, Lf291, hn359, hs358, ((le242.trans le289).trans le303), e305, e306, e307, e308, e309, rfl, e313, e314, e315, (hJm _ _ _ _ hJ290 le303)⟩
        ·have h360 := cond_f h318 hb355
         refine Sc ?_
         refine thenQ_nrm ?_
         refine Sq ?_
         obtain ⟨j366, hj379, h380⟩ := bind_some h360
         refine CWP.regionD (by kernel_rfl) (by kernel_rfl) (by kernel_rfl) (by kernel_rfl) (z := 13) (F := F16) (Lc := [(sb b277 #[(vi s188.1), (vi (W64 (s239.1 + 1)))] 27), (sb b274 #[(vi s188.1), (vi s239.1)] 27), (sb b231 (kTrack x217 ae229_2 ne229_2 ae229_3 ne229_3) 54)]) (Lz := []) (l := [false, false, false, false, false, false, false, false, false, false, false, false, false]) (fuel := 13) (by kernel_rfl) (by kernel_rfl) hs302 (by simp) (by simp) (fun f w => ∃ (F19 : Mem), HS wb Fb w F19 ((sb b277 #[(vi s188.1), (vi (W64 (s239.1 + 1)))] 27) :: (sb b274 #[(vi s188.1), (vi s239.1)] 27) :: (sb b231 (kTrack x217 ae229_2 ne229_2 ae229_3 ne229_3) 54) :: Lf291) ∧ Mem.le F16 F19 ∧ f.d = [] ∧ f 0 = (.func (.yield l) #[] #[]) ∧ f 1 = (.pointer (some ⟨bz0, 0, none⟩)) ∧ f 8 = (vi s188.1) ∧ f 9 = (.pointer (some ⟨b231, 0, none⟩)) ∧ f 10 = (vi s239.1) ∧ f 11 = (.pointer (some ⟨b274, 0, none⟩)) ∧ f 12 = (.pointer (some ⟨b277, 0, none⟩)) ∧ f 13 = (vi j366) ∧ f 65 = (.slice (some ⟨b221, o222, none⟩) z0.Tracks.length nz0_0) ∧ f 66 = (vi (z0.Tracks.length : Int)) ∧ f 67 = (vi s188.1)) (fun wd361 hw362 => ?_) ?_
         ·refine Dt 0 112 0 (.pointer (some ⟨b231, 3, none⟩)) (fun _ hq => fa 54 9 1 3 1 b231 0 3 e309) ?_
          refine Dt 1 113 50 _ (fun _ hq => ld 50 112 b231 3 false 1 (.slice ae229_3 x217.Times.length ne229_3) (hq.1.2 2 _ _ rfl)) ?_
          refine Dt 2 114 3 _ (fun _ hq => mv 10 (vi s239.1) e310) ?_
          refine Dt 3 115 3 (vi (W64 (s239.1 + 1))) (fun _ hq => run_add (t := 3) (t' := 3) (x := (.tmp 114)) (y := (.const (vi 1))) (k := .i64) (a := s239.1) (b := 1) rfl rfl) ?_
          obtain ⟨x381, hx382, h384⟩ := bind_some hj379
          obtain ⟨hi383, hx382'⟩ := idx_spec hx382
          obtain ⟨b385, o386, C387, E388, fz389, rfl, hF391, hE392⟩ := SlA.open (SlA.mono hse229_3 ((le242.trans le289).trans le303)) hx382'
          have hc394 := hE392 _ _ hx382'
          refine Dt 4 116 0 (.pointer (some ⟨b385, (o386 + ((W64 (s239.1 + 1)) : Int).toNat * 1), none⟩)) (fun _ hq => ix 50 113 115 b385 o386 3 1 8 hi383) ?_
          refine Dt 5 117 3 _ (fun _ hq => lx 3 116 0 1 false 1 (vi x381) (hq.1.1 _ _ hF391) hc394) ?_
          refine Dt 6 118 0 (.pointer (some ⟨b231, 3, none⟩)) (fun _ hq => fa 54 9 1 3 1 b231 0 3 e309) ?_
          refine Dt 7 119 50 _ (fun _ hq => ld 50 118 b231 3 false 1 (.slice (some ⟨b385, o386, none⟩) x217.Times.length ne229_3) (hq.1.2 2 _ _ rfl)) ?_
          refine Dt 8 120 3 _ (fun _ hq => mv 10 (vi s239.1) e310) ?_
          obtain ⟨x395, hx396, h398⟩ := bind_some h384
          obtain ⟨hi397, hx396'⟩ := idx_spec hx396
          have hc400 := hE392 _ _ hx396'
          refine Dt 9 121 0 (.pointer (some ⟨b385, (o386 + (s239.1 : Int).toNat * 1), none⟩)) (fun _ hq => ix 50 119 120 b385 o386 3 1 8 hi397) ?_
          refine Dt 10 122 3 _ (fun _ hq => lx 3 121 0 1 false 1 (vi x395) (hq.1.1 _ _ hF391) hc400) ?_
          refine Dt 11 123 3 (vi (W64 (x381 - x395))) (fun _ hq => run_sub (t := 3) (t' := 3) (x := (.tmp 117)) (y := (.tmp 122)) (k := .i64) (a := x381) (b := x395) rfl rfl) ?_
          refine Dt 12 13 3 _ (fun _ hq => ma 123 (vi (W64 (x381 - x395)))) ?_
          obtain rfl := some_inj h398
          exact DWP.done (by kernel_rfl) ⟨F16, hw362, (Mem.le.refl _), e305, e306, e307, e308, e309, e310, e311, e312, rfl, e313, e314, e315⟩
         ·rintro f w363 ⟨F19, hs364, le365, e367, e368, e369, e370, e371, e372, e373, e374, e375, e376, e377, e378⟩
          refine thenQ_nrm ?_
          refine Sq (Rg [0, 1, 2, 3, 4, 5, 6, 7, 8] ?_)
          refine V 124 0 (fa 54 9 0 0 3 b231 0 0 e371) ?_
          refine V 125 0 (fa 52 124 1 1 1 b231 0 1) ?_
          refine V 126 3 (ld 3 125 b231 1 false 1 (vi x217.Clock.Drift) (hs364.ownAt (k := 2) rfl)) ?_
          refine V 127 3 (mv 13 (vi j366) e375) ?_
          refine V 128 3 (run_mul (t := 3) (t' := 3) (x := (.tmp 126)) (y := (.tmp 127)) (k := .i64) (a := x217.Clock.Drift) (b := j366) rfl rfl) ?_
          refine V 129 3 (run_add (t := 3) (t' := 3) (x := (.tmp 128)) (y := (.const (vi 999))) (k := .i64) (a := (W64 (x217.Clock.Drift * j366))) (b := 999) rfl rfl) ?_
          refine V 130 3 (run_quo (t := 3) (t' := 3) (x := (.tmp 129)) (y := (.const (vi 1000))) (k := .i64) (a := (W64 ((W64 (x217.Clock.Drift * j366)) + 999))) (b := 1000) rfl rfl (by decide)) ?_
          refine V 131 3 (run_add (t := 3) (t' := 3) (x := (.const (vi 1))) (y := (.tmp 130)) (k := .i64) (a := 1) (b := (W64 (Int.tdiv (W64 ((W64 (x217.Clock.Drift * j366)) + 999)) 1000))) rfl rfl) ?_
          refine V 14 3 (ma 131 (vi (W64 (1 + (W64 (Int.tdiv (W64 ((W64 (x217.Clock.Drift * j366)) + 999)) 1000)))))) ?_
          refine Nss (Rg [0, 1, 2, 3, 4, 5, 6, 7, 8, 9, 10, 11, 12, 13, 14, 15, 16, 17, 18, 19, 20, 21] ?_)
          obtain ⟨j404, hj417, h418⟩ := bind_some h380
          refine RWP.cut (fun f w => ∃ (F20 : Mem) (Lf405 : Own), HS wb Fb w F20 ((sb b231 (kTrack x217 ae229_2 ne229_2 ae229_3 ne229_3) 54) :: Lf405) ∧ Mem.le F19 F20 ∧ f.d = [] ∧ f 0 = (.func (.yield l) #[] #[]) ∧ f 1 = (.pointer (some ⟨bz0, 0, none⟩)) ∧ f 8 = (vi s188.1) ∧ f 9 = (.pointer (some ⟨b231, 0, none⟩)) ∧ f 10 = (vi s239.1) ∧ f 65 = (.slice (some ⟨b221, o222, none⟩) z0.Tracks.length nz0_0) ∧ f 66 = (vi (z0.Tracks.length : Int)) ∧ f 67 = (vi s188.1) ∧ f 153 = (.bool j404.1) ∧ J j404.2 F20 Lf405) ?_ ?_
          ·refine V 132 134 (mv 0 (.func (.yield l) #[] #[]) e368) ?_
           refine V 133 27 (ld 27 11 b274 0 true 2 (.agg #[(vi s188.1), (vi s239.1)]) (hs364.ownAt (k := 1) rfl) e373) ?_
           refine V 134 27 (ld 27 12 b277 0 true 2 (.agg #[(vi s188.1), (vi (W64 (s239.1 + 1)))]) (hs364.ownAt (k := 0) rfl) e374) ?_
           refine V 135 3 (mv 13 (vi j366) e375) ?_
           refine V 136 3 (mv 14 (vi (W64 (1 + (W64 (Int.tdiv (W64 ((W64 (x217.Clock.Drift * j366)) + 999)) 1000)))))) ?_
           refine V 137 3 (run_add (t := 3) (t' := 3) (x := (.tmp 135)) (y := (.tmp 136)) (k := .i64) (a := j366) (b := (W64 (1 + (W64 (Int.tdiv (W64 ((W64 (x217.Clock.Drift * j366)) + 999)) 1000))))) rfl rfl) ?_
           refine V 138 3 (mv 10 (vi s239.1) e372) ?_
           refine V 139 103 (run_build2 (t := 103) (parts := #[(0, (.tmp 133)), (1, (.tmp 134)), (2, (.tmp 137)), (3, (.const (vi 3))), (4, (.tmp 138))]) (vs := [(0, (.agg #[(vi s188.1), (vi s239.1)])), (1, (.agg #[(vi s188.1), (vi (W64 (s239.1 + 1)))])), (2, (vi (W64 (j366 + (W64 (1 + (W64 (Int.tdiv (W64 ((W64 (x217.Clock.Drift * j366)) + 999)) 1000)))))))), (3, (vi 3)), (4, (vi s239.1))]) (rfl) (cs := [(vi s188.1), (vi s239.1), (vi s188.1), (vi (W64 (s239.1 + 1))), (vi (W64 (j366 + (W64 (1 + (W64 (Int.tdiv (W64 ((W64 (x217.Clock.Drift * j366)) + 999)) 1000))))))), (vi 3), (vi s239.1)]) (by kernel_rfl)) ?_
           obtain ⟨q419, hq420, h421⟩ := bind_some hj417
           refine RWP.yield (dst := (some 140)) (ty := 4) (g := none) (by kernel_rfl) rfl (f0 := (.tmp 132)) (aos := #[(.tmp 139)]) (ats := #[103]) (l := l) (args := [(.agg #[(vi s188.1), (vi s239.1), (vi s188.1), (vi (W64 (s239.1 + 1))), (vi (W64 (j366 + (W64 (1 + (W64 (Int.tdiv (W64 ((W64 (x217.Clock.Drift * j366)) + 999)) 1000))))))), (vi 3), (vi s239.1)])]) rfl (rfl) (hY q284.2 ({ From := ({ Log := s188.1, Line := s239.1 } : Ref), To := ({ Log := s188.1, Line := (W64 (s239.1 + 1)) } : Ref), Most := (W64 (j366 + (W64 (1 + (W64 (Int.tdiv (W64 ((W64 (x217.Clock.Drift * j366)) + 999)) 1000)))))), Kind := 3, ID := s239.1 } : Bound) w363 F19 [(sb b277 #[(vi s188.1), (vi (W64 (s239.1 + 1)))] 27), (sb b274 #[(vi s188.1), (vi s239.1)] 27), (sb b231 (kTrack x217 ae229_2 ne229_2 ae229_3 ne229_3) 54)] Lf291 q419 (((((le19.trans le191).trans le242).trans le289).trans le303).trans le365) trivial (hJm _ _ _ _ hJ290 (le303.trans le365)) hs364 hq420) ?_
           rintro _ w422 ⟨F21, Lf426, rfl, hs423, le424, hJ425⟩
           have hs427 : HS wb Fb w422 F21 ((sb b277 #[(vi s188.1), (vi (W64 (s239.1 + 1)))] 27) :: (sb b274 #[(vi s188.1), (vi s239.1)] 27) :: (sb b231 (kTrack x217 ae229_2 ne229_2 ae229_3 ne229_3) 54) :: Lf426) := hs423
           refine ⟨_, rfl, ?_⟩
           refine V 141 4 (run_not (t := 4) (x := (.tmp 140)) (a := q419.1) rfl) ?_
           refine V 142 4 (mv 141 (.bool (!q419.1))) ?_
           refine RWP.split (!q419.1) (fun hb428 => ?_) (fun hb428 => ?_)
           ·have h429 := cond_t h421 hb428
            refine Sk [143, 144, 145, 146, 147, 148, 149, 150, 151, 152] 10 false 142 hb428 ?_
            refine V 153 4 (p1 142 (.const (.bool true)) (.tmp 152) (.bool true) hb428) ?_
            obtain rfl := some_inj h429
            have hs430 : HS wb Fb w422 F21 ((sb b274 #[(vi s188.1), (vi s239.1)] 27) :: (sb b231 (kTrack x217 ae229_2 ne229_2 ae229_3 ne229_3) 54) :: Lf426) := hs427.drop 0
            have hs431 : HS wb Fb w422 F21 ((sb b231 (kTrack x217 ae229_2 ne229_2 ae229_3 ne229_3) 54) :: Lf426) := hs430.drop 0
            exact RWP.nil ⟨rfl, F21, Lf426, hs431, le424, e367, e368, e369, e370, e371, e372, e376, e377, e378, rfl, hJ425⟩
           ·have h432 := cond_f h421 hb428
            refine Vg 143 134 10 false 142 hb428 (mv 0 (.func (.yield l) #[] #[]) e368) ?_
            refine Vg 144 27 10 false 142 hb428 (ld 27 12 b277 0 true 2 (.agg #[(vi s188.1), (vi (W64 (s239.1 + 1)))]) (hs427.ownAt (k := 0) rfl) e374) ?_
            refine Vg 145 27 10 false 142 hb428 (ld 27 11 b274 0 true 2 (.agg #[(vi s188.1), (vi s239.1)]) (hs427.ownAt (k := 1) rfl) e373) ?_
            refine Vg 146 3 10 false 142 hb428 (mv 14 (vi (W64 (1 + (W64 (Int.tdiv (W64 ((W64 (x217.Clock.Drift * j366)) + 999)) 1000)))))) ?_
            refine Vg 147 3 10 false 142 hb428 (mv 13 (vi j366) e375) ?_
            refine Vg 148 3 10 false 142 hb428 (run_sub (t := 3) (t' := 3) (x := (.tmp 146)) (y := (.tmp 147)) (k := .i64) (a := (W64 (1 + (W64 (Int.tdiv (W64 ((W64 (x217.Clock.Drift * j366)) + 999)) 1000))))) (b := j366) rfl rfl) ?_
            refine Vg 149 3 10 false 142 hb428 (mv 10 (vi s239.1) e372) ?_
            refine Vg 150 103 10 false 142 hb428 (run_build2 (t := 103) (parts := #[(0, (.tmp 144)), (1, (.tmp 145)), (2, (.tmp 148)), (3, (.const (vi 3))), (4, (.tmp 149))]) (vs := [(0, (.agg #[(vi s188.1), (vi (W64 (s239.1 + 1)))])), (1, (.agg #[(vi s188.1), (vi s239.1)])), (2, (vi (W64 ((W64 (1 + (W64 (Int.tdiv (W64 ((W64 (x217.Clock.Drift * j366)) + 999)) 1000)))) - j366)))), (3, (vi 3)), (4, (vi s239.1))]) (rfl) (cs := [(vi s188.1), (vi (W64 (s239.1 + 1))), (vi s188.1), (vi s239.1), (vi (W64 ((W64 (1 + (W64 (Int.tdiv (W64 ((W64 (x217.Clock.Drift * j366)) + 999)) 1000)))) - j366))), (vi 3), (vi s239.1)]) (by kernel_rfl)) ?_
            obtain ⟨q433, hq434, h435⟩ := bind_some h432
            refine RWP.yield (dst := (some 151)) (ty := 4) (g := (some (10, false))) (by kernel_rfl) (gd_y (d := 142) (by kernel_rfl) rfl hb428) (f0 := (.tmp 143)) (aos := #[(.tmp 150)]) (ats := #[103]) (l := l) (args := [(.agg #[(vi s188.1), (vi (W64 (s239.1 + 1))), (vi s188.1), (vi s239.1), (vi (W64 ((W64 (1 + (W64 (Int.tdiv (W64 ((W64 (x217.Clock.Drift * j366)) + 999)) 1000)))) - j366))), (vi 3), (vi s239.1)])]) rfl (rfl) (hY q419.2 ({ From := ({ Log := s188.1, Line := (W64 (s239.1 + 1)) } : Ref), To := ({ Log := s188.1, Line := s239.1 } : Ref), Most := (W64 ((W64 (1 + (W64 (Int.tdiv (W64 ((W64 (x217.Clock.Drift * j366)) + 999)) 1000)))) - j366)), Kind := 3, ID := s239.1 } : Bound) w422 F21 [(sb b277 #[(vi s188.1), (vi (W64 (s239.1 + 1)))] 27), (sb b274 #[(vi s188.1), (vi s239.1)] 27), (sb b231 (kTrack x217 ae229_2 ne229_2 ae229_3 ne229_3) 54)] Lf426 q433 ((((((le19.trans le191).trans le242).trans le289).trans le303).trans le365).trans le424) trivial hJ425 hs427 hq434) ?_
            rintro _ w436 ⟨F22, Lf440, rfl, hs437, le438, hJ439⟩
            have hs441 : HS wb Fb w436 F22 ((sb b277 #[(vi s188.1), (vi (W64 (s239.1 + 1)))] 27) :: (sb b274 #[(vi s188.1), (vi s239.1)] 27) :: (sb b231 (kTrack x217 ae229_2 ne229_2 ae229_3 ne229_3) 54) :: Lf440) := hs437
            refine ⟨_, rfl, ?_⟩
            refine Vg 152 4 10 false 142 hb428 (run_not (t := 4) (x := (.tmp 151)) (a := q433.1) rfl) ?_
            refine V 153 4 (p0 142 (.const (.bool true)) (.tmp 152) (.bool (!q433.1)) hb428) ?_
            obtain rfl := some_inj h435
            have hs442 : HS wb Fb w436 F22 ((sb b274 #[(vi s188.1), (vi s239.1)] 27) :: (sb b231 (kTrack x217 ae229_2 ne229_2 ae229_3 ne229_3) 54) :: Lf440) := hs441.drop 0
            have hs443 : HS wb Fb w436 F22 ((sb b231 (kTrack x217 ae229_2 ne229_2 ae229_3 ne229_3) 54) :: Lf440) := hs442.drop 0
            exact RWP.nil ⟨rfl, F22, Lf440, hs443, (le424.trans le438), e367, e368, e369, e370, e371, e372, e376, e377, e378, rfl, hJ439⟩
          ·rintro f w401 ⟨F20, Lf405, hs402, le403, e407, e408, e409, e410, e411, e412, e413, e414, e415, e416, hJ406⟩
           refine thenQ_nrm ?_
           refine CWP.cond (t := j404.1) (by kernel_rfl) e416 (fun hb444 => ?_) (fun hb444 => ?_)
           ·have h445 := cond_t h418 hb444
            refine CWP.ret (by kernel_rfl) ?_
            refine blockQ_ret ?_
            refine thenQ_ret ?_
            refine thenQ_ret ?_
            refine blockQ_ret ?_
            have hret := iter_ret h445 hnx271
            subst hret
            refine .inr ?_
            refine blockQ_ret ?_
            refine thenQ_ret ?_
            refine thenQ_ret ?_
            refine blockQ_ret ?_
            have hret := iter_ret h238 hnx214
            subst hret
            refine .inr ?_
            refine thenQ_ret ?_
            have hs446 : HS wb Fb w401 F20 Lf405 := hs402.drop 0
            have hfin := some_inj h187
            subst hfin
            exact ⟨e407, .tuple #[], res_of (l := []) (by kernel_rfl) (vs := []) trivial, F20, Lf405, rfl, hs446, ((((((le19.trans le191).trans le242).trans le289).trans le303).trans le365).trans le403), hJ406⟩
           ·have h447 := cond_f h418 hb444
            refine Sc ?_
            refine blockQ_nrm ?_
            refine thenQ_nrm ?_
            refine Rg [0, 1, 2] ?_
            refine V 78 3 (mv 10 (vi s239.1) e412) ?_
            refine V 79 3 (run_add (t := 3) (t' := 3) (x := (.tmp 78)) (y := (.const (vi 1))) (k := .i64) (a := s239.1) (b := 1) rfl rfl) ?_
            refine V 10 3 (ma 79 (vi (W64 (s239.1 + 1)))) ?_
            refine RWP.nil ?_
            have hn448 := iter_next h447 hnx271
            exact ⟨m268, Nat.lt_succ_self _, ((W64 (s239.1 + 1)), j404.2), F20, Lf405, hn448, hs402, ((((le242.trans le289).trans le303).trans le365).trans le403), e407, e408, e409, e410, e411, rfl, e413, e414, e415, hJ406⟩
     ·have h449 := cond_f hb270 hb272
      refine CWP.exit (by kernel_rfl) ?_
      refine thenQ_ex ?_
      refine thenQ_ex ?_
      refine blockQ_hit rfl ?_
      have hs450 : HS wb Fb w240 F13 Lf243 := hs241.drop 0
      have ho451 := iter_done h449 hnx271
      exact .inl ⟨rfl, (s239.1, s239.2), F13, Lf243, ho451, hs450, le242, e245, e246, e247, e251, e252, e253, hJ244⟩
    ·rintro f w255 ⟨s254, F14, Lf258, rfl, hs256, le257, e260, e261, e262, e263, e264, e265, hJ259⟩
     have h452 := k_done h238
     refine blockQ_nrm ?_
     refine thenQ_nrm ?_
     refine Rg [0, 1] ?_
     refine V 154 3 (run_add (t := 3) (t' := 3) (x := (.tmp 67)) (y := (.const (vi 1))) (k := .i64) (a := s188.1) (b := 1) e265 rfl) ?_
     refine V 67 3 (mv 154 (vi (W64 (s188.1 + 1)))) ?_
     refine RWP.nil ?_
     have hn453 := iter_next h452 hnx214
     exact ⟨m211, Nat.lt_succ_self _, ((W64 (s188.1 + 1)), s254.2), F14, Lf258, hn453, hs256, (le191.trans le257), e260, e261, e262, e263, e264, rfl, hJ259⟩
   ·have h454 := cond_f hb213 hb215
    refine CWP.exit (by kernel_rfl) ?_
    refine thenQ_ex ?_
    refine thenQ_ex ?_
    refine blockQ_hit rfl ?_
    have ho455 := iter_done h454 hnx214
    exact .inl ⟨rfl, (s188.1, s188.2), F11, Lf192, ho455, hs190, le191, e194, e195, e196, hJ193⟩
  ·rintro f w201 ⟨s200, F12, Lf204, rfl, hs202, le203, e206, e207, e208, hJ205⟩
   have h456 := k_done h187
   refine thenQ_nrm ?_
   refine Sq (Rg [0, 1, 2, 3] ?_)
   refine V 155 0 (fa 25 1 1 1 1 bz0 0 1 e208) ?_
   refine V 156 23 (ld 23 155 bz0 1 false 1 (.slice az0_1 z0.Ties.length nz0_1) (hs202.pers _ _ (((le01.trans le19).trans le203) _ _ hz0))) ?_
   refine V 157 3 (ln 156 23 az0_1 z0.Ties.length nz0_1 46 4 32) ?_
   refine V 158 3 (run_move (x := (.const (vi 0))) (v := (vi 0)) rfl) ?_
   refine Nt ?_
   obtain ⟨o457, ho458, h459⟩ := bind_some h456
   refine CWP.cut (fun f w => ∃ (s472 : (Int × σ)) (F24 : Mem) (Lf476 : Own), o457 = .done s472 ∧ HS wb Fb w F24 Lf476 ∧ Mem.le F12 F24 ∧ f.d = [] ∧ J s472.2 F24 Lf476) ?_ ?_
   ·refine Bk ?_
    refine CWP.loop (by kernel_rfl) (fun m f w => ∃ (s460 : (Int × σ)) (F23 : Mem) (Lf464 : Own), iter (clocks_bounds_1_L4 N y z0 s s16 s200) m s460 = some o457 ∧ HS wb Fb w F23 Lf464 ∧ Mem.le F12 F23 ∧ f.d = [] ∧ f 0 = (.func (.yield l) #[] #[]) ∧ f 1 = (.pointer (some ⟨bz0, 0, none⟩)) ∧ f 156 = (.slice az0_1 z0.Ties.length nz0_1) ∧ f 157 = (vi (z0.Ties.length : Int)) ∧ f 158 = (vi s460.1) ∧ J s460.2 F23 Lf464) N ⟨(0, s200.2), F12, Lf204, ho458, hs202, (Mem.le.refl _), e206, e207, e208, rfl, rfl, rfl, hJ205⟩ ?_
    rintro m479 f w461 ⟨s460, F23, Lf464, hit480, hs462, le463, e466, e467, e468, e469, e470, e471, hJ465⟩
    obtain ⟨m481, fl482, rfl, hb483, hnx484⟩ := iter_step hit480
    refine Sq (Rg [0] ?_)
    refine V 159 0 (run_lss (t := 3) (t' := 3) (x := (.tmp 158)) (y := (.tmp 157)) (k := .i64) (a := s460.1) (b := (z0.Ties.length : Int)) e471 e470) ?_
    refine Nss ?_
    refine CWP.cond (t := (decide (s460.1 < (z0.Ties.length : Int)))) (by kernel_rfl) rfl (fun hb485 => ?_) (fun hb485 => ?_)
    ·have h486 := cond_t hb483 hb485
     refine Sc ?_
     refine thenQ_nrm ?_
     refine Sq ?_
     refine Bk ?_
     refine Sq (Rg [0, 1, 2, 3, 4, 5] ?_)
     refine V 160 3 (mv 158 (vi s460.1) e471) ?_
     obtain ⟨x487, hx488, h490⟩ := bind_some h486
     obtain ⟨hi489, hx488'⟩ := idx_spec hx488
     obtain ⟨b491, o492, C493, E494, fz495, rfl, hF497, hE498⟩ := SlA.open (SlA.mono hsz0_1 (((le01.trans le19).trans le203).trans le463)) hx488'
     have hc500 := hE498 _ _ hx488'
     refine V 161 0 (run_index (t := 23) (x := (.tmp 156)) (y := (.tmp 158)) (b := b491) (o := o492) (E := 46) (s := 4) (by_ := 32) e469 e471 (by kernel_rfl) hi489) ?_
     refine V 162 46 (lx 46 161 0 4 true 4 (.agg (kTie x487)) (hs462.pers _ _ hF497) hc500) ?_
     refine Al 16 0 46 #[(vi 0), (vi 0), (vi 0), (vi 0)] hs462 (fun b501 w502 (hs503 : HS wb Fb w502 F23 ((sb b501 #[(vi 0), (vi 0), (vi 0), (vi 0)] 46) :: Lf464)) => ?_)
     refine V 15 3 (ma 160 (vi s460.1)) ?_
     refine RWP.store (ty := 0) (g := none) (by kernel_rfl) rfl (x := (.tmp 16)) (y := (.tmp 162)) (t := 46) (gg := true) (s := 4) (v := (.agg (kTie x487))) (b := b501) (o := 0) (C := #[(vi 0), (vi 0), (vi 0), (vi 0)]) rfl rfl (by kernel_rfl) hs503 (k := 0) rfl rfl rfl rfl (C' := (kTie x487)) rfl (fun w504 (hs505 : HS wb Fb w504 F23 ((sb b501 (kTie x487) 46) :: Lf464)) => ?_)
     refine Nss (Rg [0, 1, 2, 3, 4, 5, 6, 7, 8, 9, 10, 11, 12, 13, 14, 15, 16, 17, 18, 19, 20, 21, 22, 23] ?_)
     obtain ⟨j509, hj519, h520⟩ := bind_some h490
     refine RWP.cut (fun f w => ∃ (F25 : Mem) (Lf510 : Own), HS wb Fb w F25 Lf510 ∧ Mem.le F23 F25 ∧ f.d = [] ∧ f 0 = (.func (.yield l) #[] #[]) ∧ f 1 = (.pointer (some ⟨bz0, 0, none⟩)) ∧ f 156 = (.slice (some ⟨b491, o492, none⟩) z0.Ties.length nz0_1) ∧ f 157 = (vi (z0.Ties.length : Int)) ∧ f 158 = (vi s460.1) ∧ f 186 = (.bool j509.1) ∧ J j509.2 F25 Lf510) ?_ ?_
     ·refine V 163 134 (mv 0 (.func (.yield l) #[] #[]) e467) ?_
      refine V 164 0 (fa 46 16 0 0 2 b501 0 0) ?_
      refine V 165 27 (ld 27 164 b501 0 true 2 (.agg (kRef x487.A)) (hs505.ownAt (k := 0) rfl)) ?_
      refine V 166 0 (fa 46 16 1 2 2 b501 0 2) ?_
      refine V 167 27 (ld 27 166 b501 2 true 2 (.agg (kRef x487.B)) (hs505.ownAt (k := 0) rfl)) ?_
      refine V 168 0 (fa 25 1 2 2 1 bz0 0 2 e468) ?_
      refine V 169 3 (ld 3 168 bz0 2 false 1 (vi z0.Window) (hs505.pers _ _ ((((le01.trans le19).trans le203).trans le463) _ _ hz0))) ?_
      refine V 170 3 (mv 15 (vi s460.1)) ?_
      refine V 171 103 (run_build2 (t := 103) (parts := #[(0, (.tmp 165)), (1, (.tmp 167)), (2, (.tmp 169)), (3, (.const (vi 4))), (4, (.tmp 170))]) (vs := [(0, (.agg (kRef x487.A))), (1, (.agg (kRef x487.B))), (2, (vi z0.Window)), (3, (vi 4)), (4, (vi s460.1))]) (rfl) (cs := [(vi x487.A.Log), (vi x487.A.Line), (vi x487.B.Log), (vi x487.B.Line), (vi z0.Window), (vi 4), (vi s460.1)]) (by kernel_rfl)) ?_
      obtain ⟨q521, hq522, h523⟩ := bind_some hj519
      refine RWP.yield (dst := (some 172)) (ty := 4) (g := none) (by kernel_rfl) rfl (f0 := (.tmp 163)) (aos := #[(.tmp 171)]) (ats := #[103]) (l := l) (args := [(.agg #[(vi x487.A.Log), (vi x487.A.Line), (vi x487.B.Log), (vi x487.B.Line), (vi z0.Window), (vi 4), (vi s460.1)])]) rfl (rfl) (hY s460.2 ({ From := x487.A, To := x487.B, Most := z0.Window, Kind := 4, ID := s460.1 } : Bound) w504 F23 [(sb b501 (kTie x487) 46)] Lf464 q521 ((le19.trans le203).trans le463) trivial hJ465 hs505 hq522) ?_
      rintro _ w524 ⟨F26, Lf528, rfl, hs525, le526, hJ527⟩
      have hs529 : HS wb Fb w524 F26 ((sb b501 (kTie x487) 46) :: Lf528) := hs525
      refine ⟨_, rfl, ?_⟩
      refine V 173 4 (run_not (t := 4) (x := (.tmp 172)) (a := q521.1) rfl) ?_
      refine V 174 4 (mv 173 (.bool (!q521.1))) ?_
      refine RWP.split (!q521.1) (fun hb530 => ?_) (fun hb530 => ?_)
      ·have h531 := cond_t h523 hb530
       refine Sk [175, 176, 177, 178, 179, 180, 181, 182, 183, 184, 185] 11 false 174 hb530 ?_
       refine V 186 4 (p1 174 (.const (.bool true)) (.tmp 185) (.bool true) hb530) ?_
       obtain rfl := some_inj h531
       have hs532 : HS wb Fb w524 F26 Lf528 := hs529.drop 0
       exact RWP.nil ⟨rfl, F26, Lf528, hs532, le526, e466, e467, e468, e469, e470, e471, rfl, hJ527⟩
      ·have h533 := cond_f h523 hb530
       refine Vg 175 134 11 false 174 hb530 (mv 0 (.func (.yield l) #[] #[]) e467) ?_
       refine Vg 176 0 11 false 174 hb530 (fa 46 16 1 2 2 b501 0 2) ?_
       refine Vg 177 27 11 false 174 hb530 (ld 27 176 b501 2 true 2 (.agg (kRef x487.B)) (hs529.ownAt (k := 0) rfl)) ?_
       refine Vg 178 0 11 false 174 hb530 (fa 46 16 0 0 2 b501 0 0) ?_
       refine Vg 179 27 11 false 174 hb530 (ld 27 178 b501 0 true 2 (.agg (kRef x487.A)) (hs529.ownAt (k := 0) rfl)) ?_
       refine Vg 180 0 11 false 174 hb530 (fa 25 1 2 2 1 bz0 0 2 e468) ?_
       refine Vg 181 3 11 false 174 hb530 (ld 3 180 bz0 2 false 1 (vi z0.Window) (hs529.pers _ _ (((((le01.trans le19).trans le203).trans le463).trans le526) _ _ hz0))) ?_
       refine Vg 182 3 11 false 174 hb530 (mv 15 (vi s460.1)) ?_
       refine Vg 183 103 11 false 174 hb530 (run_build2 (t := 103) (parts := #[(0, (.tmp 177)), (1, (.tmp 179)), (2, (.tmp 181)), (3, (.const (vi 4))), (4, (.tmp 182))]) (vs := [(0, (.agg (kRef x487.B))), (1, (.agg (kRef x487.A))), (2, (vi z0.Window)), (3, (vi 4)), (4, (vi s460.1))]) (rfl) (cs := [(vi x487.B.Log), (vi x487.B.Line), (vi x487.A.Log), (vi x487.A.Line), (vi z0.Window), (vi 4), (vi s460.1)]) (by kernel_rfl)) ?_
       obtain ⟨q534, hq535, h536⟩ := bind_some h533
       refine RWP.yield (dst := (some 184)) (ty := 4) (g := (some (11, false))) (by kernel_rfl) (gd_y (d := 174) (by kernel_rfl) rfl hb530) (f0 := (.tmp 175)) (aos := #[(.tmp 183)]) (ats := #[103]) (l := l) (args := [(.agg #[(vi x487.B.Log), (vi x487.B.Line), (vi x487.A.Log), (vi x487.A.Line), (vi z0.Window), (vi 4), (vi s460.1)])]) rfl (rfl) (hY q521.2 ({ From := x487.B, To := x487.A, Most := z0.Window, Kind := 4, ID := s460.1 } : Bound) w524 F26 [(sb b501 (kTie x487) 46)] Lf528 q534 (((le19.trans le203).trans le463).trans le526) trivial hJ527 hs529 hq535) ?_
       rintro _ w537 ⟨F27, Lf541, rfl, hs538, le539, hJ540⟩
       have hs542 : HS wb Fb w537 F27 ((sb b501 (kTie x487) 46) :: Lf541) := hs538
       refine ⟨_, rfl, ?_⟩
       refine Vg 185 4 11 false 174 hb530 (run_not (t := 4) (x := (.tmp 184)) (a := q534.1) rfl) ?_
       refine V 186 4 (p0 174 (.const (.bool true)) (.tmp 185) (.bool (!q534.1)) hb530) ?_
       obtain rfl := some_inj h536
       have hs543 : HS wb Fb w537 F27 Lf541 := hs542.drop 0
       exact RWP.nil ⟨rfl, F27, Lf541, hs543, (le526.trans le539), e466, e467, e468, e469, e470, e471, rfl, hJ540⟩
     ·rintro f w506 ⟨F25, Lf510, hs507, le508, e512, e513, e514, e515, e516, e517, e518, hJ511⟩
      refine thenQ_nrm ?_
      refine CWP.cond (t := j509.1) (by kernel_rfl) e518 (fun hb544 => ?_) (fun hb544 => ?_)
      ·have h545 := cond_t h520 hb544
       refine CWP.ret (by kernel_rfl) ?_
       refine blockQ_ret ?_
       refine thenQ_ret ?_
       refine thenQ_ret ?_
       refine blockQ_ret ?_
       have hret := iter_ret h545 hnx484
       subst hret
       refine .inr ?_
       have hfin := some_inj h459
       subst hfin
       exact ⟨e512, .tuple #[], res_of (l := []) (by kernel_rfl) (vs := []) trivial, F25, Lf510, rfl, hs507, (((le19.trans le203).trans le463).trans le508), hJ511⟩
      ·have h546 := cond_f h520 hb544
       refine Sc ?_
       refine blockQ_nrm ?_
       refine thenQ_nrm ?_
       refine Rg [0, 1] ?_
       refine V 187 3 (run_add (t := 3) (t' := 3) (x := (.tmp 158)) (y := (.const (vi 1))) (k := .i64) (a := s460.1) (b := 1) e517 rfl) ?_
       refine V 158 3 (mv 187 (vi (W64 (s460.1 + 1)))) ?_
       refine RWP.nil ?_
       have hn547 := iter_next h546 hnx484
       exact ⟨m481, Nat.lt_succ_self _, ((W64 (s460.1 + 1)), j509.2), F25, Lf510, hn547, hs507, (le463.trans le508), e512, e513, e514, e515, e516, rfl, hJ511⟩
    ·have h548 := cond_f hb483 hb485
     refine CWP.exit (by kernel_rfl) ?_
     refine thenQ_ex ?_
     refine thenQ_ex ?_
     refine blockQ_hit rfl ?_
     have ho549 := iter_done h548 hnx484
     exact .inl ⟨rfl, (s460.1, s460.2), F23, Lf464, ho549, hs462, le463, e466, hJ465⟩
   ·rintro f w473 ⟨s472, F24, Lf476, rfl, hs474, le475, e478, hJ477⟩
    have h550 := k_done h459
    have hfin := some_inj h550
    subst hfin
    exact ⟨e478, .tuple #[], res_of (l := []) (by kernel_rfl) (vs := []) trivial, F24, Lf476, rfl, hs474, ((le19.trans le203).trans le475), hJ477⟩
end Go.Proofs.Ythbcnabeabcmlaa
namespace Go.Proofs.Ythbcnabeabcmlaa
open Go.Proofs
def slices_AppendSeq_api_Bound_api_Bound_L0 (N : Nat) (x1 : System) : (List Bound) → Bound → Option (List Bound) := fun s6 x19 =>
 ((apnd s6 [x19]).bind fun r44 => some r44)
def slices_AppendSeq_api_Bound_api_Bound (N : Nat) (x1 : System) : Option (List Bound) :=
 ((clocks_bounds_1 N (fun st x => ((slices_AppendSeq_api_Bound_api_Bound_L0 N x1) st x).map fun t => (true, t)) x1 ([] : List Bound)).bind fun r14 => some r14)
theorem co_slices_AppendSeq_api_Bound_api_Bound : CallOk Try.prog 119 := fun _ _ => by kernel_rfl
set_option maxHeartbeats 4000000 in
set_option maxRecDepth 100000 in
theorem c_slices_AppendSeq_api_Bound_api_Bound (N : Nat) (w0 : World) (F0 : Mem) (hF : ∀ b o, F0 b = some o → w0.heap[b]? = some o) (x1 : System) (a1_0_0 : Option Addr) (n1_0_0 : Nat) (hb1_0_0 : LC x1.Tracks.length n1_0_0) (hs1_0_0 : SlA tTrack F0 a1_0_0 x1.Tracks) (a1_0_1 : Option Addr) (n1_0_1 : Nat) (hb1_0_1 : LC x1.Ties.length n1_0_1) (hs1_0_1 : SlA tTie F0 a1_0_1 x1.Ties) (b1_0 : Nat) (hF1_0 : F0 b1_0 = some (oc (kSystem x1 a1_0_0 n1_0_0 a1_0_1 n1_0_1) 25)) (r : (List Bound)) (h : slices_AppendSeq_api_Bound_api_Bound N x1 = some r) :
  Calls Try.prog 119 ([.slice none 0 0, (.func (.func 120) #[] #[(.pointer (some ⟨b1_0, 0, none⟩))])] : List Value).toArray w0 (FRet w0 F0 fun F' v => ∃ (aq0_0 : Option Addr) (nq0_0 : Nat), v = (.slice aq0_0 r.length nq0_0) ∧ LC r.length nq0_0 ∧ SlA tBound F' aq0_0 r) := by
 have hs0 := HS.start hF
 refine calls_ofM (n := 13) (c := bodyOf Try.f119) Try.func119 (by kernel_rfl) (by kernel_rfl) (by kernel_rfl) ?_
 refine Sq (Rg [0, 1] ?_)
 refine Bx 2 0 0 57 #[(.slice none ([] : List Bound).length 0)] hs0 (fun b1 w2 (hs3 : HS w0 F0 w2 F0 [(sb b1 #[(.slice none ([] : List Bound).length 0)] 57)]) => ?_)
 refine V 4 57 (mc (.slice none 0 0) (.slice none ([] : List Bound).length 0)) ?_
 refine Nss ?_
 refine Sq (Rg [0] ?_)
 refine V 6 105 (mv 1 (.func (.func 120) #[] #[(.pointer (some ⟨b1_0, 0, none⟩))])) ?_
 refine Nt ?_
 refine Bk ?_
 have hs4 : HS w0 F0 w2 F0 [(none, .cells #[] 0 (0, 0)), (sb b1 #[(.slice none ([] : List Bound).length 0)] 57)] := hs3.dummy _
 obtain ⟨r14, hr15, h16⟩ := bind_some h
 refine CWP.rangeFunc (enc := enc134) (ok := ok134) (px := px134) (m := fun {_} y s => clocks_bounds_1 N y x1 s) (L := [(none, .cells #[] 0 (0, 0)), (sb b1 #[(.slice none ([] : List Bound).length 0)] 57)]) (B := []) (ps := [7]) (by kernel_rfl) (gf := 120) (cap := [(.pointer (some ⟨b1_0, 0, none⟩))]) rfl co_clocks_bounds_1 rfl (by kernel_rfl) (by kernel_rfl) (fun _ => rfl) hs4 (c_clocks_bounds_1 N F0 x1 a1_0_0 n1_0_0 hb1_0_0 hs1_0_0 a1_0_1 n1_0_1 hb1_0_1 hs1_0_1 b1_0 hF1_0) (fun st x => ((slices_AppendSeq_api_Bound_api_Bound_L0 N x1) st x).map fun t => (true, t)) (fun (s6 : (List Bound)) (F1 : Mem) (Lq : Own) => ∃ (as6_0 : Option Addr) (ns6_0 : Nat) (es6_0 : Option Nat × Obj), Lq = [es6_0, (sb b1 #[(.slice as6_0 s6.length ns6_0)] 57)] ∧ RowR tBound 103 F1 as6_0 ns6_0 s6 es6_0) ?_ (s := ([] : List Bound)) (r := r14) ?_ hr15 (fun _ _ _ h => (map_true h).1) ?_ ?_
 ·rintro s F F' L ⟨as6_0, ns6_0, es6_0, rfl, hrs6_0⟩ hl
  exact ⟨as6_0, ns6_0, es6_0, rfl, (hrs6_0.mono hl)⟩
 ·exact ⟨none, 0, (none, .cells #[] 0 (0, 0)), rfl, (RowR.nil tBound 103 F0 _)⟩
 ·rintro l17 s6 x19 w20 F1 _ Rf22 ⟨_, q23⟩ le24 ok25 ⟨as6_0, ns6_0, es6_0, rfl, hrs6_0⟩ hs26 hy27
  have h28 := (map_true hy27).2
  have hs29 : HS w0 F0 w20 F1 (es6_0 :: (sb b1 #[(.slice as6_0 s6.length ns6_0)] 57) :: Rf22) := hs26
  refine Rg [0, 1] ?_
  refine Al 5 0 103 #[(vi 0), (vi 0), (vi 0), (vi 0), (vi 0), (vi 0), (vi 0)] hs29 (fun b30 w31 (hs32 : HS w0 F0 w31 F1 ((sb b30 #[(vi 0), (vi 0), (vi 0), (vi 0), (vi 0), (vi 0), (vi 0)] 103) :: es6_0 :: (sb b1 #[(.slice as6_0 s6.length ns6_0)] 57) :: Rf22)) => ?_)
  refine RWP.store (ty := 0) (g := none) (by kernel_rfl) rfl (x := (.tmp 5)) (y := (.tmp 7)) (t := 103) (gg := true) (s := 7) (v := (.agg (kBound x19))) (b := b30) (o := 0) (C := #[(vi 0), (vi 0), (vi 0), (vi 0), (vi 0), (vi 0), (vi 0)]) rfl rfl (by kernel_rfl) hs32 (k := 0) rfl rfl rfl rfl (C' := (kBound x19)) rfl (fun w33 (hs34 : HS w0 F0 w33 F1 ((sb b30 (kBound x19) 103) :: es6_0 :: (sb b1 #[(.slice as6_0 s6.length ns6_0)] 57) :: Rf22)) => ?_)
  refine RWP.nil ?_
  refine ⟨rfl, F1, [(sb b30 (kBound x19) 103), es6_0, (sb b1 #[(.slice as6_0 s6.length ns6_0)] 57)], hs34, fun w35 Rf36 hs37 => ?_⟩
  have hs38 : HS w0 F0 w35 F1 ((sb b30 (kBound x19) 103) :: es6_0 :: (sb b1 #[(.slice as6_0 s6.length ns6_0)] 57) :: Rf36) := hs37
  refine Bk ?_
  refine Rg [0, 1, 2, 3, 4] ?_
  refine V 8 57 (ld 57 2 b1 0 false 1 (.slice as6_0 s6.length ns6_0) (hs38.ownAt (k := 2) rfl)) ?_
  refine V 9 103 (ld 103 5 b30 0 true 7 (.agg (kBound x19)) (hs38.ownAt (k := 0) rfl)) ?_
  refine RWP.buildSlice (dst := (some 10)) (ty := 57) (g := none) (by kernel_rfl) rfl (t := 57) (len := 1) (parts := #[(0, (.tmp 9))]) (vs := [(0, (.agg (kBound x19)))]) (rfl) (E := 103) (cs := [(vi x19.From.Log), (vi x19.From.Line), (vi x19.To.Log), (vi x19.To.Line), (vi x19.Most), (vi x19.Kind), (vi x19.ID)]) (by kernel_rfl) hs38 (fun b39 w40 (hs41 : HS w0 F0 w40 F1 ((some b39, .cells ([(vi x19.From.Log), (vi x19.From.Line), (vi x19.To.Log), (vi x19.To.Line), (vi x19.Most), (vi x19.Kind), (vi x19.ID)] : List Value).toArray 103 (0, 0)) :: (sb b30 (kBound x19) 103) :: es6_0 :: (sb b1 #[(.slice as6_0 s6.length ns6_0)] 57) :: Rf36)) => ?_)
  have hr43 : RowR tBound 103 F1 (some ⟨b39, 0, none⟩) 1 [x19] (some b39, .cells ([(vi x19.From.Log), (vi x19.From.Line), (vi x19.To.Log), (vi x19.To.Line), (vi x19.Most), (vi x19.Kind), (vi x19.ID)] : List Value).toArray 103 (0, 0)) := RowR.lit ⟨rfl, rfl⟩ (by simp)
  obtain ⟨r44, hap45, h46⟩ := bind_some h28
  refine RWP.append (dst := (some 11)) (ty := 57) (g := none) (by kernel_rfl) rfl (x := (.tmp 8)) (y := (.tmp 10)) (t := 57) (t2 := 57) (by_ := 56) (z := (.agg #[(vi 0), (vi 0), (vi 0), (vi 0), (vi 0), (vi 0), (vi 0)])) (a2 := (some ⟨b39, 0, none⟩)) (c2 := 1) (m := [x19]) (T := tBound) (E := 103) (a := as6_0) (cap := ns6_0) (l := s6) rfl rfl (by kernel_rfl) (by decide) (by kernel_rfl) (by kernel_rfl) rfl oBound hs41 (k := 2) rfl hrs6_0 (RowR.rd hs41 (k := 0) rfl hr43) (r := r44) hap45 (fun a47 n48 e49 w50 (hs51 : HS w0 F0 w50 F1 ((some b39, .cells ([(vi x19.From.Log), (vi x19.From.Line), (vi x19.To.Log), (vi x19.To.Line), (vi x19.Most), (vi x19.Kind), (vi x19.ID)] : List Value).toArray 103 (0, 0)) :: (sb b30 (kBound x19) 103) :: e49 :: (sb b1 #[(.slice as6_0 s6.length ns6_0)] 57) :: Rf36)) hr52 => ?_)
  refine RWP.store (ty := 0) (g := none) (by kernel_rfl) rfl (x := (.tmp 2)) (y := (.tmp 11)) (t := 57) (gg := false) (s := 1) (v := (.slice a47 r44.length n48)) (b := b1) (o := 0) (C := #[(.slice as6_0 s6.length ns6_0)]) rfl rfl (by kernel_rfl) hs51 (k := 3) rfl rfl rfl rfl (C' := #[(.slice a47 r44.length n48)]) rfl (fun w53 (hs54 : HS w0 F0 w53 F1 ((some b39, .cells ([(vi x19.From.Log), (vi x19.From.Line), (vi x19.To.Log), (vi x19.To.Line), (vi x19.Most), (vi x19.Kind), (vi x19.ID)] : List Value).toArray 103 (0, 0)) :: (sb b30 (kBound x19) 103) :: e49 :: (sb b1 #[(.slice a47 r44.length n48)] 57) :: Rf36)) => ?_)
  refine RWP.nil ?_
  refine blockQ_nrm ?_
  have hs55 : HS w0 F0 w53 F1 ((sb b30 (kBound x19) 103) :: e49 :: (sb b1 #[(.slice a47 r44.length n48)] 57) :: Rf36) := hs54.drop 0
  have hs56 : HS w0 F0 w53 F1 (e49 :: (sb b1 #[(.slice a47 r44.length n48)] 57) :: Rf36) := hs55.drop 0
  obtain rfl := some_inj h46
  exact ⟨rfl, F1, [e49, (sb b1 #[(.slice a47 r44.length n48)] 57)], hs56, (Mem.le.refl _), ⟨a47, n48, e49, rfl, hr52⟩⟩
 ·rintro D58 w59 F2 _ hs60 le61 ⟨as10_0, ns10_0, es10_0, rfl, hrs10_0⟩
  have hs62 : HS w0 F0 w59 F2 [(some D58, (.deferred (some []))), es10_0, (sb b1 #[(.slice as10_0 r14.length ns10_0)] 57)] := hs60
  refine blockQ_nrm ?_
  refine thenQ_nrm ?_
  refine Sq (Rg [0, 1] ?_)
  refine V 12 57 (ld 57 2 b1 0 false 1 (.slice as10_0 r14.length ns10_0) (hs62.ownAt (k := 2) rfl)) ?_
  refine V 4 57 (ma 12 (.slice as10_0 r14.length ns10_0)) ?_
  refine Nt ?_
  refine CWP.ret (by kernel_rfl) ?_
  have hb66 := RowR.bound hrs10_0
  obtain ⟨F3, hs63, le64, hs65⟩ : ∃ Fq, HS w0 F0 w59 Fq [(some D58, (.deferred (some []))), (sb b1 #[(.slice as10_0 r14.length ns10_0)] 57)] ∧ Mem.le F2 Fq ∧ SlA tBound Fq as10_0 r14 := HS.freezeRow hs62 (k := 1) rfl hrs10_0
  have hs67 := hs63.put (k := 0) rfl (.deferred none)
  have hs68 : HS w0 F0 (putB w59 D58 (.deferred none)) F3 [(sb b1 #[(.slice as10_0 r14.length ns10_0)] 57)] := hs67.drop 0
  have hfin := some_inj h16
  subst hfin
  exact .inr ⟨D58, rfl, hs63.ownAt (k := 0) rfl, (.slice as10_0 r14.length ns10_0), res_of (l := [.tmp 4]) (by kernel_rfl) (vs := [(.slice as10_0 r14.length ns10_0)]) ⟨rfl, trivial⟩, (.slice as10_0 r14.length ns10_0), F3, rfl, hs68.clear, ⟨as10_0, ns10_0, rfl, hb66, hs65⟩⟩
end Go.Proofs.Ythbcnabeabcmlaa
namespace Go.Proofs.Ythbcnabeabcmlaa
open Go.Proofs
def slices_Collect_api_Bound (N : Nat) (x0 : System) : Option (List Bound) :=
 ((slices_AppendSeq_api_Bound_api_Bound N x0).bind fun r1 => some r1)
theorem co_slices_Collect_api_Bound : CallOk Try.prog 75 := fun _ _ => by kernel_rfl
set_option maxHeartbeats 4000000 in
set_option maxRecDepth 100000 in
theorem c_slices_Collect_api_Bound (N : Nat) (w0 : World) (F0 : Mem) (hF : ∀ b o, F0 b = some o → w0.heap[b]? = some o) (x0 : System) (a0_0_0 : Option Addr) (n0_0_0 : Nat) (hb0_0_0 : LC x0.Tracks.length n0_0_0) (hs0_0_0 : SlA tTrack F0 a0_0_0 x0.Tracks) (a0_0_1 : Option Addr) (n0_0_1 : Nat) (hb0_0_1 : LC x0.Ties.length n0_0_1) (hs0_0_1 : SlA tTie F0 a0_0_1 x0.Ties) (b0_0 : Nat) (hF0_0 : F0 b0_0 = some (oc (kSystem x0 a0_0_0 n0_0_0 a0_0_1 n0_0_1) 25)) (r : (List Bound)) (h : slices_Collect_api_Bound N x0 = some r) :
  Calls Try.prog 75 ([(.func (.func 120) #[] #[(.pointer (some ⟨b0_0, 0, none⟩))])] : List Value).toArray w0 (FRet w0 F0 fun F' v => ∃ (aq0_0 : Option Addr) (nq0_0 : Nat), v = (.slice aq0_0 r.length nq0_0) ∧ LC r.length nq0_0 ∧ SlA tBound F' aq0_0 r) := by
 have hs0 := HS.start hF
 refine calls_of (n := 5) (c := bodyOf Try.f75) Try.func75 (by kernel_rfl) (by kernel_rfl) (by kernel_rfl) ?_
 refine Sq (Rg [0] ?_)
 refine V 2 57 (mc (.slice none 0 0) (.slice none ([] : List Bound).length 0)) ?_
 refine Nss (Rg [0, 1, 2] ?_)
 refine V 3 105 (mv 0 (.func (.func 120) #[] #[(.pointer (some ⟨b0_0, 0, none⟩))])) ?_
 obtain ⟨r1, hr2, h3⟩ := bind_some h
 refine Cl 4 57 119 #[(.const (.slice none 0 0)), (.tmp 3)] #[57, 105] co_slices_AppendSeq_api_Bound_api_Bound hs0 (c_slices_AppendSeq_api_Bound_api_Bound N w0 F0 hs0.pers (x0) a0_0_0 n0_0_0 hb0_0_0 hs0_0_0 a0_0_1 n0_0_1 hb0_0_1 hs0_0_1 b0_0 hF0_0 _ hr2) ?_
 intro v4 F1 w5 hs6 le7 hp8
 obtain ⟨ar1_0_0, nr1_0_0, rfl, hbr1_0_0, hsr1_0_0⟩ := hp8
 refine V 2 57 (ma 4 (.slice ar1_0_0 r1.length nr1_0_0)) ?_
 refine Nt ?_
 refine CWP.ret (by kernel_rfl) ?_
 have hfin := some_inj h3
 subst hfin
 exact ⟨rfl, (.slice ar1_0_0 r1.length nr1_0_0), res_of (l := [.tmp 2]) (by kernel_rfl) (vs := [(.slice ar1_0_0 r1.length nr1_0_0)]) ⟨rfl, trivial⟩, (.slice ar1_0_0 r1.length nr1_0_0), F1, rfl, hs6.clear, ⟨ar1_0_0, nr1_0_0, rfl, hbr1_0_0, hsr1_0_0⟩⟩
end Go.Proofs.Ythbcnabeabcmlaa
namespace Go.Proofs.Ythbcnabeabcmlaa
def cnt (J : List Int) (m : Int) : Nat := J.countP fun a => decide (a ≤ m)
theorem sorted_of {l : List Int} (h : allB l.length (okO ltS l) = true) : ∀ (d p : Nat) (hq : p + d + 1 < l.length), l[p]'(by omega) < l[p + d + 1]
 | 0, p, hq => by
  have := allB_t h hq
  simp only [Nat.add_zero] at this hq ⊢
  simp only [okO, getD_at hq, getD_at (show p < l.length by omega), Bool.and_eq_true, ltS, decide_eq_true_eq] at this
  exact this.2
 | d + 1, p, hq => by
  have h1 := sorted_of h d p (by omega)
  have h2 := allB_t h hq
  simp only [okO, getD_at hq, getD_at (show p + (d + 1) < l.length by omega), Bool.and_eq_true, ltS, decide_eq_true_eq] at h2
  exact Int.lt_trans h1 h2.2
theorem sorted_lt {l : List Int} (h : allB l.length (okO ltS l) = true) {p q : Nat} (hpq : p < q) (hq : q < l.length) : l[p] < l[q] := by
 obtain ⟨d, rfl⟩ : ∃ d, q = p + d + 1 := ⟨q - p - 1, by omega⟩
 exact sorted_of h d p hq
theorem cnt_at {J : List Int} {m : Int} {k : Nat} (hk : k ≤ J.length) (h1 : ∀ q (hq : q < J.length), q < k → J[q] ≤ m) (h2 : ∀ q (hq : q < J.length), k ≤ q → m < J[q]) : cnt J m = k := by
 unfold cnt
 rw [← List.take_append_drop k J, List.countP_append]
 have e1 : (J.take k).countP (fun a => decide (a ≤ m)) = k := by
  rw [List.countP_eq_length.2]
  ·simp [hk]
  ·intro a ha
   obtain ⟨i, hi, rfl⟩ := List.getElem_of_mem ha
   simp only [List.length_take] at hi
   rw [List.getElem_take]
   simpa using h1 i (by omega) (by omega)
 have e2 : (J.drop k).countP (fun a => decide (a ≤ m)) = 0 := by
  rw [List.countP_eq_zero]
  intro a ha
  obtain ⟨i, hi, rfl⟩ := List.getElem_of_mem ha
  simp only [List.length_drop] at hi
  rw [List.getElem_drop]
  have := h2 (k + i) (by omega) (by omega)
  simp; omega
 rw [e1, e2]; rfl
theorem mid_eq {i j : Nat} (h : i + j < 4611686018427387904) : W64 (Int.fdiv (IntKind.u64.wrap (W64 ((i : Int) + (j : Int)))) (2 ^ min (1 : Int).toNat IntKind.u64.bits)) = (((i + j) / 2 : Nat) : Int) := by
 have e1 : W64 ((i : Int) + (j : Int)) = ((i + j : Nat) : Int) := by rw [W64_id (by omega) (by omega)]; simp
 have e2 : IntKind.u64.wrap ((i + j : Nat) : Int) = ((i + j : Nat) : Int) := by
  unfold IntKind.wrap
  simp [IntKind.signed, IntKind.bits]
  omega
 have e3 : (2 ^ min (1 : Int).toNat IntKind.u64.bits : Int) = 2 := by decide
 rw [e1, e2, e3, Int.fdiv_eq_ediv_of_nonneg _ (by omega)]
 rw [W64_id (by omega) (by omega)]
 omega
theorem less_eq (N : Nat) (a b : Int) : cmp_Less_int N a b = some (decide (a < b)) := by
 unfold cmp_Less_int cmp_isNaN_int
 simp
theorem search_eq {N : Nat} {J : List Int} {t : Int} (hN : J.length < N) (hl : J.length ≤ 1000) (hs : allB J.length (okO ltS J) = true) :
  ∃ k b, k ≤ J.length ∧ slices_BinarySearch_int_int N J t = some ((k : Int), b) ∧ (∀ q (hq : q < J.length), q < k → J[q] < t) ∧ (∀ q (hq : q < J.length), k ≤ q → t ≤ J[q]) := by
 unfold slices_BinarySearch_int_int
 obtain ⟨o, ho, k, rfl, hk, h1, h2⟩ := iter_ex (body := slices_BinarySearch_int_int_L0 N J t) J.length
  (fun i s => ∃ lo hi : Nat, s = ((lo : Int), (hi : Int)) ∧ lo ≤ hi ∧ hi ≤ J.length ∧ hi - lo ≤ J.length - i ∧ (∀ q (hq : q < J.length), q < lo → J[q] < t) ∧ (∀ q (hq : q < J.length), hi ≤ q → t ≤ J[q]))
  (fun o => ∃ k : Nat, o = .done ((k : Int), (k : Int)) ∧ k ≤ J.length ∧ (∀ q (hq : q < J.length), q < k → J[q] < t) ∧ (∀ q (hq : q < J.length), k ≤ q → t ≤ J[q])) (by
   rintro i s hi ⟨lo, hi', rfl, hle, hhi, hd, h1, h2⟩
   unfold slices_BinarySearch_int_int_L0
   simp only
   by_cases hlt : lo < hi'
   ·have hm : (lo + hi') / 2 < J.length := by omega
    simp only [lt_t hlt, cond_true, mid_eq (show lo + hi' < 4611686018427387904 by omega), idx_nat hm, Option.bind_some, less_eq]
    by_cases hc : J[(lo + hi') / 2] < t
    ·left
     simp only [hc, decide_true, cond_true]
     rw [W64_succ (by omega)]
     refine ⟨_, rfl, ⟨(lo + hi') / 2 + 1, hi', rfl, by omega, hhi, by omega, fun q hq hql => ?_, h2⟩, by omega⟩
     by_cases hqm : q = (lo + hi') / 2
     ·subst hqm; exact hc
     ·exact Int.lt_trans (sorted_lt hs (by omega) hm) hc
    ·left
     simp only [hc, decide_false, cond_false]
     refine ⟨_, rfl, ⟨lo, (lo + hi') / 2, rfl, by omega, by omega, by omega, h1, fun q hq hql => ?_⟩, by omega⟩
     by_cases hqm : q = (lo + hi') / 2
     ·subst hqm; omega
     ·have := sorted_lt hs (show (lo + hi') / 2 < q by omega) hq
      omega
   ·right
    have : lo = hi' := by omega
    subst this
    simp only [lt_f, cond_false]
    exact ⟨_, rfl, fun _ h => (by cases h), lo, rfl, hhi, h1, h2⟩) J.length N 0 (0, (J.length : Int)) (by omega) ⟨0, J.length, rfl, by omega, by omega, by omega, fun q hq h => by omega, fun q hq h => by omega⟩ hN
 rw [ho]
 simp only [Option.bind_some, Flow.k]
 by_cases hkl : k < J.length
 ·simp only [lt_t hkl, cond_true, idx_nat hkl, Option.bind_some]
  cases (J[k] == t) with
  | true => exact ⟨k, true, hk, by simp, h1, h2⟩
  | false => exact ⟨k, false, hk, by simp [slices_isNaN_int], h1, h2⟩
 ·have : k = J.length := by omega
  refine ⟨k, false, hk, ?_, h1, h2⟩
  rw [this, lt_f]; rfl
theorem clock_facts {c : Clock} (h : vClock c = true) : allB c.Jumps.length (okO ltS c.Jumps) = true ∧ c.Jumps.length ≤ 16 ∧ 0 ≤ c.Slip ∧ c.Slip ≤ 1440 ∧ 0 ≤ c.Drift ∧ c.Drift ≤ 100 := by
 unfold vClock inr at h
 simp only [Bool.and_eq_true, decide_eq_true_eq] at h
 obtain ⟨h1, ⟨h2, h3⟩, ⟨h4, h5⟩, h6⟩ := h
 exact ⟨h1, by omega, h2, h3, h4, h5⟩
theorem segment_c {N : Nat} {c : Clock} {m : Int} (hN : c.Jumps.length < N) (hv : vClock c = true) (h0 : 0 ≤ m) (h1 : m ≤ 20000) : clocks_segment N c m = some ((cnt c.Jumps m : Nat) : Int) := by
 obtain ⟨hs, hl, _⟩ := clock_facts hv
 unfold clocks_segment
 rw [W64_id (by omega) (by omega)]
 obtain ⟨k, b, hk, h2, h3, h4⟩ := search_eq (t := m + 1) hN (by omega) hs
 rw [h2, cnt_at hk (fun q hq hqk => by have := h3 q hq hqk; omega) (fun q hq hqk => by have := h4 q hq hqk; omega)]
 rfl
def jmp (J : List Int) (a b : Int) : Bool := J.any fun x => decide (a < x) && decide (x ≤ b)
theorem cnt_split (J : List Int) {a b : Int} (h : a ≤ b) : cnt J b = cnt J a + J.countP fun x => decide (a < x) && decide (x ≤ b) := by
 unfold cnt
 induction J with
 | nil => rfl
 | cons x J ih =>
  rw [List.countP_cons, List.countP_cons, List.countP_cons, ih]
  by_cases h1 : x ≤ a
  ·have : x ≤ b := by omega
   simp [h1, this, Int.not_lt.2 h1]; omega
  ·by_cases h2 : x ≤ b
   ·simp [h1, h2, Int.not_le.1 h1]; omega
   ·simp [h1, h2]
theorem cnt_jmp (J : List Int) {a b : Int} (h : a ≤ b) : (((cnt J a : Nat) : Int) != ((cnt J b : Nat) : Int)) = jmp J a b := by
 rw [cnt_split J h]
 unfold jmp
 cases e : J.any (fun x => decide (a < x) && decide (x ≤ b)) with
 | true =>
  rw [List.any_eq_true] at e
  have := (List.countP_pos_iff (p := fun x => decide (a < x) && decide (x ≤ b)) (l := J)).2 e
  simp; omega
 | false =>
  rw [List.any_eq_false] at e
  have : J.countP (fun x => decide (a < x) && decide (x ≤ b)) = 0 := List.countP_eq_zero.2 e
  rw [this]; simp
def beg : Ref := { Log := -1, Line := 0 }
def slipB (i : Int) (t : Track) (j : Nat) : List Bound :=
  [{ From := beg, To := { Log := i, Line := (j : Int) }, Most := W64 (t.Times.getD j 0 + t.Clock.Slip), Kind := 1, ID := (j : Int) },
   { From := { Log := i, Line := (j : Int) }, To := beg, Most := W64 (t.Clock.Slip - t.Times.getD j 0), Kind := 1, ID := (j : Int) }]
def gapB (t : Track) (j : Nat) : Int := W64 (t.Times.getD (j + 1) 0 - t.Times.getD j 0)
def widB (t : Track) (j : Nat) : Int := W64 (1 + (W64 (Int.tdiv (W64 ((W64 (t.Clock.Drift * gapB t j)) + 999)) 1000)))
def ordB (i : Int) (t : Track) (j : Nat) : List Bound :=
  ({ From := { Log := i, Line := ((j + 1 : Nat) : Int) }, To := { Log := i, Line := (j : Int) }, Most := 0, Kind := 2, ID := (j : Int) } : Bound) ::
  (bif jmp t.Clock.Jumps (t.Times.getD j 0) (t.Times.getD (j + 1) 0) then [] else
    [{ From := { Log := i, Line := (j : Int) }, To := { Log := i, Line := ((j + 1 : Nat) : Int) }, Most := W64 (gapB t j + widB t j), Kind := 3, ID := (j : Int) },
     { From := { Log := i, Line := ((j + 1 : Nat) : Int) }, To := { Log := i, Line := (j : Int) }, Most := W64 (widB t j - gapB t j), Kind := 3, ID := (j : Int) }])
def tieB (s : System) (j : Nat) : List Bound := match s.Ties[j]? with
 | none => []
 | some t => [{ From := t.A, To := t.B, Most := s.Window, Kind := 4, ID := (j : Int) }, { From := t.B, To := t.A, Most := s.Window, Kind := 4, ID := (j : Int) }]
def slips (s : System) (i : Nat) : List Bound := match s.Tracks[i]? with
 | none => []
 | some t => cat t.Times.length (slipB (i : Int) t)
def ords (s : System) (i : Nat) : List Bound := match s.Tracks[i]? with
 | none => []
 | some t => cat (t.Times.length - 1) (ordB (i : Int) t)
def bnds (s : System) : List Bound := cat s.Tracks.length (slips s) ++ (cat s.Tracks.length (ords s) ++ cat s.Ties.length (tieB s))
theorem ordB_len (i : Int) (t : Track) (j : Nat) : (ordB i t j).length ≤ 3 := by
 unfold ordB; cases jmp t.Clock.Jumps (t.Times.getD j 0) (t.Times.getD (j + 1) 0) <;> simp
theorem track_facts {t : Track} (h : vTrack t = true) : allB t.Times.length (okO ltE t.Times) = true ∧ vClock t.Clock = true ∧ t.Times.length ≤ 400 := by
 unfold vTrack at h
 simp only [Bool.and_eq_true, decide_eq_true_eq] at h
 exact ⟨h.1, h.2.1, by omega⟩
theorem times_in {t : Track} (h : vTrack t = true) {j : Nat} (hj : j < t.Times.length) : 0 ≤ t.Times[j] ∧ t.Times[j] ≤ 20000 := by
 have := allB_t (track_facts h).1 hj
 cases j with
 | zero => simp only [okO, getD_at hj, inr, Bool.and_eq_true, decide_eq_true_eq] at this; exact this
 | succ k => simp only [okO, getD_at hj, inr, Bool.and_eq_true, decide_eq_true_eq] at this; exact this.1
theorem times_up {t : Track} (h : vTrack t = true) {j : Nat} (hj : j + 1 < t.Times.length) : t.Times[j] ≤ t.Times[j + 1] := by
 have := allB_t (track_facts h).1 hj
 simp only [okO, getD_at hj, getD_at (show j < t.Times.length by omega), ltE, Bool.and_eq_true, decide_eq_true_eq] at this
 exact this.2
theorem check_ok {s : System} (h : vCheck s = 0) : s.Tracks.length ≤ 64 ∧ s.Ties.length ≤ 400 ∧ (∀ t, t ∈ s.Tracks → vTrack t = true) ∧ 0 ≤ s.Window ∧ s.Window ≤ 120 ∧ (∀ t, t ∈ s.Ties → vTie s t = true) := by
 unfold vCheck at h
 cases e : (decide ((s.Tracks.length : Int) > 64) || decide ((s.Ties.length : Int) > 400)) with
 | true => rw [e] at h; cases h
 | false =>
  rw [e] at h
  simp only [Bool.or_eq_false_iff, decide_eq_false_iff_not] at e
  cases e2 : (s.Tracks.all vTrack && (inr s.Window 0 120 && s.Ties.all (vTie s))) with
  | false => rw [e2] at h; cases h
  | true =>
   unfold inr at e2
   simp only [Bool.and_eq_true, decide_eq_true_eq, List.all_eq_true] at e2
   exact ⟨by omega, by omega, e2.1, e2.2.1.1, e2.2.1.2, e2.2.2⟩
theorem slips_len {s : System} (h : vCheck s = 0) {i : Nat} (hi : i < s.Tracks.length) : (slips s i).length ≤ 800 := by
 unfold slips
 rw [List.getElem?_eq_getElem hi]
 have h1 := (track_facts ((check_ok h).2.2.1 _ (List.getElem_mem hi))).2.2
 have := cat_le (n := s.Tracks[i].Times.length) (K := 2) (f := slipB (i : Int) s.Tracks[i]) (fun _ _ => Nat.le_refl _)
 simp only
 omega
theorem ords_len {s : System} (h : vCheck s = 0) {i : Nat} (hi : i < s.Tracks.length) : (ords s i).length ≤ 1200 := by
 unfold ords
 rw [List.getElem?_eq_getElem hi]
 have h1 := (track_facts ((check_ok h).2.2.1 _ (List.getElem_mem hi))).2.2
 have := cat_le (n := s.Tracks[i].Times.length - 1) (K := 3) (f := ordB (i : Int) s.Tracks[i]) (fun j _ => ordB_len _ _ j)
 simp only
 omega
theorem tieB_len (s : System) (j : Nat) : (tieB s j).length ≤ 2 := by
 unfold tieB; cases s.Ties[j]? <;> simp
section
variable {N : Nat} {s : System}
abbrev yC (N : Nat) (x : System) : List Bound → Bound → Option (Bool × List Bound) := fun st b => ((slices_AppendSeq_api_Bound_api_Bound_L0 N x) st b).map fun t => (true, t)
theorem yC_eq {x : System} {st : List Bound} {b : Bound} (h : st.length + 1 < 4294967296) : yC N x st b = some (true, st ++ [b]) := by
 unfold yC slices_AppendSeq_api_Bound_api_Bound_L0
 rw [apnd_ok (by simpa using h)]; rfl
theorem collect_c (hf : FitS N s) (h : vCheck s = 0) : slices_Collect_api_Bound N s = some (bnds s) := by
 obtain ⟨k1, k2, k3, k4, k5, k6⟩ := check_ok h
 unfold slices_Collect_api_Bound slices_AppendSeq_api_Bound_api_Bound clocks_bounds_1
 have hn := hf.n.2
 rw [iter_cat (body := clocks_bounds_1_L0 N (yC N s) s []) (n := s.Tracks.length) 800 (slips s) (fun i hi => slips_len h hi) (fun i st hi hst => by
  unfold clocks_bounds_1_L0
  have ht := hf.t _ (List.getElem_mem hi)
  have h400 := (track_facts (k3 _ (List.getElem_mem hi))).2.2
  simp only [lt_t hi, cond_true, idx_nat hi, Option.bind_some]
  rw [iter_cat (body := clocks_bounds_1_L1 N (yC N s) s [] ((i : Int), st) s.Tracks[i]) (n := s.Tracks[i].Times.length) 2 (slipB (i : Int) s.Tracks[i]) (fun _ _ => Nat.le_refl _) (fun j st2 hj hst2 => by
   unfold clocks_bounds_1_L1
   simp only [lt_t hj, cond_true, idx_nat hj, Option.bind_some, clocks_beginning]
   simp only [List.length_nil] at hst
   rw [yC_eq (by omega)]
   simp only [Option.bind_some, Bool.not_true, cond_false]
   rw [yC_eq (by simp; omega)]
   simp only [Option.bind_some, Bool.not_true, cond_false]
   rw [W64_succ (by omega)]
   simp [slipB, hj, beg]) (fun st2 => by unfold clocks_bounds_1_L1; simp only [lt_f]; rfl) ht.t.2]
  simp only [Option.bind_some, Flow.k]
  rw [W64_succ (by omega)]
  simp [slips, hi]) (fun st => by unfold clocks_bounds_1_L0; simp only [lt_f]; rfl) hn]
 simp only [Option.bind_some, Flow.k, List.nil_append]
 have hl1 := cat_le (n := s.Tracks.length) (K := 800) (f := slips s) (fun i hi => slips_len h hi)
 generalize hA : cat s.Tracks.length (slips s) = A at *
 rw [iter_cat (body := clocks_bounds_1_L2 N (yC N s) s [] ((s.Tracks.length : Int), A)) (n := s.Tracks.length) 1200 (ords s) (fun i hi => ords_len h hi) (fun i st hi hst => by
  unfold clocks_bounds_1_L2
  have ht := hf.t _ (List.getElem_mem hi)
  have hv := k3 _ (List.getElem_mem hi)
  have hvc := (track_facts hv).2.1
  have h400 := (track_facts hv).2.2
  simp only [lt_t hi, cond_true, idx_nat hi, Option.bind_some]
  have ht2 := ht.t.2
  rw [iter_cat (body := clocks_bounds_1_L3 N (yC N s) s [] ((s.Tracks.length : Int), A) ((i : Int), st) s.Tracks[i]) (n := s.Tracks[i].Times.length - 1) 3 (ordB (i : Int) s.Tracks[i]) (fun j _ => ordB_len _ _ j) (fun j st2 hj hst2 => by
   unfold clocks_bounds_1_L3
   have hj1 : j + 1 < s.Tracks[i].Times.length := by omega
   have hj0 : j < s.Tracks[i].Times.length := by omega
   have hi0 := times_in hv hj0
   have hi1 := times_in hv hj1
   simp only
   rw [W64_succ (by omega)]
   simp only [lt_t hj1, cond_true, idx_nat hj1, idx_nat hj0, Option.bind_some, segment_c ht.j.2 hvc hi0.1 hi0.2, segment_c ht.j.2 hvc hi1.1 hi1.2, cnt_jmp _ (times_up hv hj1)]
   rw [yC_eq (by omega)]
   simp only [Option.bind_some, Bool.not_true, cond_false]
   cases hjm : jmp s.Tracks[i].Clock.Jumps s.Tracks[i].Times[j] s.Tracks[i].Times[j + 1] with
   | true => simp [ordB, hj0, hj1, hjm]
   | false =>
    simp only [cond_false]
    rw [yC_eq (by simp; omega)]
    simp only [Option.bind_some, Bool.not_true, cond_false]
    rw [yC_eq (by simp; omega)]
    simp [ordB, hj0, hj1, hjm, gapB, widB]) (fun st2 => by
     unfold clocks_bounds_1_L3
     have e : decide (W64 (((s.Tracks[i].Times.length - 1 : Nat) : Int) + 1) < (s.Tracks[i].Times.length : Int)) = false := by
      rw [W64_succ (by omega)]; simp; omega
     simp only [e]; rfl) (by omega)]
  simp only [Option.bind_some, Flow.k]
  rw [W64_succ (by omega)]
  simp [ords, hi]) (fun st => by unfold clocks_bounds_1_L2; simp only [lt_f]; rfl) hn]
 simp only [Option.bind_some, Flow.k]
 have hl2 := cat_le (n := s.Tracks.length) (K := 1200) (f := ords s) (fun i hi => ords_len h hi)
 have he := hf.e.2
 rw [iter_cat (body := clocks_bounds_1_L4 N (yC N s) s [] ((s.Tracks.length : Int), A) ((s.Tracks.length : Int), A ++ cat s.Tracks.length (ords s))) (n := s.Ties.length) 2 (tieB s) (fun j _ => tieB_len _ j) (fun j st hj hst => by
  unfold clocks_bounds_1_L4
  simp only [List.length_append] at hst
  simp only [lt_t hj, cond_true, idx_nat hj, Option.bind_some]
  rw [yC_eq (by omega)]
  simp only [Option.bind_some, Bool.not_true, cond_false]
  rw [yC_eq (by simp; omega)]
  simp only [Option.bind_some, Bool.not_true, cond_false]
  rw [W64_succ (by omega)]
  simp [tieB, hj]) (fun st => by unfold clocks_bounds_1_L4; simp only [lt_f]; rfl) he]
 simp only [Option.bind_some, Flow.k, bnds, hA, List.append_assoc]
end
end Go.Proofs.Ythbcnabeabcmlaa
namespace Go.Proofs.Ythbcnabeabcmlaa
namespace BF
structure St (V E : Type) where
 at_ : V → Option Int
 by_ : V → Option E
section
variable {V E : Type} [DecidableEq V] (src dst : E → V) (w : E → Int)
inductive Walk (l : List E) : V → V → Int → Prop
 | nil (x : V) : Walk l x x 0
 | snoc {x : V} {n : Int} {e : E} {y : V} : Walk l x y n → e ∈ l → src e = y → Walk l x (dst e) (n + w e)
def NoNeg (l : List E) : Prop := ∀ x n, Walk src dst w l x x n → 0 ≤ n
def IsDist (l : List E) (x y : V) (n : Int) : Prop := Walk src dst w l x y n ∧ ∀ m, Walk src dst w l x y m → n ≤ m
def hot (st : St V E) (e : E) : Bool := match st.at_ (src e) with
 | none => false
 | some n => match st.at_ (dst e) with
  | none => true
  | some m => decide (n + w e < m)
def put (st : St V E) (e : E) : St V E := match st.at_ (src e) with
 | none => st
 | some n => ⟨fun x => if x = dst e then some (n + w e) else st.at_ x, fun x => if x = dst e then some e else st.by_ x⟩
def Closed (st : St V E) (e : E) : Prop := ∀ n, st.at_ (src e) = some n → ∃ m, st.at_ (dst e) = some m ∧ m ≤ n + w e
structure Inv (frm : V) (l : List E) (k : Nat) (pre suf : List E) (st : St V E) (ts rd : V → Nat) (now : Nat) : Prop where
 base : ∃ n, st.at_ frm = some n ∧ n ≤ 0
 walk : ∀ x n, st.at_ x = some n → Walk src dst w l frm x n
 par : ∀ x e, st.by_ x = some e → e ∈ l ∧ dst e = x ∧ ∃ n m, st.at_ (src e) = some m ∧ st.at_ x = some n ∧ (m + w e < n ∨ m + w e = n ∧ ts (src e) < ts x)
 root : ∀ x n, st.at_ x = some n → st.by_ x = none → x = frm ∧ n = 0
 tsle : ∀ x, ts x ≤ now
 rdle : ∀ x, rd x ≤ k + 1
 rdby : ∀ x e, st.by_ x = some e → 1 ≤ rd x ∧ rd x ≤ rd (src e) + 1
 rdno : ∀ x, st.by_ x = none → rd x = 0
 pres : ∀ e, e ∈ pre → rd (src e) < k + 1 → Closed src dst w st e
 sufs : ∀ e, e ∈ suf → rd (src e) < k → Closed src dst w st e
 sub : ∀ e, e ∈ pre ∨ e ∈ suf → e ∈ l
variable {src dst w}
theorem closed_of_cold {st : St V E} {e : E} (h : hot src dst w st e = false) : Closed src dst w st e := by
 intro n hn
 unfold hot at h
 rw [hn] at h
 cases hm : st.at_ (dst e) with
 | none => simp [hm] at h
 | some m => simp [hm] at h; exact ⟨m, rfl, h⟩
theorem not_closed_of_hot {st : St V E} {e : E} (h : hot src dst w st e = true) : ¬ Closed src dst w st e := by
 intro hc
 unfold hot at h
 cases hn : st.at_ (src e) with
 | none => simp [hn] at h
 | some n =>
  obtain ⟨m, hm, hle⟩ := hc n hn
  simp [hn, hm] at h
  omega
theorem Inv.cold {frm : V} {l : List E} {k : Nat} {pre suf : List E} {st : St V E} {ts rd : V → Nat} {now : Nat} {e : E}
  (h : Inv src dst w frm l k pre (e :: suf) st ts rd now) (hh : hot src dst w st e = false) :
  Inv src dst w frm l k (e :: pre) suf st ts rd now where
 base := h.base
 walk := h.walk
 par := h.par
 root := h.root
 tsle := h.tsle
 rdle := h.rdle
 rdby := h.rdby
 rdno := h.rdno
 pres := fun e' he' hr => by
  rcases List.mem_cons.1 he' with rfl | he'
  ·exact closed_of_cold hh
  ·exact h.pres e' he' hr
 sufs := fun e' he' => h.sufs e' (List.mem_cons_of_mem _ he')
 sub := fun e' he' => h.sub e' (by
  rcases he' with he' | he'
  ·rcases List.mem_cons.1 he' with rfl | he'
   ·exact .inr (List.mem_cons_self ..)
   ·exact .inl he'
  ·exact .inr (List.mem_cons_of_mem _ he'))
theorem Inv.hot {frm : V} {l : List E} {k : Nat} {pre suf : List E} {st : St V E} {ts rd : V → Nat} {now : Nat} {e : E}
  (h : Inv src dst w frm l k pre (e :: suf) st ts rd now) (hh : hot src dst w st e = true) :
  Inv src dst w frm l k (e :: pre) suf (put src dst w st e) (fun x => if x = dst e then now + 1 else ts x) (fun x => if x = dst e then k + 1 else rd x) (now + 1) := by
 have he : e ∈ l := h.sub e (.inr (List.mem_cons_self ..))
 have hrk : k ≤ rd (src e) := by
  rcases Nat.lt_or_ge (rd (src e)) k with hlt | hge
  ·exact absurd (h.sufs e (List.mem_cons_self ..) hlt) (not_closed_of_hot hh)
  ·exact hge
 obtain ⟨n, hn⟩ : ∃ n, st.at_ (src e) = some n := by
  unfold BF.hot at hh
  cases hn : st.at_ (src e) with
  | none => simp [hn] at hh
  | some n => exact ⟨n, rfl⟩
 have hold : ∀ m, st.at_ (dst e) = some m → n + w e < m := by
  intro m hm
  unfold BF.hot at hh
  simp [hn, hm] at hh
  exact hh
 have hp : put src dst w st e = ⟨fun x => if x = dst e then some (n + w e) else st.at_ x, fun x => if x = dst e then some e else st.by_ x⟩ := by
  unfold put; rw [hn]
 rw [hp]
 have keep : ∀ e', src e' ≠ dst e → Closed src dst w st e' → Closed src dst w ⟨fun x => if x = dst e then some (n + w e) else st.at_ x, fun x => if x = dst e then some e else st.by_ x⟩ e' := by
  intro e' hs hc n' hn'
  simp only [hs, if_false] at hn'
  obtain ⟨m, hm, hle⟩ := hc n' hn'
  by_cases hd : dst e' = dst e
  ·refine ⟨n + w e, by simp [hd], ?_⟩
   have := hold m (by rw [← hd]; exact hm)
   omega
  ·exact ⟨m, by simp [hd, hm], hle⟩
 refine ⟨?_, ?_, ?_, ?_, ?_, ?_, ?_, ?_, ?_, ?_, ?_⟩
 ·obtain ⟨b, hb, hle⟩ := h.base
  by_cases hd : frm = dst e
  ·refine ⟨n + w e, by simp [hd], ?_⟩
   have := hold b (by rw [← hd]; exact hb)
   omega
  ·exact ⟨b, by simp [hd, hb], hle⟩
 ·intro x m hx
  by_cases hd : x = dst e
  ·simp [hd] at hx
   subst hx; subst hd
   exact .snoc (h.walk _ _ hn) he rfl
  ·simp [hd] at hx
   exact h.walk x m hx
 ·intro x e' hx
  by_cases hd : x = dst e
  ·simp only [hd, if_true, Option.some.injEq] at hx
   subst hx
   refine ⟨he, hd.symm, n + w e, ?_⟩
   by_cases hs : src e = dst e
   ·refine ⟨n + w e, by simp [hs], by simp [hd], .inl ?_⟩
    have := hold n (by rw [← hs]; exact hn)
    omega
   ·refine ⟨n, by simp [hs, hn], by simp [hd], .inr ⟨rfl, ?_⟩⟩
    simp only [hs, if_false, hd, if_true]
    have := h.tsle (src e)
    omega
  ·simp only [hd, if_false] at hx
   obtain ⟨h1, h2, n', m', h3, h4, h5⟩ := h.par x e' hx
   refine ⟨h1, h2, n', ?_⟩
   by_cases hs : src e' = dst e
   ·refine ⟨n + w e, by simp [hs], by simp [hd, h4], .inl ?_⟩
    have := hold m' (by rw [← hs]; exact h3)
    rcases h5 with h5 | h5 <;> omega
   ·refine ⟨m', by simp [hs, h3], by simp [hd, h4], ?_⟩
    simp only [hs, if_false, hd]
    exact h5
 ·intro x m hx hb
  by_cases hd : x = dst e
  ·simp [hd] at hb
  ·simp only [hd, if_false] at hx hb
   exact h.root x m hx hb
 ·intro x
  have := h.tsle x
  by_cases hd : x = dst e <;> simp only [hd, if_true, if_false] <;> omega
 ·intro x
  have := h.rdle x
  by_cases hd : x = dst e
  ·simp only [hd, if_true]; omega
  ·simp only [hd, if_false]; omega
 ·intro x e' hx
  by_cases hd : x = dst e
  ·simp only [hd, if_true, Option.some.injEq] at hx
   subst hx
   simp only [hd, if_true]
   by_cases hs : src e = dst e
   ·simp [hs]
   ·simp only [hs, if_false]; omega
  ·simp only [hd, if_false] at hx ⊢
   have := h.rdby x e' hx
   have h2 := h.rdle x
   by_cases hs : src e' = dst e
   ·simp only [hs, if_true]; omega
   ·simp only [hs, if_false]; omega
 ·intro x hx
  by_cases hd : x = dst e
  ·simp [hd] at hx
  ·simp only [hd, if_false] at hx ⊢
   exact h.rdno x hx
 ·intro e' he' hr
  by_cases hs : src e' = dst e
  ·simp [hs] at hr
  ·simp only [hs, if_false] at hr
   rcases List.mem_cons.1 he' with rfl | he'
   ·-- the edge itself
    intro n' hn'
    simp only [hs, if_false] at hn'
    rw [hn] at hn'
    cases hn'
    exact ⟨n + w e', by simp, Int.le_refl _⟩
   ·exact keep e' hs (h.pres e' he' hr)
 ·intro e' he' hr
  by_cases hs : src e' = dst e
  ·simp only [hs, if_true] at hr; omega
  ·simp only [hs, if_false] at hr
   exact keep e' hs (h.sufs e' (List.mem_cons_of_mem _ he') hr)
 ·intro e' he'
  rcases he' with he' | he'
  ·rcases List.mem_cons.1 he' with rfl | he'
   ·exact he
   ·exact h.sub e' (.inl he')
  ·exact h.sub e' (.inr (List.mem_cons_of_mem _ he'))
theorem Inv.next {frm : V} {l : List E} {k : Nat} {pre : List E} {st : St V E} {ts rd : V → Nat} {now : Nat}
  (h : Inv src dst w frm l k pre [] st ts rd now) (hp : ∀ e, e ∈ l → e ∈ pre) :
  Inv src dst w frm l (k + 1) [] l st ts rd now :=
 { h with
  rdle := fun x => Nat.le_trans (h.rdle x) (by omega)
  pres := fun e he => by cases he
  sufs := fun e he hr => h.pres e (hp e he) hr
  sub := fun e he => by rcases he with he | he; cases he; exact he }
def init (frm : V) : St V E := ⟨fun x => if x = frm then some 0 else none, fun _ => none⟩
theorem Inv.init (frm : V) (l : List E) : Inv src dst w frm l 0 [] l (init frm) (fun _ => 0) (fun _ => 0) 0 where
 base := ⟨0, by simp [BF.init], Int.le_refl _⟩
 walk := fun x n hx => by
  by_cases h : x = frm
  ·simp [BF.init, h] at hx; subst hx; subst h; exact .nil _
  ·simp [BF.init, h] at hx
 par := fun x e hx => by simp [BF.init] at hx
 root := fun x n hx _ => by
  by_cases h : x = frm
  ·simp [BF.init, h] at hx; exact ⟨h, hx.symm⟩
  ·simp [BF.init, h] at hx
 tsle := fun _ => Nat.le_refl _
 rdle := fun _ => Nat.zero_le _
 rdby := fun x e hx => by simp [BF.init] at hx
 rdno := fun _ _ => rfl
 pres := fun e he => by cases he
 sufs := fun e _ hr => by omega
 sub := fun e he => by rcases he with he | he; cases he; exact he
theorem walk_closed {l : List E} {st : St V E} (hc : ∀ e, e ∈ l → Closed src dst w st e) {x y : V} {n m : Int}
  (hw : Walk src dst w l x y n) (hx : st.at_ x = some m) : ∃ m', st.at_ y = some m' ∧ m' ≤ m + n := by
 induction hw with
 | nil => exact ⟨m, hx, by omega⟩
 | snoc _ he hs ih =>
  obtain ⟨m', h1, h2⟩ := ih
  obtain ⟨m'', h3, h4⟩ := hc _ he m' (by rw [hs]; exact h1)
  exact ⟨m'', h3, by omega⟩
theorem Inv.frm_zero {frm : V} {l : List E} {k : Nat} {pre suf : List E} {st : St V E} {ts rd : V → Nat} {now : Nat}
  (h : Inv src dst w frm l k pre suf st ts rd now) (hc : ∀ e, e ∈ l → Closed src dst w st e) : st.at_ frm = some 0 := by
 obtain ⟨n, hn, hle⟩ := h.base
 obtain ⟨m, h1, h2⟩ := walk_closed hc (h.walk _ _ hn) hn
 rw [hn] at h1; cases h1
 have : n = 0 := by omega
 rw [hn, this]
theorem Inv.dist {frm : V} {l : List E} {k : Nat} {pre suf : List E} {st : St V E} {ts rd : V → Nat} {now : Nat}
  (h : Inv src dst w frm l k pre suf st ts rd now) (hc : ∀ e, e ∈ l → Closed src dst w st e) {x : V} {n : Int} :
  st.at_ x = some n ↔ IsDist src dst w l frm x n := by
 have h0 := h.frm_zero hc
 constructor
 ·intro hx
  refine ⟨h.walk _ _ hx, fun m hm => ?_⟩
  obtain ⟨m', h1, h2⟩ := walk_closed hc hm h0
  rw [hx] at h1; cases h1
  omega
 ·intro ⟨hw, hmin⟩
  obtain ⟨m', h1, h2⟩ := walk_closed hc hw h0
  have := hmin _ (h.walk _ _ h1)
  have : m' = n := by omega
  rw [h1, this]
theorem Walk.trans {l : List E} {x y z : V} {n m : Int} (h : Walk src dst w l x y n) (h2 : Walk src dst w l y z m) : Walk src dst w l x z (n + m) := by
 induction h2 with
 | nil => simpa using h
 | snoc _ he hs ih => rw [← Int.add_assoc]; exact .snoc ih he hs
theorem Walk.one {l : List E} {e : E} (he : e ∈ l) : Walk src dst w l (src e) (dst e) (w e) := by
 have := Walk.snoc (src := src) (dst := dst) (w := w) (l := l) (.nil (src e)) he rfl
 simpa using this
theorem Walk.mono {l l' : List E} (hs : ∀ e, e ∈ l → e ∈ l') {x y : V} {n : Int} (h : Walk src dst w l x y n) : Walk src dst w l' x y n := by
 induction h with
 | nil => exact .nil _
 | snoc _ he hs' ih => exact .snoc ih (hs _ he) hs'
theorem Walk.turn {l : List E} {x y : V} {n : Int} (h : Walk src dst w l x y n) : Walk dst src w l y x n := by
 induction h with
 | nil => exact .nil _
 | @snoc n e y _ he hs ih =>
  have := (Walk.one (src := dst) (dst := src) (w := w) he).trans (hs ▸ ih)
  rw [Int.add_comm] at this
  exact this
theorem walk_turn {l : List E} {x y : V} {n : Int} : Walk dst src w l y x n ↔ Walk src dst w l x y n := ⟨Walk.turn, Walk.turn⟩
theorem noNeg_turn {l : List E} : NoNeg dst src w l ↔ NoNeg src dst w l := by
 unfold NoNeg; simp only [walk_turn]
theorem dist_turn {l : List E} {x y : V} {n : Int} : IsDist dst src w l y x n ↔ IsDist src dst w l x y n := by
 unfold IsDist; simp only [walk_turn]
theorem IsDist.unique {l : List E} {x y : V} {n m : Int} (h : IsDist src dst w l x y n) (h2 : IsDist src dst w l x y m) : n = m := by
 have h1 := h.2 _ h2.1
 have h2 := h2.2 _ h.1
 omega
theorem noNeg_of_closed {l : List E} {st : St V E} (hc : ∀ e, e ∈ l → Closed src dst w st e) (hr : ∀ e, e ∈ l → ∃ n, st.at_ (dst e) = some n) : NoNeg src dst w l := by
 intro x n hw
 cases hw with
 | nil => exact Int.le_refl _
 | @snoc n' e y hw' he hs =>
  obtain ⟨m, hm⟩ := hr e he
  obtain ⟨m', h1, h2⟩ := walk_closed hc (.snoc hw' he hs) hm
  rw [hm] at h1; cases h1
  omega
def parV (src : E → V) (d : V) (st : St V E) (x : V) : V := match st.by_ x with
 | some e => src e
 | none => d
theorem parV_eq {d : V} {st : St V E} {x : V} {e : E} (h : st.by_ x = some e) : parV src d st x = src e := by unfold parV; rw [h]
def itr {α : Type} (f : α → α) : Nat → α → α
 | 0, x => x
 | n + 1, x => itr f n (f x)
theorem itr_succ {α : Type} (f : α → α) (n : Nat) (x : α) : itr f (n + 1) x = f (itr f n x) := by
 induction n generalizing x with
 | zero => rfl
 | succ n ih => rw [itr, ih]; rfl
theorem itr_add {α : Type} (f : α → α) (n m : Nat) (x : α) : itr f (n + m) x = itr f m (itr f n x) := by
 induction n generalizing x with
 | zero => simp [itr]
 | succ n ih => rw [Nat.succ_add]; simp only [itr]; exact ih _
def backSum (w : E → Int) (src : E → V) (d : V) (st : St V E) : Nat → V → Int
 | 0, _ => 0
 | n + 1, x => (match st.by_ x with | some e => w e | none => 0) + backSum w src d st n (parV src d st x)
theorem Inv.chain {frm : V} {l : List E} {k : Nat} {pre suf : List E} {st : St V E} {ts rd : V → Nat} {now : Nat} (d : V)
  (h : Inv src dst w frm l k pre suf st ts rd now) : ∀ (j : Nat) (z : V), j + 1 ≤ rd z → ∀ i, i ≤ j → ∃ e, st.by_ (itr (parV src d st) i z) = some e := by
 intro j
 induction j with
 | zero =>
  intro z hz i hi
  have : i = 0 := by omega
  subst this
  simp only [itr]
  cases hb : st.by_ z with
  | none => have := h.rdno z hb; omega
  | some e => exact ⟨e, rfl⟩
 | succ j ih =>
  intro z hz i hi
  cases hb : st.by_ z with
  | none => have := h.rdno z hb; omega
  | some e =>
   cases i with
   | zero => exact ⟨e, hb⟩
   | succ i =>
    simp only [itr]
    have hp : parV src d st z = src e := by unfold parV; rw [hb]
    rw [hp]
    have := h.rdby z e hb
    exact ih (src e) (by omega) i (by omega)
theorem Inv.back {frm : V} {l : List E} {k : Nat} {pre suf : List E} {st : St V E} {ts rd : V → Nat} {now : Nat} (d : V)
  (h : Inv src dst w frm l k pre suf st ts rd now) : ∀ (p : Nat) (x : V) (a : Int), st.at_ x = some a → (∀ i, i < p → ∃ e, st.by_ (itr (parV src d st) i x) = some e) →
   ∃ b, st.at_ (itr (parV src d st) p x) = some b ∧ (b + backSum w src d st p x < a ∨ b + backSum w src d st p x = a ∧ ts (itr (parV src d st) p x) + p ≤ ts x) := by
 intro p
 induction p with
 | zero => intro x a ha _; exact ⟨a, ha, .inr ⟨by simp [backSum], by simp [itr]⟩⟩
 | succ p ih =>
  intro x a ha hb
  obtain ⟨e, he⟩ := hb 0 (by omega)
  simp only [itr] at he
  obtain ⟨_, _, n, m, h3, h4, h5⟩ := h.par x e he
  rw [ha] at h4; cases h4
  have hp : parV src d st x = src e := by unfold parV; rw [he]
  obtain ⟨b, hb1, hb2⟩ := ih (src e) m h3 (fun i hi => by
   have := hb (i + 1) (by omega)
   simp only [itr, hp] at this
   exact this)
  refine ⟨b, by simp only [itr, hp]; exact hb1, ?_⟩
  simp only [backSum, he, hp, itr]
  rcases hb2 with hb2 | ⟨hb2, hb3⟩ <;> rcases h5 with h5 | ⟨h5, h6⟩
  ·left; omega
  ·left; omega
  ·left; omega
  ·right; constructor <;> omega
theorem Inv.cycle_neg {frm : V} {l : List E} {k : Nat} {pre suf : List E} {st : St V E} {ts rd : V → Nat} {now : Nat} (d : V)
  (h : Inv src dst w frm l k pre suf st ts rd now) {p : Nat} {x : V} (hp : 1 ≤ p) (hb : ∀ i, i < p → ∃ e, st.by_ (itr (parV src d st) i x) = some e)
  (hx : itr (parV src d st) p x = x) : backSum w src d st p x < 0 := by
 obtain ⟨e, he⟩ := hb 0 (by omega)
 obtain ⟨_, _, n, m, _, h4, _⟩ := h.par x e he
 obtain ⟨b, hb1, hb2⟩ := h.back d p x n h4 hb
 rw [hx] at hb1 hb2
 rw [h4] at hb1; cases hb1
 rcases hb2 with hb2 | hb2 <;> omega
theorem pigeon : ∀ (l : List V) (f : Nat → V), (∀ i, i ≤ l.length → f i ∈ l) → ∃ i j, i < j ∧ j ≤ l.length ∧ f i = f j := by
 intro l
 generalize hn : l.length = n
 induction n generalizing l with
 | zero =>
  intro f h
  have : l = [] := List.length_eq_zero_iff.1 hn
  subst this
  have := h 0 (by omega)
  cases this
 | succ n ih =>
  intro f h
  by_cases hex : ∃ i, i < n + 1 ∧ f i = f (n + 1)
  ·obtain ⟨i, hi, he⟩ := hex
   exact ⟨i, n + 1, hi, Nat.le_refl _, he⟩
  ·have hm := h (n + 1) (Nat.le_refl _)
   have hl : (l.erase (f (n + 1))).length = n := by rw [List.length_erase_of_mem hm]; omega
   obtain ⟨i, j, h1, h2, h3⟩ := ih (l.erase (f (n + 1))) hl f (fun i hi => by
    have hne : f i ≠ f (n + 1) := fun he => hex ⟨i, by omega, he⟩
    exact (List.mem_erase_of_ne hne).2 (h i (by omega)))
   exact ⟨i, j, h1, by omega, h3⟩
theorem itr_per {α : Type} (f : α → α) {z : α} {i j : Nat} (hij : i < j) (he : itr f i z = itr f j z) : ∀ m, i ≤ m → itr f (j - i) (itr f m z) = itr f m z ∧ ∃ q, i ≤ q ∧ q < j ∧ itr f m z = itr f q z := by
 intro m
 induction m with
 | zero =>
  intro h
  have : i = 0 := by omega
  subst this
  refine ⟨?_, 0, by omega, by omega, rfl⟩
  have := he.symm
  simpa [itr] using this
 | succ m ih =>
  intro h
  rcases Nat.lt_or_ge m i with hlt | hge
  ·have e : m + 1 = i := by omega
   rw [e]
   refine ⟨?_, i, by omega, by omega, rfl⟩
   rw [← itr_add]
   have : i + (j - i) = j := by omega
   rw [this, ← he]
  ·obtain ⟨h1, q, h2, h3, h4⟩ := ih hge
   refine ⟨?_, ?_⟩
   ·have hcm : ∀ (k : Nat) (y : α), itr f k (f y) = f (itr f k y) := fun k y => itr_succ f k y
    rw [itr_succ, hcm, h1]
   ·by_cases hq : q + 1 < j
    ·exact ⟨q + 1, by omega, hq, by rw [itr_succ, itr_succ, h4]⟩
    ·refine ⟨i, by omega, by omega, ?_⟩
     have e2 : f (itr f q z) = itr f (q + 1) z := (itr_succ f q z).symm
     have e3 : q + 1 = j := by omega
     rw [itr_succ, h4, e2, e3, he]
theorem Inv.loop {frm : V} {l : List E} {k : Nat} {pre suf : List E} {st : St V E} {ts rd : V → Nat} {now : Nat} (d : V)
  (h : Inv src dst w frm l k pre suf st ts rd now) {nodes : List V} (hn : ∀ e, e ∈ l → dst e ∈ nodes) {z : V} (hz : nodes.length + 1 ≤ rd z) :
  ∃ p, 1 ≤ p ∧ p ≤ nodes.length ∧ ∀ m, nodes.length ≤ m → (∀ i, ∃ e, st.by_ (itr (parV src d st) i (itr (parV src d st) m z)) = some e) ∧ itr (parV src d st) p (itr (parV src d st) m z) = itr (parV src d st) m z := by
 have hb := h.chain d nodes.length z hz
 obtain ⟨i, j, hij, hj, he⟩ := pigeon nodes (fun i => itr (parV src d st) i z) (fun i hi => by
  obtain ⟨e, he⟩ := hb i hi
  obtain ⟨h1, h2, _⟩ := h.par _ e he
  have := hn e h1
  rw [h2] at this
  exact this)
 refine ⟨j - i, by omega, by omega, fun m hm => ⟨fun q => ?_, ?_⟩⟩
 ·rw [← itr_add]
  obtain ⟨_, r, h2, h3, h4⟩ := itr_per (parV src d st) hij he (m + q) (by omega)
  rw [h4]
  exact hb r (by omega)
 ·exact (itr_per (parV src d st) hij he m (by omega)).1
end
end BF
end Go.Proofs.Ythbcnabeabcmlaa
namespace Go.Proofs.Ythbcnabeabcmlaa
open Go.Proofs
def clocks_ends (N : Nat) (x0 : Bound) (x1 : Bool) : Option (Ref × Ref) :=
 (bif x1 then some (x0.To, x0.From) else some (x0.From, x0.To))
theorem co_clocks_ends : CallOk Try.prog 121 := fun _ _ => by kernel_rfl
set_option maxHeartbeats 4000000 in
set_option maxRecDepth 100000 in
theorem c_clocks_ends (N : Nat) (w0 : World) (F0 : Mem) (hF : ∀ b o, F0 b = some o → w0.heap[b]? = some o) (x0 : Bound) (x1 : Bool) (r : (Ref × Ref)) (h : clocks_ends N x0 x1 = some r) :
  Calls Try.prog 121 ([(.agg (kBound x0)), (.bool x1)] : List Value).toArray w0 (FRet w0 F0 fun F' v => v = (.tuple #[(.agg (kRef r.1)), (.agg (kRef r.2))])) := by
 have hs0 := HS.start hF
 refine calls_of (n := 15) (c := bodyOf Try.f121) Try.func121 (by kernel_rfl) (by kernel_rfl) (by kernel_rfl) ?_
 refine Sq (Rg [0, 1, 2] ?_)
 refine Bx 2 0 0 103 (kBound x0) hs0 (fun b1 w2 (hs3 : HS w0 F0 w2 F0 [(sb b1 (kBound x0) 103)]) => ?_)
 refine Al 4 0 27 #[(vi 0), (vi 0)] hs3 (fun b4 w5 (hs6 : HS w0 F0 w5 F0 [(sb b4 #[(vi 0), (vi 0)] 27), (sb b1 (kBound x0) 103)]) => ?_)
 refine Al 5 0 27 #[(vi 0), (vi 0)] hs6 (fun b7 w8 (hs9 : HS w0 F0 w8 F0 [(sb b7 #[(vi 0), (vi 0)] 27), (sb b4 #[(vi 0), (vi 0)] 27), (sb b1 (kBound x0) 103)]) => ?_)
 refine Nss ?_
 refine Sq (Rg [0] ?_)
 refine V 6 4 (mv 1 (.bool x1)) ?_
 refine Nt ?_
 refine CWP.cond (t := x1) (by kernel_rfl) rfl (fun hb10 => ?_) (fun hb10 => ?_)
 ·have h11 := cond_t h hb10
  refine Sq ?_
  refine CWP.regionD (by kernel_rfl) (by kernel_rfl) (by kernel_rfl) (by kernel_rfl) (z := 5) (F := F0) (Lc := [(sb b1 (kBound x0) 103)]) (Lz := [(sb b7 #[(vi 0), (vi 0)] 27)]) (l := [false, false, false, false, false, false]) (fuel := 6) (by kernel_rfl) (by kernel_rfl) hs9 (by simp) (by simp) (fun f w => ∃ (F1 : Mem), HS w0 F0 w F1 [(sb b7 (kRef x0.From) 27), (sb b4 (kRef x0.To) 27)] ∧ Mem.le F0 F1 ∧ f.d = [] ∧ f 4 = (.pointer (some ⟨b4, 0, none⟩)) ∧ f 5 = (.pointer (some ⟨b7, 0, none⟩))) (fun wd12 hw13 => ?_) ?_
  ·refine Df 0 7 0 (.pointer (some ⟨b1, 2, none⟩)) (fun _ hq => fa 103 2 1 2 2 b1 0 2) ?_
   refine Df 1 8 27 _ (fun _ hq => ld 27 7 b1 2 true 2 (.agg (kRef x0.To)) (hq.1.2 0 _ _ rfl)) ?_
   refine Df 2 9 0 (.pointer (some ⟨b1, 0, none⟩)) (fun _ hq => fa 103 2 0 0 2 b1 0 0) ?_
   refine Df 3 10 27 _ (fun _ hq => ld 27 9 b1 0 true 2 (.agg (kRef x0.From)) (hq.1.2 0 _ _ rfl)) ?_
   refine DWP.one (i := 4) (by kernel_rfl) ?_
   refine DStep.store (l' := [true, true, true, true, true, false]) (zd := false) (by kernel_rfl) (by kernel_rfl) (ty := 0) (g := none) (by kernel_rfl) rfl (x := (.tmp 4)) (y := (.tmp 8)) (t := 27) (gg := true) (s := 2) (v := (.agg (kRef x0.To))) (b := b4) (o := 0) (C := #[(vi 0), (vi 0)]) rfl rfl (by kernel_rfl) hw13 (k := 1) rfl rfl rfl rfl (C' := (kRef x0.To)) rfl (Mem.le.refl _) (by simp) (fun _ => by simp) (fun w20 (hs21 : HS w0 F0 w20 F0 [(sb b7 #[(vi 0), (vi 0)] 27), (sb b4 (kRef x0.To) 27), (sb b1 (kBound x0) 103)]) => ?_)
   refine DWP.one (i := 5) (by kernel_rfl) ?_
   refine DStep.store (l' := [true, true, true, true, true, true]) (zd := true) (by kernel_rfl) (by kernel_rfl) (ty := 0) (g := none) (by kernel_rfl) rfl (x := (.tmp 5)) (y := (.tmp 10)) (t := 27) (gg := true) (s := 2) (v := (.agg (kRef x0.From))) (b := b7) (o := 0) (C := #[(vi 0), (vi 0)]) rfl rfl (by kernel_rfl) hs21 (k := 0) rfl rfl rfl rfl (C' := (kRef x0.From)) rfl (Mem.le.refl _) (by simp) (fun e => by cases e) (fun w22 (hs23 : HS w0 F0 w22 F0 [(sb b7 (kRef x0.From) 27), (sb b4 (kRef x0.To) 27), (sb b1 (kBound x0) 103)]) => ?_)
   have hs24 : HS w0 F0 w22 F0 [(sb b7 (kRef x0.From) 27), (sb b4 (kRef x0.To) 27)] := hs23.drop 2
   exact DWP.done (by kernel_rfl) ⟨F0, hs24, (Mem.le.refl _), rfl, rfl, rfl⟩
  ·rintro f w14 ⟨F1, hs15, le16, e17, e18, e19⟩
   refine thenQ_nrm ?_
   refine CWP.ret (by kernel_rfl) ?_
   refine thenQ_ret ?_
   have hfin := some_inj h11
   subst hfin
   exact ⟨e17, (.tuple #[(.agg (kRef x0.To)), (.agg (kRef x0.From))]), res_of (l := [.cell 4 27, .cell 5 27]) (by kernel_rfl) (vs := [(.agg (kRef x0.To)), (.agg (kRef x0.From))]) ⟨b4, 0, e18, run_loadVar' (t := 27) (g := true) (s := 2) (by kernel_rfl) (hs15.ownAt (k := 1) rfl) rfl (by decide), ⟨b7, 0, e19, run_loadVar' (t := 27) (g := true) (s := 2) (by kernel_rfl) (hs15.ownAt (k := 0) rfl) rfl (by decide), trivial⟩⟩, (.tuple #[(.agg (kRef x0.To)), (.agg (kRef x0.From))]), F1, rfl, hs15.clear, rfl⟩
 ·have h25 := cond_f h hb10
  refine Sc ?_
  refine thenQ_nrm ?_
  refine Sq ?_
  refine CWP.regionD (by kernel_rfl) (by kernel_rfl) (by kernel_rfl) (by kernel_rfl) (z := 5) (F := F0) (Lc := [(sb b1 (kBound x0) 103)]) (Lz := [(sb b7 #[(vi 0), (vi 0)] 27)]) (l := [false, false, false, false, false, false]) (fuel := 6) (by kernel_rfl) (by kernel_rfl) hs9 (by simp) (by simp) (fun f w => ∃ (F2 : Mem), HS w0 F0 w F2 [(sb b7 (kRef x0.To) 27), (sb b4 (kRef x0.From) 27)] ∧ Mem.le F0 F2 ∧ f.d = [] ∧ f 4 = (.pointer (some ⟨b4, 0, none⟩)) ∧ f 5 = (.pointer (some ⟨b7, 0, none⟩))) (fun wd26 hw27 => ?_) ?_
  ·refine Df 0 11 0 (.pointer (some ⟨b1, 0, none⟩)) (fun _ hq => fa 103 2 0 0 2 b1 0 0) ?_
   refine Df 1 12 27 _ (fun _ hq => ld 27 11 b1 0 true 2 (.agg (kRef x0.From)) (hq.1.2 0 _ _ rfl)) ?_
   refine Df 2 13 0 (.pointer (some ⟨b1, 2, none⟩)) (fun _ hq => fa 103 2 1 2 2 b1 0 2) ?_
   refine Df 3 14 27 _ (fun _ hq => ld 27 13 b1 2 true 2 (.agg (kRef x0.To)) (hq.1.2 0 _ _ rfl)) ?_
   refine DWP.one (i := 4) (by kernel_rfl) ?_
   refine DStep.store (l' := [true, true, true, true, true, false]) (zd := false) (by kernel_rfl) (by kernel_rfl) (ty := 0) (g := none) (by kernel_rfl) rfl (x := (.tmp 4)) (y := (.tmp 12)) (t := 27) (gg := true) (s := 2) (v := (.agg (kRef x0.From))) (b := b4) (o := 0) (C := #[(vi 0), (vi 0)]) rfl rfl (by kernel_rfl) hw27 (k := 1) rfl rfl rfl rfl (C' := (kRef x0.From)) rfl (Mem.le.refl _) (by simp) (fun _ => by simp) (fun w34 (hs35 : HS w0 F0 w34 F0 [(sb b7 #[(vi 0), (vi 0)] 27), (sb b4 (kRef x0.From) 27), (sb b1 (kBound x0) 103)]) => ?_)
   refine DWP.one (i := 5) (by kernel_rfl) ?_
   refine DStep.store (l' := [true, true, true, true, true, true]) (zd := true) (by kernel_rfl) (by kernel_rfl) (ty := 0) (g := none) (by kernel_rfl) rfl (x := (.tmp 5)) (y := (.tmp 14)) (t := 27) (gg := true) (s := 2) (v := (.agg (kRef x0.To))) (b := b7) (o := 0) (C := #[(vi 0), (vi 0)]) rfl rfl (by kernel_rfl) hs35 (k := 0) rfl rfl rfl rfl (C' := (kRef x0.To)) rfl (Mem.le.refl _) (by simp) (fun e => by cases e) (fun w36 (hs37 : HS w0 F0 w36 F0 [(sb b7 (kRef x0.To) 27), (sb b4 (kRef x0.From) 27), (sb b1 (kBound x0) 103)]) => ?_)
   have hs38 : HS w0 F0 w36 F0 [(sb b7 (kRef x0.To) 27), (sb b4 (kRef x0.From) 27)] := hs37.drop 2
   exact DWP.done (by kernel_rfl) ⟨F0, hs38, (Mem.le.refl _), rfl, rfl, rfl⟩
  ·rintro f w28 ⟨F2, hs29, le30, e31, e32, e33⟩
   refine thenQ_nrm ?_
   refine CWP.ret (by kernel_rfl) ?_
   have hfin := some_inj h25
   subst hfin
   exact ⟨e31, (.tuple #[(.agg (kRef x0.From)), (.agg (kRef x0.To))]), res_of (l := [.cell 4 27, .cell 5 27]) (by kernel_rfl) (vs := [(.agg (kRef x0.From)), (.agg (kRef x0.To))]) ⟨b4, 0, e32, run_loadVar' (t := 27) (g := true) (s := 2) (by kernel_rfl) (hs29.ownAt (k := 1) rfl) rfl (by decide), ⟨b7, 0, e33, run_loadVar' (t := 27) (g := true) (s := 2) (by kernel_rfl) (hs29.ownAt (k := 0) rfl) rfl (by decide), trivial⟩⟩, (.tuple #[(.agg (kRef x0.From)), (.agg (kRef x0.To))]), F2, rfl, hs29.clear, rfl⟩
end Go.Proofs.Ythbcnabeabcmlaa
namespace Go.Proofs.Ythbcnabeabcmlaa
open Go.Proofs
def clocks_reached_back_L0 (N : Nat) (x0 : Reached) (x1 : Ref) (x2 : Bool) (x3 : (Ref → Option Bool)) : (List Bound × Bool × Int × Int) → Option (Flow (List Bound) (List Bound × Bool × Int × Int)) := fun s12 =>
 ((bif s12.2.1 then some true else ((x3 ({ Log := s12.2.2.1, Line := s12.2.2.2 } : Ref)).bind fun r52 => some (!r52))).bind fun j38 => (bif j38 then ((apnd s12.1 [((mgetD x0.by_ ({ Log := s12.2.2.1, Line := s12.2.2.2 } : Ref) ({ From := ({ Log := 0, Line := 0 } : Ref), To := ({ Log := 0, Line := 0 } : Ref), Most := 0, Kind := 0, ID := 0 } : Bound)))]).bind fun r72 => ((clocks_ends N ((mgetD x0.by_ ({ Log := s12.2.2.1, Line := s12.2.2.2 } : Ref) ({ From := ({ Log := 0, Line := 0 } : Ref), To := ({ Log := 0, Line := 0 } : Ref), Most := 0, Kind := 0, ID := 0 } : Bound))) x2).bind fun r81 => some (.next (r72, false, r81.1.Log, r81.1.Line)))) else some (.done (s12.1, s12.2.1, s12.2.2.1, s12.2.2.2))))
def clocks_reached_back (N : Nat) (x0 : Reached) (x1 : Ref) (x2 : Bool) (x3 : (Ref → Option Bool)) : Option (List Bound) :=
 ((iter (clocks_reached_back_L0 N x0 x1 x2 x3) N (([] : List Bound), true, x1.Log, x1.Line)).bind fun o => o.k (fun r => some r) (fun s23 => some s23.1))
theorem co_clocks_reached_back : CallOk Try.prog 110 := fun _ _ => by kernel_rfl
set_option maxHeartbeats 4000000 in
set_option maxRecDepth 100000 in
theorem c_clocks_reached_back (N : Nat) (w0 : World) (F0 : Mem) (hF : ∀ b o, F0 b = some o → w0.heap[b]? = some o) (x0 : Reached) (o0_0 : Option Nat) (hm0_0 : MpA tRef tInt F0 o0_0 x0.at_) (o0_1 : Option Nat) (hm0_1 : MpA tRef tBound F0 o0_1 x0.by_) (x1 : Ref) (x2 : Bool) (gx3 : FuncId) (fx3 kx3 : List Value) (x3 : Ref → Option Bool) (hox3 : CallOk Try.prog gx3) (hpx3 : ∀ (w' : World) (F' : Mem) (y0 : Ref) (r : Bool), Mem.le F0 F' → (∀ b o, F' b = some o → w'.heap[b]? = some o) → x3 y0 = some r → Calls Try.prog gx3 (fx3 ++ (([(.agg (kRef y0))] : List Value) ++ kx3)).toArray w' (FRet w' F' fun F'' v => v = (.bool r))) (r : (List Bound)) (h : clocks_reached_back N x0 x1 x2 x3 = some r) :
  Calls Try.prog 110 ([(.agg #[(.map o0_0), (.map o0_1)]), (.agg (kRef x1)), (.bool x2), (.func (.func gx3) fx3.toArray kx3.toArray)] : List Value).toArray w0 (FRetO w0 F0 fun F' v L' => ∃ (a : Option Addr) (n : Nat) (e : Option Nat × Obj), v = .slice a r.length n ∧ L' = [e] ∧ RowR tBound 103 F' a n r e) := by
 have hs0 := HS.start hF
 refine calls_of (n := 34) (c := bodyOf Try.f110) Try.func110 (by kernel_rfl) (by kernel_rfl) (by kernel_rfl) ?_
 refine Sq (Rg [0, 1, 2] ?_)
 refine Bx 4 0 0 95 #[(.map o0_0), (.map o0_1)] hs0 (fun b1 w2 (hs3 : HS w0 F0 w2 F0 [(sb b1 #[(.map o0_0), (.map o0_1)] 95)]) => ?_)
 refine Bx 5 0 1 27 (kRef x1) hs3 (fun b4 w5 (hs6 : HS w0 F0 w5 F0 [(sb b4 (kRef x1) 27), (sb b1 #[(.map o0_0), (.map o0_1)] 95)]) => ?_)
 refine V 8 57 (mc (.slice none 0 0) (.slice none ([] : List Bound).length 0)) ?_
 refine Nss (Rg [0] ?_)
 refine V 9 57 (mc (.slice none 0 0) (.slice none ([] : List Bound).length 0)) ?_
 refine Nss ?_
 refine Sq (Rg [0] ?_)
 refine V 10 4 (mc (.bool true) (.bool true)) ?_
 refine Nt ?_
 have hs7 : HS w0 F0 w5 F0 [(none, .cells #[] 0 (0, 0)), (sb b4 (kRef x1) 27), (sb b1 #[(.map o0_0), (.map o0_1)] 95)] := hs6.dummy _
 obtain ⟨o9, ho10, h11⟩ := bind_some h
 refine CWP.cut (fun f w => ∃ (s23 : (List Bound × Bool × Int × Int)) (F2 : Mem) (as23_0 : Option Addr) (ns23_0 : Nat) (es23_0 : Option Nat × Obj), o9 = .done s23 ∧ HS w0 F0 w F2 [es23_0] ∧ Mem.le F0 F2 ∧ f.d = [] ∧ f 9 = (.slice as23_0 s23.1.length ns23_0) ∧ RowR tBound 103 F2 as23_0 ns23_0 s23.1 es23_0) ?_ ?_
 ·refine Bk ?_
  refine CWP.loop (by kernel_rfl) (fun m f w => ∃ (s12 : (List Bound × Bool × Int × Int)) (F1 : Mem) (as12_0 : Option Addr) (ns12_0 : Nat) (es12_0 : Option Nat × Obj), iter (clocks_reached_back_L0 N x0 x1 x2 x3) m s12 = some o9 ∧ HS w0 F0 w F1 [es12_0, (sb b4 #[(vi s12.2.2.1), (vi s12.2.2.2)] 27), (sb b1 #[(.map o0_0), (.map o0_1)] 95)] ∧ Mem.le F0 F1 ∧ f.d = [] ∧ f 2 = (.bool x2) ∧ f 3 = (.func (.func gx3) fx3.toArray kx3.toArray) ∧ f 4 = (.pointer (some ⟨b1, 0, none⟩)) ∧ f 5 = (.pointer (some ⟨b4, 0, none⟩)) ∧ f 9 = (.slice as12_0 s12.1.length ns12_0) ∧ f 10 = (.bool s12.2.1) ∧ RowR tBound 103 F1 as12_0 ns12_0 s12.1 es12_0) N ⟨(([] : List Bound), true, x1.Log, x1.Line), F0, none, 0, (none, .cells #[] 0 (0, 0)), ho10, hs7, (Mem.le.refl _), rfl, rfl, rfl, rfl, rfl, rfl, rfl, (RowR.nil tBound 103 F0 _)⟩ ?_
  rintro m29 f w13 ⟨s12, F1, as12_0, ns12_0, es12_0, hit30, hs14, le15, e16, e17, e18, e19, e20, e21, e22, hrs12_0⟩
  obtain ⟨m31, fl32, rfl, hb33, hnx34⟩ := iter_step hit30
  refine Sq ?_
  refine Sq (Rg [0, 1, 2, 3, 4, 5, 6] ?_)
  obtain ⟨j38, hj47, h48⟩ := bind_some hb33
  refine RWP.cut (fun f w => ∃ (F3 : Mem), HS w0 F0 w F3 [es12_0, (sb b4 #[(vi s12.2.2.1), (vi s12.2.2.2)] 27), (sb b1 #[(.map o0_0), (.map o0_1)] 95)] ∧ Mem.le F1 F3 ∧ f.d = [] ∧ f 2 = (.bool x2) ∧ f 3 = (.func (.func gx3) fx3.toArray kx3.toArray) ∧ f 4 = (.pointer (some ⟨b1, 0, none⟩)) ∧ f 5 = (.pointer (some ⟨b4, 0, none⟩)) ∧ f 9 = (.slice as12_0 s12.1.length ns12_0) ∧ f 10 = (.bool s12.2.1) ∧ f 18 = (.bool j38)) ?_ ?_
  ·refine V 12 4 (mv 10 (.bool s12.2.1) e22) ?_
   refine V 13 4 (mv 12 (.bool s12.2.1)) ?_
   refine RWP.split s12.2.1 (fun hb49 => ?_) (fun hb49 => ?_)
   ·have h50 := cond_t hj47 hb49
    refine Sk [14, 15, 16, 17] 1 false 13 hb49 ?_
    refine V 18 4 (p1 13 (.const (.bool true)) (.tmp 17) (.bool true) hb49) ?_
    obtain rfl := some_inj h50
    exact RWP.nil ⟨rfl, F1, hs14, (Mem.le.refl _), e16, e17, e18, e19, e20, e21, e22, rfl⟩
   ·have h51 := cond_f hj47 hb49
    refine Vg 14 139 1 false 13 hb49 (mv 3 (.func (.func gx3) fx3.toArray kx3.toArray) e18) ?_
    refine Vg 15 27 1 false 13 hb49 (ld 27 5 b4 0 true 2 (.agg #[(vi s12.2.2.1), (vi s12.2.2.2)]) (hs14.ownAt (k := 1) rfl) e20) ?_
    obtain ⟨r52, hr53, h54⟩ := bind_some h51
    refine RWP.call (dst := (some 16)) (ty := 4) (g := (some (1, false))) (by kernel_rfl) (gd_y (d := 13) (by kernel_rfl) rfl hb49) (f0 := (.tmp 14)) (aos := #[(.tmp 15)]) (ats := #[27]) (fid := gx3) (first := fx3.toArray) (cap := kx3.toArray) (args := (fx3 ++ (([(.agg #[(vi s12.2.2.1), (vi s12.2.2.2)])] : List Value) ++ kx3))) rfl hox3 (app_args2 (l := [(.agg #[(vi s12.2.2.1), (vi s12.2.2.2)])]) (fi := fx3) (k := kx3) (rfl)) hs14 (hpx3 w13 F1 (({ Log := s12.2.2.1, Line := s12.2.2.2 } : Ref)) _ le15 hs14.pers hr53) ?_
    intro v55 F4 w56 hs57 le58 hp59
    obtain rfl := hp59
    refine Vg 17 4 1 false 13 hb49 (run_not (t := 4) (x := (.tmp 16)) (a := r52) rfl) ?_
    refine V 18 4 (p0 13 (.const (.bool true)) (.tmp 17) (.bool (!r52)) hb49) ?_
    obtain rfl := some_inj h54
    exact RWP.nil ⟨rfl, F4, hs57, le58, e16, e17, e18, e19, e20, e21, e22, rfl⟩
  ·rintro f w35 ⟨F3, hs36, le37, e39, e40, e41, e42, e43, e44, e45, e46⟩
   refine thenQ_nrm ?_
   refine CWP.cond (t := j38) (by kernel_rfl) e46 (fun hb60 => ?_) (fun hb60 => ?_)
   ·have h61 := cond_t h48 hb60
    refine Sc ?_
    refine thenQ_nrm ?_
    refine Sq ?_
    refine Bk ?_
    refine Sq (Rg [0, 1, 2, 3, 4, 5] ?_)
    refine V 19 0 (fa 95 4 1 1 1 b1 0 1 e42) ?_
    refine V 20 93 (ld 93 19 b1 1 false 1 (.map o0_1) (hs36.ownAt (k := 2) rfl)) ?_
    refine V 21 27 (ld 27 5 b4 0 true 2 (.agg #[(vi s12.2.2.1), (vi s12.2.2.2)]) (hs36.ownAt (k := 1) rfl) e43) ?_
    refine V 22 103 (run_lookV1 (mt := 93) (k := 27) (vt := 103) (m := (.tmp 20)) (x := (.tmp 21)) (kv := (.agg #[(vi s12.2.2.1), (vi s12.2.2.2)])) (kx := ({ Log := s12.2.2.1, Line := s12.2.2.2 } : Ref)) (z := (.agg #[(vi 0), (vi 0), (vi 0), (vi 0), (vi 0), (vi 0), (vi 0)])) (zx := ({ From := ({ Log := 0, Line := 0 } : Ref), To := ({ Log := 0, Line := 0 } : Ref), Most := 0, Kind := 0, ID := 0 } : Bound)) (K := tRef) (T := tBound) kl27 rfl rfl ⟨_, rfl, rfl⟩ (by kernel_rfl) (by kernel_rfl) ⟨_, rfl, rfl⟩ (MpA.mpw hs36.pers (MpA.mono hm0_1 (le15.trans le37))) (fun h => by obtain ⟨_, rfl, rfl⟩ := h; rfl)) ?_
    refine Al 11 0 103 #[(vi 0), (vi 0), (vi 0), (vi 0), (vi 0), (vi 0), (vi 0)] hs36 (fun b62 w63 (hs64 : HS w0 F0 w63 F3 [(sb b62 #[(vi 0), (vi 0), (vi 0), (vi 0), (vi 0), (vi 0), (vi 0)] 103), es12_0, (sb b4 #[(vi s12.2.2.1), (vi s12.2.2.2)] 27), (sb b1 #[(.map o0_0), (.map o0_1)] 95)]) => ?_)
    refine RWP.store (ty := 0) (g := none) (by kernel_rfl) rfl (x := (.tmp 11)) (y := (.tmp 22)) (t := 103) (gg := true) (s := 7) (v := (.agg (kBound ((mgetD x0.by_ ({ Log := s12.2.2.1, Line := s12.2.2.2 } : Ref) ({ From := ({ Log := 0, Line := 0 } : Ref), To := ({ Log := 0, Line := 0 } : Ref), Most := 0, Kind := 0, ID := 0 } : Bound)))))) (b := b62) (o := 0) (C := #[(vi 0), (vi 0), (vi 0), (vi 0), (vi 0), (vi 0), (vi 0)]) rfl rfl (by kernel_rfl) hs64 (k := 0) rfl rfl rfl rfl (C' := (kBound ((mgetD x0.by_ ({ Log := s12.2.2.1, Line := s12.2.2.2 } : Ref) ({ From := ({ Log := 0, Line := 0 } : Ref), To := ({ Log := 0, Line := 0 } : Ref), Most := 0, Kind := 0, ID := 0 } : Bound))))) rfl (fun w65 (hs66 : HS w0 F0 w65 F3 [(sb b62 (kBound ((mgetD x0.by_ ({ Log := s12.2.2.1, Line := s12.2.2.2 } : Ref) ({ From := ({ Log := 0, Line := 0 } : Ref), To := ({ Log := 0, Line := 0 } : Ref), Most := 0, Kind := 0, ID := 0 } : Bound)))) 103), es12_0, (sb b4 #[(vi s12.2.2.1), (vi s12.2.2.2)] 27), (sb b1 #[(.map o0_0), (.map o0_1)] 95)]) => ?_)
    refine Nss (Rg [0, 1, 2, 3, 4] ?_)
    refine V 23 57 (mv 9 (.slice as12_0 s12.1.length ns12_0) e44) ?_
    refine V 24 103 (ld 103 11 b62 0 true 7 (.agg (kBound ((mgetD x0.by_ ({ Log := s12.2.2.1, Line := s12.2.2.2 } : Ref) ({ From := ({ Log := 0, Line := 0 } : Ref), To := ({ Log := 0, Line := 0 } : Ref), Most := 0, Kind := 0, ID := 0 } : Bound))))) (hs66.ownAt (k := 0) rfl)) ?_
    refine RWP.buildSlice (dst := (some 25)) (ty := 57) (g := none) (by kernel_rfl) rfl (t := 57) (len := 1) (parts := #[(0, (.tmp 24))]) (vs := [(0, (.agg (kBound ((mgetD x0.by_ ({ Log := s12.2.2.1, Line := s12.2.2.2 } : Ref) ({ From := ({ Log := 0, Line := 0 } : Ref), To := ({ Log := 0, Line := 0 } : Ref), Most := 0, Kind := 0, ID := 0 } : Bound))))))]) (rfl) (E := 103) (cs := [(vi ((mgetD x0.by_ ({ Log := s12.2.2.1, Line := s12.2.2.2 } : Ref) ({ From := ({ Log := 0, Line := 0 } : Ref), To := ({ Log := 0, Line := 0 } : Ref), Most := 0, Kind := 0, ID := 0 } : Bound))).From.Log), (vi ((mgetD x0.by_ ({ Log := s12.2.2.1, Line := s12.2.2.2 } : Ref) ({ From := ({ Log := 0, Line := 0 } : Ref), To := ({ Log := 0, Line := 0 } : Ref), Most := 0, Kind := 0, ID := 0 } : Bound))).From.Line), (vi ((mgetD x0.by_ ({ Log := s12.2.2.1, Line := s12.2.2.2 } : Ref) ({ From := ({ Log := 0, Line := 0 } : Ref), To := ({ Log := 0, Line := 0 } : Ref), Most := 0, Kind := 0, ID := 0 } : Bound))).To.Log), (vi ((mgetD x0.by_ ({ Log := s12.2.2.1, Line := s12.2.2.2 } : Ref) ({ From := ({ Log := 0, Line := 0 } : Ref), To := ({ Log := 0, Line := 0 } : Ref), Most := 0, Kind := 0, ID := 0 } : Bound))).To.Line), (vi ((mgetD x0.by_ ({ Log := s12.2.2.1, Line := s12.2.2.2 } : Ref) ({ From := ({ Log := 0, Line := 0 } : Ref), To := ({ Log := 0, Line := 0 } : Ref), Most := 0, Kind := 0, ID := 0 } : Bound))).Most), (vi ((mgetD x0.by_ ({ Log := s12.2.2.1, Line := s12.2.2.2 } : Ref) ({ From := ({ Log := 0, Line := 0 } : Ref), To := ({ Log := 0, Line := 0 } : Ref), Most := 0, Kind := 0, ID := 0 } : Bound))).Kind), (vi ((mgetD x0.by_ ({ Log := s12.2.2.1, Line := s12.2.2.2 } : Ref) ({ From := ({ Log := 0, Line := 0 } : Ref), To := ({ Log := 0, Line := 0 } : Ref), Most := 0, Kind := 0, ID := 0 } : Bound))).ID)]) (by kernel_rfl) hs66 (fun b67 w68 (hs69 : HS w0 F0 w68 F3 [(some b67, .cells ([(vi ((mgetD x0.by_ ({ Log := s12.2.2.1, Line := s12.2.2.2 } : Ref) ({ From := ({ Log := 0, Line := 0 } : Ref), To := ({ Log := 0, Line := 0 } : Ref), Most := 0, Kind := 0, ID := 0 } : Bound))).From.Log), (vi ((mgetD x0.by_ ({ Log := s12.2.2.1, Line := s12.2.2.2 } : Ref) ({ From := ({ Log := 0, Line := 0 } : Ref), To := ({ Log := 0, Line := 0 } : Ref), Most := 0, Kind := 0, ID := 0 } : Bound))).From.Line), (vi ((mgetD x0.by_ ({ Log := s12.2.2.1, Line := s12.2.2.2 } : Ref) ({ From := ({ Log := 0, Line := 0 } : Ref), To := ({ Log := 0, Line := 0 } : Ref), Most := 0, Kind := 0, ID := 0 } : Bound))).To.Log), (vi ((mgetD x0.by_ ({ Log := s12.2.2.1, Line := s12.2.2.2 } : Ref) ({ From := ({ Log := 0, Line := 0 } : Ref), To := ({ Log := 0, Line := 0 } : Ref), Most := 0, Kind := 0, ID := 0 } : Bound))).To.Line), (vi ((mgetD x0.by_ ({ Log := s12.2.2.1, Line := s12.2.2.2 } : Ref) ({ From := ({ Log := 0, Line := 0 } : Ref), To := ({ Log := 0, Line := 0 } : Ref), Most := 0, Kind := 0, ID := 0 } : Bound))).Most), (vi ((mgetD x0.by_ ({ Log := s12.2.2.1, Line := s12.2.2.2 } : Ref) ({ From := ({ Log := 0, Line := 0 } : Ref), To := ({ Log := 0, Line := 0 } : Ref), Most := 0, Kind := 0, ID := 0 } : Bound))).Kind), (vi ((mgetD x0.by_ ({ Log := s12.2.2.1, Line := s12.2.2.2 } : Ref) ({ From := ({ Log := 0, Line := 0 } : Ref), To := ({ Log := 0, Line := 0 } : Ref), Most := 0, Kind := 0, ID := 0 } : Bound))).ID)] : List Value).toArray 103 (0, 0)), (sb b62 (kBound ((mgetD x0.by_ ({ Log := s12.2.2.1, Line := s12.2.2.2 } : Ref) ({ From := ({ Log := 0, Line := 0 } : Ref), To := ({ Log := 0, Line := 0 } : Ref), Most := 0, Kind := 0, ID := 0 } : Bound)))) 103), es12_0, (sb b4 #[(vi s12.2.2.1), (vi s12.2.2.2)] 27), (sb b1 #[(.map o0_0), (.map o0_1)] 95)]) => ?_)
    have hr71 : RowR tBound 103 F3 (some ⟨b67, 0, none⟩) 1 [((mgetD x0.by_ ({ Log := s12.2.2.1, Line := s12.2.2.2 } : Ref) ({ From := ({ Log := 0, Line := 0 } : Ref), To := ({ Log := 0, Line := 0 } : Ref), Most := 0, Kind := 0, ID := 0 } : Bound)))] (some b67, .cells ([(vi ((mgetD x0.by_ ({ Log := s12.2.2.1, Line := s12.2.2.2 } : Ref) ({ From := ({ Log := 0, Line := 0 } : Ref), To := ({ Log := 0, Line := 0 } : Ref), Most := 0, Kind := 0, ID := 0 } : Bound))).From.Log), (vi ((mgetD x0.by_ ({ Log := s12.2.2.1, Line := s12.2.2.2 } : Ref) ({ From := ({ Log := 0, Line := 0 } : Ref), To := ({ Log := 0, Line := 0 } : Ref), Most := 0, Kind := 0, ID := 0 } : Bound))).From.Line), (vi ((mgetD x0.by_ ({ Log := s12.2.2.1, Line := s12.2.2.2 } : Ref) ({ From := ({ Log := 0, Line := 0 } : Ref), To := ({ Log := 0, Line := 0 } : Ref), Most := 0, Kind := 0, ID := 0 } : Bound))).To.Log), (vi ((mgetD x0.by_ ({ Log := s12.2.2.1, Line := s12.2.2.2 } : Ref) ({ From := ({ Log := 0, Line := 0 } : Ref), To := ({ Log := 0, Line := 0 } : Ref), Most := 0, Kind := 0, ID := 0 } : Bound))).To.Line), (vi ((mgetD x0.by_ ({ Log := s12.2.2.1, Line := s12.2.2.2 } : Ref) ({ From := ({ Log := 0, Line := 0 } : Ref), To := ({ Log := 0, Line := 0 } : Ref), Most := 0, Kind := 0, ID := 0 } : Bound))).Most), (vi ((mgetD x0.by_ ({ Log := s12.2.2.1, Line := s12.2.2.2 } : Ref) ({ From := ({ Log := 0, Line := 0 } : Ref), To := ({ Log := 0, Line := 0 } : Ref), Most := 0, Kind := 0, ID := 0 } : Bound))).Kind), (vi ((mgetD x0.by_ ({ Log := s12.2.2.1, Line := s12.2.2.2 } : Ref) ({ From := ({ Log := 0, Line := 0 } : Ref), To := ({ Log := 0, Line := 0 } : Ref), Most := 0, Kind := 0, ID := 0 } : Bound))).ID)] : List Value).toArray 103 (0, 0)) := RowR.lit ⟨rfl, rfl⟩ (by simp)
    obtain ⟨r72, hap73, h74⟩ := bind_some h61
    refine RWP.append (dst := (some 26)) (ty := 57) (g := none) (by kernel_rfl) rfl (x := (.tmp 23)) (y := (.tmp 25)) (t := 57) (t2 := 57) (by_ := 56) (z := (.agg #[(vi 0), (vi 0), (vi 0), (vi 0), (vi 0), (vi 0), (vi 0)])) (a2 := (some ⟨b67, 0, none⟩)) (c2 := 1) (m := [((mgetD x0.by_ ({ Log := s12.2.2.1, Line := s12.2.2.2 } : Ref) ({ From := ({ Log := 0, Line := 0 } : Ref), To := ({ Log := 0, Line := 0 } : Ref), Most := 0, Kind := 0, ID := 0 } : Bound)))]) (T := tBound) (E := 103) (a := as12_0) (cap := ns12_0) (l := s12.1) rfl rfl (by kernel_rfl) (by decide) (by kernel_rfl) (by kernel_rfl) rfl oBound hs69 (k := 2) rfl (hrs12_0.mono le37) (RowR.rd hs69 (k := 0) rfl hr71) (r := r72) hap73 (fun a75 n76 e77 w78 (hs79 : HS w0 F0 w78 F3 [(some b67, .cells ([(vi ((mgetD x0.by_ ({ Log := s12.2.2.1, Line := s12.2.2.2 } : Ref) ({ From := ({ Log := 0, Line := 0 } : Ref), To := ({ Log := 0, Line := 0 } : Ref), Most := 0, Kind := 0, ID := 0 } : Bound))).From.Log), (vi ((mgetD x0.by_ ({ Log := s12.2.2.1, Line := s12.2.2.2 } : Ref) ({ From := ({ Log := 0, Line := 0 } : Ref), To := ({ Log := 0, Line := 0 } : Ref), Most := 0, Kind := 0, ID := 0 } : Bound))).From.Line), (vi ((mgetD x0.by_ ({ Log := s12.2.2.1, Line := s12.2.2.2 } : Ref) ({ From := ({ Log := 0, Line := 0 } : Ref), To := ({ Log := 0, Line := 0 } : Ref), Most := 0, Kind := 0, ID := 0 } : Bound))).To.Log), (vi ((mgetD x0.by_ ({ Log := s12.2.2.1, Line := s12.2.2.2 } : Ref) ({ From := ({ Log := 0, Line := 0 } : Ref), To := ({ Log := 0, Line := 0 } : Ref), Most := 0, Kind := 0, ID := 0 } : Bound))).To.Line), (vi ((mgetD x0.by_ ({ Log := s12.2.2.1, Line := s12.2.2.2 } : Ref) ({ From := ({ Log := 0, Line := 0 } : Ref), To := ({ Log := 0, Line := 0 } : Ref), Most := 0, Kind := 0, ID := 0 } : Bound))).Most), (vi ((mgetD x0.by_ ({ Log := s12.2.2.1, Line := s12.2.2.2 } : Ref) ({ From := ({ Log := 0, Line := 0 } : Ref), To := ({ Log := 0, Line := 0 } : Ref), Most := 0, Kind := 0, ID := 0 } : Bound))).Kind), (vi ((mgetD x0.by_ ({ Log := s12.2.2.1, Line := s12.2.2.2 } : Ref) ({ From := ({ Log := 0, Line := 0 } : Ref), To := ({ Log := 0, Line := 0 } : Ref), Most := 0, Kind := 0, ID := 0 } : Bound))).ID)] : List Value).toArray 103 (0, 0)), (sb b62 (kBound ((mgetD x0.by_ ({ Log := s12.2.2.1, Line := s12.2.2.2 } : Ref) ({ From := ({ Log := 0, Line := 0 } : Ref), To := ({ Log := 0, Line := 0 } : Ref), Most := 0, Kind := 0, ID := 0 } : Bound)))) 103), e77, (sb b4 #[(vi s12.2.2.1), (vi s12.2.2.2)] 27), (sb b1 #[(.map o0_0), (.map o0_1)] 95)]) hr80 => ?_)
    refine V 9 57 (ma 26 (.slice a75 r72.length n76)) ?_
    refine Nt ?_
    refine Rg [0, 1, 2, 3, 4, 5, 6] ?_
    refine V 28 103 (ld 103 11 b62 0 true 7 (.agg (kBound ((mgetD x0.by_ ({ Log := s12.2.2.1, Line := s12.2.2.2 } : Ref) ({ From := ({ Log := 0, Line := 0 } : Ref), To := ({ Log := 0, Line := 0 } : Ref), Most := 0, Kind := 0, ID := 0 } : Bound))))) (hs79.ownAt (k := 1) rfl)) ?_
    refine V 29 4 (mv 2 (.bool x2) e40) ?_
    obtain ⟨r81, hr82, h83⟩ := bind_some h74
    refine Cl 30 147 121 #[(.tmp 28), (.tmp 29)] #[103, 4] co_clocks_ends hs79 (c_clocks_ends N w78 F3 hs79.pers (((mgetD x0.by_ ({ Log := s12.2.2.1, Line := s12.2.2.2 } : Ref) ({ From := ({ Log := 0, Line := 0 } : Ref), To := ({ Log := 0, Line := 0 } : Ref), Most := 0, Kind := 0, ID := 0 } : Bound)))) (x2) _ hr82) ?_
    intro v84 F5 w85 hs86 le87 hp88
    obtain rfl := hp88
    refine V 27 147 (mv 30 (.tuple #[(.agg (kRef r81.1)), (.agg (kRef r81.2))])) ?_
    refine V 31 27 (ex 27 0 (.agg (kRef r81.1)) (vs := #[(.agg (kRef r81.1)), (.agg (kRef r81.2))])) ?_
    refine V 32 27 (ex 27 1 (.agg (kRef r81.2)) (vs := #[(.agg (kRef r81.1)), (.agg (kRef r81.2))])) ?_
    refine RWP.store (ty := 0) (g := none) (by kernel_rfl) rfl (x := (.tmp 5)) (y := (.tmp 31)) (t := 27) (gg := true) (s := 2) (v := (.agg (kRef r81.1))) (b := b4) (o := 0) (C := #[(vi s12.2.2.1), (vi s12.2.2.2)]) e43 rfl (by kernel_rfl) hs86 (k := 3) rfl rfl rfl rfl (C' := (kRef r81.1)) rfl (fun w89 (hs90 : HS w0 F0 w89 F5 [(some b67, .cells ([(vi ((mgetD x0.by_ ({ Log := s12.2.2.1, Line := s12.2.2.2 } : Ref) ({ From := ({ Log := 0, Line := 0 } : Ref), To := ({ Log := 0, Line := 0 } : Ref), Most := 0, Kind := 0, ID := 0 } : Bound))).From.Log), (vi ((mgetD x0.by_ ({ Log := s12.2.2.1, Line := s12.2.2.2 } : Ref) ({ From := ({ Log := 0, Line := 0 } : Ref), To := ({ Log := 0, Line := 0 } : Ref), Most := 0, Kind := 0, ID := 0 } : Bound))).From.Line), (vi ((mgetD x0.by_ ({ Log := s12.2.2.1, Line := s12.2.2.2 } : Ref) ({ From := ({ Log := 0, Line := 0 } : Ref), To := ({ Log := 0, Line := 0 } : Ref), Most := 0, Kind := 0, ID := 0 } : Bound))).To.Log), (vi ((mgetD x0.by_ ({ Log := s12.2.2.1, Line := s12.2.2.2 } : Ref) ({ From := ({ Log := 0, Line := 0 } : Ref), To := ({ Log := 0, Line := 0 } : Ref), Most := 0, Kind := 0, ID := 0 } : Bound))).To.Line), (vi ((mgetD x0.by_ ({ Log := s12.2.2.1, Line := s12.2.2.2 } : Ref) ({ From := ({ Log := 0, Line := 0 } : Ref), To := ({ Log := 0, Line := 0 } : Ref), Most := 0, Kind := 0, ID := 0 } : Bound))).Most), (vi ((mgetD x0.by_ ({ Log := s12.2.2.1, Line := s12.2.2.2 } : Ref) ({ From := ({ Log := 0, Line := 0 } : Ref), To := ({ Log := 0, Line := 0 } : Ref), Most := 0, Kind := 0, ID := 0 } : Bound))).Kind), (vi ((mgetD x0.by_ ({ Log := s12.2.2.1, Line := s12.2.2.2 } : Ref) ({ From := ({ Log := 0, Line := 0 } : Ref), To := ({ Log := 0, Line := 0 } : Ref), Most := 0, Kind := 0, ID := 0 } : Bound))).ID)] : List Value).toArray 103 (0, 0)), (sb b62 (kBound ((mgetD x0.by_ ({ Log := s12.2.2.1, Line := s12.2.2.2 } : Ref) ({ From := ({ Log := 0, Line := 0 } : Ref), To := ({ Log := 0, Line := 0 } : Ref), Most := 0, Kind := 0, ID := 0 } : Bound)))) 103), e77, (sb b4 (kRef r81.1) 27), (sb b1 #[(.map o0_0), (.map o0_1)] 95)]) => ?_)
    refine RWP.nil ?_
    refine blockQ_nrm ?_
    refine thenQ_nrm ?_
    refine Rg [0] ?_
    refine V 10 4 (mc (.bool false) (.bool false)) ?_
    refine RWP.nil ?_
    have hs91 : HS w0 F0 w89 F5 [(sb b62 (kBound ((mgetD x0.by_ ({ Log := s12.2.2.1, Line := s12.2.2.2 } : Ref) ({ From := ({ Log := 0, Line := 0 } : Ref), To := ({ Log := 0, Line := 0 } : Ref), Most := 0, Kind := 0, ID := 0 } : Bound)))) 103), e77, (sb b4 (kRef r81.1) 27), (sb b1 #[(.map o0_0), (.map o0_1)] 95)] := hs90.drop 0
    have hs92 : HS w0 F0 w89 F5 [e77, (sb b4 (kRef r81.1) 27), (sb b1 #[(.map o0_0), (.map o0_1)] 95)] := hs91.drop 0
    have hn93 := iter_next h83 hnx34
    exact ⟨m31, Nat.lt_succ_self _, (r72, false, r81.1.Log, r81.1.Line), F5, a75, n76, e77, hn93, hs92, ((le15.trans le37).trans le87), e39, e40, e41, e42, e43, rfl, rfl, (hr80.mono le87)⟩
   ·have h94 := cond_f h48 hb60
    refine CWP.exit (by kernel_rfl) ?_
    refine thenQ_ex ?_
    refine thenQ_ex ?_
    refine blockQ_hit rfl ?_
    have hs95 : HS w0 F0 w35 F3 [es12_0, (sb b1 #[(.map o0_0), (.map o0_1)] 95)] := hs36.drop 1
    have hs96 : HS w0 F0 w35 F3 [es12_0] := hs95.drop 1
    have ho97 := iter_done h94 hnx34
    exact .inl ⟨rfl, (s12.1, s12.2.1, s12.2.2.1, s12.2.2.2), F3, as12_0, ns12_0, es12_0, ho97, hs96, (le15.trans le37), e39, e44, (hrs12_0.mono le37)⟩
 ·rintro f w24 ⟨s23, F2, as23_0, ns23_0, es23_0, rfl, hs25, le26, e27, e28, hrs23_0⟩
  have h98 := k_done h11
  refine thenQ_nrm ?_
  refine Sq (Rg [0, 1] ?_)
  refine V 33 57 (mv 9 (.slice as23_0 s23.1.length ns23_0) e28) ?_
  refine V 8 57 (ma 33 (.slice as23_0 s23.1.length ns23_0)) ?_
  refine Nt ?_
  refine CWP.ret (by kernel_rfl) ?_
  have hfin := some_inj h98
  subst hfin
  exact ⟨e27, (.slice as23_0 s23.1.length ns23_0), res_of (l := [.tmp 8]) (by kernel_rfl) (vs := [(.slice as23_0 s23.1.length ns23_0)]) ⟨rfl, trivial⟩, (.slice as23_0 s23.1.length ns23_0), F2, _, rfl, hs25, _, _, _, rfl, rfl, hrs23_0⟩
end Go.Proofs.Ythbcnabeabcmlaa
namespace Go.Proofs.Ythbcnabeabcmlaa
open Go.Proofs
def slices_Reverse_api_Bound_api_Bound_L0 (N : Nat) (x0 : List Bound) : (Int × Int × List Bound) → Option (Flow (List Bound) (Int × Int × List Bound)) := fun s4 =>
 (bif (decide (s4.1 < s4.2.1)) then (((idx s4.2.2 s4.2.1).bind fun x37 => ((idx s4.2.2 s4.1).bind fun x49 => ((idx s4.2.2 s4.1).bind fun x60 => ((idx (s4.2.2.set (s4.1 : Int).toNat (x37)) s4.2.1).bind fun x75 => some ((s4.2.2.set (s4.1 : Int).toNat (x37)).set (s4.2.1 : Int).toNat (x49)))))).bind fun j30 => some (.next ((W64 (s4.1 + 1)), (W64 (s4.2.1 - 1)), j30))) else some (.done (s4.1, s4.2.1, s4.2.2)))
def slices_Reverse_api_Bound_api_Bound (N : Nat) (x0 : List Bound) : Option (List Bound) :=
 ((iter (slices_Reverse_api_Bound_api_Bound_L0 N x0) N (0, (W64 ((x0.length : Int) - 1)), x0)).bind fun o => o.k (fun r => some r) (fun s12 => some s12.2.2))
theorem co_slices_Reverse_api_Bound_api_Bound : CallOk Try.prog 112 := fun _ _ => by kernel_rfl
set_option maxHeartbeats 4000000 in
set_option maxRecDepth 100000 in
theorem c_slices_Reverse_api_Bound_api_Bound (N : Nat) {wb w0 : World} {Fb F0 : Mem} {Lf : Own} (x0 : List Bound) (a0 : Option Addr) (n0 : Nat) (e0 : Option Nat × Obj) (hr0 : RowR tBound 103 F0 a0 n0 x0 e0) (hs0 : HS wb Fb w0 F0 (e0 :: Lf)) (r : List Bound) (h : slices_Reverse_api_Bound_api_Bound N x0 = some r) :
  Calls Try.prog 112 ([.slice a0 x0.length n0] : List Value).toArray w0 (fun e w' => ∃ F' e', e = .returned (.tuple #[]) ∧ HS wb Fb w' F' (e' :: Lf) ∧ Mem.le F0 F' ∧ RowR tBound 103 F' a0 n0 r e') := by
 refine calls_of (n := 28) (c := bodyOf Try.f112) Try.func112 (by kernel_rfl) (by kernel_rfl) (by kernel_rfl) ?_
 refine Sq (Rg [0, 1, 2, 3, 4] ?_)
 refine V 4 57 (mv 0 (.slice a0 x0.length n0)) ?_
 refine V 5 3 (ln 4 57 a0 x0.length n0 103 7 56) ?_
 refine V 6 3 (run_sub (t := 3) (t' := 3) (x := (.tmp 5)) (y := (.const (vi 1))) (k := .i64) (a := (x0.length : Int)) (b := 1) rfl rfl) ?_
 refine V 2 3 (mc (vi 0) (vi 0)) ?_
 refine V 3 3 (ma 6 (vi (W64 ((x0.length : Int) - 1)))) ?_
 refine Nt ?_
 obtain ⟨o1, ho2, h3⟩ := bind_some h
 refine CWP.cut (fun f w => ∃ (s12 : (Int × Int × List Bound)) (F2 : Mem) (es12_2 : Option Nat × Obj), o1 = .done s12 ∧ HS wb Fb w F2 (es12_2 :: Lf) ∧ Mem.le F0 F2 ∧ f.d = [] ∧ RowR tBound 103 F2 a0 n0 s12.2.2 es12_2) ?_ ?_
 ·refine Bk ?_
  refine CWP.loop (by kernel_rfl) (fun m f w => ∃ (s4 : (Int × Int × List Bound)) (F1 : Mem) (es4_2 : Option Nat × Obj), iter (slices_Reverse_api_Bound_api_Bound_L0 N x0) m s4 = some o1 ∧ HS wb Fb w F1 (es4_2 :: Lf) ∧ Mem.le F0 F1 ∧ f.d = [] ∧ f 0 = (.slice a0 s4.2.2.length n0) ∧ f 2 = (vi s4.1) ∧ f 3 = (vi s4.2.1) ∧ RowR tBound 103 F1 a0 n0 s4.2.2 es4_2) N ⟨(0, (W64 ((x0.length : Int) - 1)), x0), F0, e0, ho2, hs0, (Mem.le.refl _), rfl, rfl, rfl, rfl, hr0⟩ ?_
  rintro m17 f w5 ⟨s4, F1, es4_2, hit18, hs6, le7, e8, e9, e10, e11, hrs4_2⟩
  obtain ⟨m19, fl20, rfl, hb21, hnx22⟩ := iter_step hit18
  refine Sq ?_
  refine Sq (Rg [0, 1, 2] ?_)
  refine V 7 3 (mv 2 (vi s4.1) e10) ?_
  refine V 8 3 (mv 3 (vi s4.2.1) e11) ?_
  refine V 9 4 (run_lss (t := 3) (t' := 3) (x := (.tmp 7)) (y := (.tmp 8)) (k := .i64) (a := s4.1) (b := s4.2.1) rfl rfl) ?_
  refine Nt ?_
  refine CWP.cond (t := (decide (s4.1 < s4.2.1))) (by kernel_rfl) rfl (fun hb23 => ?_) (fun hb23 => ?_)
  ·have h24 := cond_t hb21 hb23
   refine Sc ?_
   refine thenQ_nrm ?_
   refine Sq ?_
   refine Bk ?_
   obtain ⟨j30, hj35, h36⟩ := bind_some h24
   refine CWP.regionD (by kernel_rfl) (by kernel_rfl) (by kernel_rfl) (by kernel_rfl) (z := 15) (F := F1) (Lc := []) (Lz := []) (l := [false, false, false, false, false, false, false, false, false, false, false, false, false, false, false, false]) (fuel := 16) (by kernel_rfl) (by kernel_rfl) hs6 (by simp) (by simp) (fun f w => ∃ (F3 : Mem) (ej30_0 : Option Nat × Obj), HS wb Fb w F3 (ej30_0 :: Lf) ∧ Mem.le F1 F3 ∧ f.d = [] ∧ f 0 = (.slice a0 j30.length n0) ∧ f 2 = (vi s4.1) ∧ f 3 = (vi s4.2.1) ∧ RowR tBound 103 F3 a0 n0 j30 ej30_0) (fun wd25 hw26 => ?_) ?_
   ·refine Df 0 14 57 _ (fun _ hq => mv 0 (.slice a0 s4.2.2.length n0) e9) ?_
    refine Df 1 15 3 _ (fun _ hq => mv 2 (vi s4.1) e10) ?_
    refine Df 2 16 57 _ (fun _ hq => mv 0 (.slice a0 s4.2.2.length n0) e9) ?_
    refine Df 3 17 3 _ (fun _ hq => mv 3 (vi s4.2.1) e11) ?_
    refine Df 4 18 57 _ (fun _ hq => mv 0 (.slice a0 s4.2.2.length n0) e9) ?_
    refine Df 5 19 3 _ (fun _ hq => mv 3 (vi s4.2.1) e11) ?_
    obtain ⟨x37, hx38, h40⟩ := bind_some hj35
    obtain ⟨hi39, hx38'⟩ := idx_spec hx38
    obtain ⟨b41, C42, rfl, rfl, hE45⟩ := RowR.open hrs4_2 hx38'
    have hr46 := hrs4_2
    have hc48 := hE45 _ _ hx38'
    refine Df 6 20 0 (.pointer (some ⟨b41, ((s4.2.1 : Int).toNat * 7), none⟩)) (fun _ hq => run_index0 (t := 57) (x := (.tmp 18)) (y := (.tmp 19)) (b := b41) (E := 103) (s := 7) (by_ := 56) rfl rfl (by kernel_rfl) hi39) ?_
    refine Df 8 22 57 _ (fun _ hq => mv 0 (.slice (some ⟨b41, 0, none⟩) s4.2.2.length n0) e9) ?_
    refine Df 9 23 3 _ (fun _ hq => mv 2 (vi s4.1) e10) ?_
    obtain ⟨x49, hx50, h52⟩ := bind_some h40
    obtain ⟨hi51, hx50'⟩ := idx_spec hx50
    obtain ⟨b53, C54, ha55, he56, hE57⟩ := RowR.open hr46 hx50'
    cases ha55
    cases he56
    have hc59 := hE57 _ _ hx50'
    refine Df 10 24 0 (.pointer (some ⟨b41, ((s4.1 : Int).toNat * 7), none⟩)) (fun _ hq => run_index0 (t := 57) (x := (.tmp 22)) (y := (.tmp 23)) (b := b41) (E := 103) (s := 7) (by_ := 56) rfl rfl (by kernel_rfl) hi51) ?_
    refine DWP.two (i := 7) (j := 11) (by kernel_rfl) ?_ ?_
    ·refine DStep.val (l' := [true, true, true, true, true, true, true, true, true, true, true, false, false, false, false, false]) (zd := false) (by kernel_rfl) (by kernel_rfl) (dst := (some 21)) (ty := 103) (g := none) (by kernel_rfl) rfl (run_loadE (t := 103) (x := (.tmp 20)) (b := b41) (o := ((s4.2.1 : Int).toNat * 7)) (j := 0) (C := C42) (kk := 7) (cs := [(vi x37.From.Log), (vi x37.From.Line), (vi x37.To.Log), (vi x37.To.Line), (vi x37.Most), (vi x37.Kind), (vi x37.ID)]) (gg := true) (s := 7) (v := (.agg (kBound x37))) rfl (by kernel_rfl) (hw26.ownAt (k := 0) rfl) hc48 (by decide) (by exact ⟨rfl, trivial⟩) rfl rfl) (dz_of hw26 (Mem.le.refl _) (by simp) (fun _ => by simp)) ?_
     refine DWP.one (i := 11) (by kernel_rfl) ?_
     refine DStep.val (l' := [true, true, true, true, true, true, true, true, true, true, true, true, false, false, false, false]) (zd := false) (by kernel_rfl) (by kernel_rfl) (dst := (some 25)) (ty := 103) (g := none) (by kernel_rfl) rfl (run_loadE (t := 103) (x := (.tmp 24)) (b := b41) (o := ((s4.1 : Int).toNat * 7)) (j := 0) (C := C42) (kk := 7) (cs := [(vi x49.From.Log), (vi x49.From.Line), (vi x49.To.Log), (vi x49.To.Line), (vi x49.Most), (vi x49.Kind), (vi x49.ID)]) (gg := true) (s := 7) (v := (.agg (kBound x49))) rfl (by kernel_rfl) (hw26.ownAt (k := 0) rfl) hc59 (by decide) (by exact ⟨rfl, trivial⟩) rfl rfl) (dz_of hw26 (Mem.le.refl _) (by simp) (fun _ => by simp)) ?_
     obtain ⟨x60, hx61, h63⟩ := bind_some h52
     obtain ⟨hi62, hx61'⟩ := idx_spec hx61
     obtain ⟨b64, C65, ha66, he67, hE68⟩ := RowR.open hr46 hx61'
     cases ha66
     cases he67
     have hc70 := hE68 _ _ hx61'
     refine Df 12 26 0 (.pointer (some ⟨b41, ((s4.1 : Int).toNat * 7), none⟩)) (fun _ hq => run_index0 (t := 57) (x := (.tmp 14)) (y := (.tmp 15)) (b := b41) (E := 103) (s := 7) (by_ := 56) rfl rfl (by kernel_rfl) hi62) ?_
     refine DWP.one (i := 13) (by kernel_rfl) ?_
     refine DStep.storeRow (l' := [true, true, true, true, true, true, true, true, true, true, true, true, true, true, false, false]) (zd := false) (by kernel_rfl) (by kernel_rfl) (ty := 0) (g := none) (by kernel_rfl) rfl (x := (.tmp 26)) (y := (.tmp 21)) (t := 103) (v := (.agg (kBound x37))) (gg := true) (b := b41) (j := (s4.1 : Int).toNat) (C := C42) (T := tBound) (E := 103) (u := (x37)) rfl rfl (by kernel_rfl) hw26 (k := 0) rfl hr46 hx61' rfl rfl (Mem.le.refl _) (fun _ => by simp) (fun _ _ => by simp) (fun C71 w72 (hs73 : HS wb Fb w72 F1 ((some b41, .cells C71 103 (0, 0)) :: Lf)) hr74 => ?_)
     obtain ⟨x75, hx76, h78⟩ := bind_some h63
     obtain ⟨hi77, hx76'⟩ := idx_spec hx76
     obtain ⟨b79, C80, ha81, he82, hE83⟩ := RowR.open hr74 hx76'
     cases ha81
     cases he82
     have hc85 := hE83 _ _ hx76'
     refine Df 14 27 0 (.pointer (some ⟨b41, ((s4.2.1 : Int).toNat * 7), none⟩)) (fun _ hq => run_index0 (t := 57) (x := (.tmp 16)) (y := (.tmp 17)) (b := b41) (E := 103) (s := 7) (by_ := 56) (len_set rfl) rfl (by kernel_rfl) hi77) ?_
     refine DWP.one (i := 15) (by kernel_rfl) ?_
     refine DStep.storeRow (l' := [true, true, true, true, true, true, true, true, true, true, true, true, true, true, true, true]) (zd := true) (by kernel_rfl) (by kernel_rfl) (ty := 0) (g := none) (by kernel_rfl) rfl (x := (.tmp 27)) (y := (.tmp 25)) (t := 103) (v := (.agg (kBound x49))) (gg := true) (b := b41) (j := (s4.2.1 : Int).toNat) (C := C71) (T := tBound) (E := 103) (u := (x49)) rfl rfl (by kernel_rfl) hs73 (k := 0) rfl hr74 hx76' rfl rfl (Mem.le.refl _) (fun _ => by simp) (fun e => by cases e) (fun C86 w87 (hs88 : HS wb Fb w87 F1 ((some b41, .cells C86 103 (0, 0)) :: Lf)) hr89 => ?_)
     obtain rfl := some_inj h78
     exact DWP.done (by kernel_rfl) ⟨F1, (some b41, .cells C86 103 (0, 0)), hs88, (Mem.le.refl _), e8, (len_set (len_set e9)), e10, e11, hr89⟩
    ·refine DStep.val (l' := [true, true, true, true, true, true, true, false, true, true, true, true, false, false, false, false]) (zd := false) (by kernel_rfl) (by kernel_rfl) (dst := (some 25)) (ty := 103) (g := none) (by kernel_rfl) rfl (run_loadE (t := 103) (x := (.tmp 24)) (b := b41) (o := ((s4.1 : Int).toNat * 7)) (j := 0) (C := C42) (kk := 7) (cs := [(vi x49.From.Log), (vi x49.From.Line), (vi x49.To.Log), (vi x49.To.Line), (vi x49.Most), (vi x49.Kind), (vi x49.ID)]) (gg := true) (s := 7) (v := (.agg (kBound x49))) rfl (by kernel_rfl) (hw26.ownAt (k := 0) rfl) hc59 (by decide) (by exact ⟨rfl, trivial⟩) rfl rfl) (dz_of hw26 (Mem.le.refl _) (by simp) (fun _ => by simp)) ?_
     refine DWP.one (i := 7) (by kernel_rfl) ?_
     refine DStep.val (l' := [true, true, true, true, true, true, true, true, true, true, true, true, false, false, false, false]) (zd := false) (by kernel_rfl) (by kernel_rfl) (dst := (some 21)) (ty := 103) (g := none) (by kernel_rfl) rfl (run_loadE (t := 103) (x := (.tmp 20)) (b := b41) (o := ((s4.2.1 : Int).toNat * 7)) (j := 0) (C := C42) (kk := 7) (cs := [(vi x37.From.Log), (vi x37.From.Line), (vi x37.To.Log), (vi x37.To.Line), (vi x37.Most), (vi x37.Kind), (vi x37.ID)]) (gg := true) (s := 7) (v := (.agg (kBound x37))) rfl (by kernel_rfl) (hw26.ownAt (k := 0) rfl) hc48 (by decide) (by exact ⟨rfl, trivial⟩) rfl rfl) (dz_of hw26 (Mem.le.refl _) (by simp) (fun _ => by simp)) ?_
     obtain ⟨x90, hx91, h93⟩ := bind_some h52
     obtain ⟨hi92, hx91'⟩ := idx_spec hx91
     obtain ⟨b94, C95, ha96, he97, hE98⟩ := RowR.open hr46 hx91'
     cases ha96
     cases he97
     have hc100 := hE98 _ _ hx91'
     refine Df 12 26 0 (.pointer (some ⟨b41, ((s4.1 : Int).toNat * 7), none⟩)) (fun _ hq => run_index0 (t := 57) (x := (.tmp 14)) (y := (.tmp 15)) (b := b41) (E := 103) (s := 7) (by_ := 56) rfl rfl (by kernel_rfl) hi92) ?_
     refine DWP.one (i := 13) (by kernel_rfl) ?_
     refine DStep.storeRow (l' := [true, true, true, true, true, true, true, true, true, true, true, true, true, true, false, false]) (zd := false) (by kernel_rfl) (by kernel_rfl) (ty := 0) (g := none) (by kernel_rfl) rfl (x := (.tmp 26)) (y := (.tmp 21)) (t := 103) (v := (.agg (kBound x37))) (gg := true) (b := b41) (j := (s4.1 : Int).toNat) (C := C42) (T := tBound) (E := 103) (u := (x37)) rfl rfl (by kernel_rfl) hw26 (k := 0) rfl hr46 hx91' rfl rfl (Mem.le.refl _) (fun _ => by simp) (fun _ _ => by simp) (fun C101 w102 (hs103 : HS wb Fb w102 F1 ((some b41, .cells C101 103 (0, 0)) :: Lf)) hr104 => ?_)
     obtain ⟨x105, hx106, h108⟩ := bind_some h93
     obtain ⟨hi107, hx106'⟩ := idx_spec hx106
     obtain ⟨b109, C110, ha111, he112, hE113⟩ := RowR.open hr104 hx106'
     cases ha111
     cases he112
     have hc115 := hE113 _ _ hx106'
     refine Df 14 27 0 (.pointer (some ⟨b41, ((s4.2.1 : Int).toNat * 7), none⟩)) (fun _ hq => run_index0 (t := 57) (x := (.tmp 16)) (y := (.tmp 17)) (b := b41) (E := 103) (s := 7) (by_ := 56) (len_set rfl) rfl (by kernel_rfl) hi107) ?_
     refine DWP.one (i := 15) (by kernel_rfl) ?_
     refine DStep.storeRow (l' := [true, true, true, true, true, true, true, true, true, true, true, true, true, true, true, true]) (zd := true) (by kernel_rfl) (by kernel_rfl) (ty := 0) (g := none) (by kernel_rfl) rfl (x := (.tmp 27)) (y := (.tmp 25)) (t := 103) (v := (.agg (kBound x49))) (gg := true) (b := b41) (j := (s4.2.1 : Int).toNat) (C := C101) (T := tBound) (E := 103) (u := (x49)) rfl rfl (by kernel_rfl) hs103 (k := 0) rfl hr104 hx106' rfl rfl (Mem.le.refl _) (fun _ => by simp) (fun e => by cases e) (fun C116 w117 (hs118 : HS wb Fb w117 F1 ((some b41, .cells C116 103 (0, 0)) :: Lf)) hr119 => ?_)
     obtain rfl := some_inj h108
     exact DWP.done (by kernel_rfl) ⟨F1, (some b41, .cells C116 103 (0, 0)), hs118, (Mem.le.refl _), e8, (len_set (len_set e9)), e10, e11, hr119⟩
   ·rintro f w27 ⟨F3, ej30_0, hs28, le29, e31, e32, e33, e34, hrj30_0⟩
    refine blockQ_nrm ?_
    refine thenQ_nrm ?_
    refine Rg [0, 1, 2, 3, 4, 5] ?_
    refine V 10 3 (mv 2 (vi s4.1) e33) ?_
    refine V 11 3 (run_add (t := 3) (t' := 3) (x := (.tmp 10)) (y := (.const (vi 1))) (k := .i64) (a := s4.1) (b := 1) rfl rfl) ?_
    refine V 12 3 (mv 3 (vi s4.2.1) e34) ?_
    refine V 13 3 (run_sub (t := 3) (t' := 3) (x := (.tmp 12)) (y := (.const (vi 1))) (k := .i64) (a := s4.2.1) (b := 1) rfl rfl) ?_
    refine V 2 3 (ma 11 (vi (W64 (s4.1 + 1)))) ?_
    refine V 3 3 (ma 13 (vi (W64 (s4.2.1 - 1)))) ?_
    refine RWP.nil ?_
    have hn120 := iter_next h36 hnx22
    exact ⟨m19, Nat.lt_succ_self _, ((W64 (s4.1 + 1)), (W64 (s4.2.1 - 1)), j30), F3, ej30_0, hn120, hs28, (le7.trans le29), e31, e32, rfl, rfl, hrj30_0⟩
  ·have h121 := cond_f hb21 hb23
   refine CWP.exit (by kernel_rfl) ?_
   refine thenQ_ex ?_
   refine thenQ_ex ?_
   refine blockQ_hit rfl ?_
   have ho122 := iter_done h121 hnx22
   exact .inl ⟨rfl, (s4.1, s4.2.1, s4.2.2), F1, es4_2, ho122, hs6, le7, e8, hrs4_2⟩
 ·rintro f w13 ⟨s12, F2, es12_2, rfl, hs14, le15, e16, hrs12_2⟩
  have h123 := k_done h3
  have hfin := some_inj h123
  subst hfin
  exact ⟨e16, .tuple #[], res_of (l := []) (by kernel_rfl) (vs := []) trivial, F2, _, rfl, hs14, le15, hrs12_2⟩
end Go.Proofs.Ythbcnabeabcmlaa
namespace Go.Proofs.Ythbcnabeabcmlaa
open Go.Proofs
def clocks_reached_cycle_1 (N : Nat) (x0 : Ref) (z0 : Ref) : Option Bool :=
 some ((x0.Log == z0.Log) && ((x0.Line == z0.Line) && true))
theorem co_clocks_reached_cycle_1 : CallOk Try.prog 136 := fun _ _ => by kernel_rfl
set_option maxHeartbeats 4000000 in
set_option maxRecDepth 100000 in
theorem c_clocks_reached_cycle_1 (N : Nat) (w0 : World) (F0 : Mem) (hF : ∀ b o, F0 b = some o → w0.heap[b]? = some o) (x0 : Ref) (bz0 : Nat) (z0 : Ref) (hz0 : F0 bz0 = some (oc (kRef z0) 27)) (r : Bool) (h : clocks_reached_cycle_1 N x0 z0 = some r) :
  Calls Try.prog 136 ([(.agg (kRef x0)), (.pointer (some ⟨bz0, 0, none⟩))] : List Value).toArray w0 (FRet w0 F0 fun F' v => v = (.bool r)) := by
 have hs0 := HS.start hF
 refine calls_of (n := 7) (c := bodyOf Try.f136) Try.func136 (by kernel_rfl) (by kernel_rfl) (by kernel_rfl) ?_
 refine Sq (Rg [0, 1] ?_)
 refine Bx 2 0 0 27 (kRef x0) hs0 (fun b1 w2 (hs3 : HS w0 F0 w2 F0 [(sb b1 (kRef x0) 27)]) => ?_)
 refine V 3 4 (mc (.bool false) (.bool false)) ?_
 refine Nss (Rg [0, 1, 2, 3] ?_)
 refine V 4 27 (ld 27 2 b1 0 true 2 (.agg (kRef x0)) (hs3.ownAt (k := 0) rfl)) ?_
 refine V 5 27 (ld 27 1 bz0 0 true 2 (.agg (kRef z0)) (hs3.pers _ _ hz0)) ?_
 refine V 6 4 (run_eqs (t := 27) (t' := 27) (x := (.tmp 4)) (y := (.tmp 5)) (xs := (kRef x0)) (ys := (kRef z0)) (b := ((x0.Log == z0.Log) && ((x0.Line == z0.Line) && true))) rfl rfl (by kernel_rfl) (by kernel_rfl)) ?_
 refine V 3 4 (ma 6 (.bool ((x0.Log == z0.Log) && ((x0.Line == z0.Line) && true)))) ?_
 refine Nt ?_
 refine CWP.ret (by kernel_rfl) ?_
 have hfin := some_inj h
 subst hfin
 exact ⟨rfl, (.bool ((x0.Log == z0.Log) && ((x0.Line == z0.Line) && true))), res_of (l := [.tmp 3]) (by kernel_rfl) (vs := [(.bool ((x0.Log == z0.Log) && ((x0.Line == z0.Line) && true)))]) ⟨rfl, trivial⟩, (.bool ((x0.Log == z0.Log) && ((x0.Line == z0.Line) && true))), F0, rfl, hs3.clear, rfl⟩
end Go.Proofs.Ythbcnabeabcmlaa
namespace Go.Proofs.Ythbcnabeabcmlaa
theorem ml_slices_Reverse_api_Bound_api_Bound {N : Nat} {x r : List Bound} (h : slices_Reverse_api_Bound_api_Bound N x = some r) : r.length = x.length := by
 unfold slices_Reverse_api_Bound_api_Bound at h
 obtain ⟨o, ho, h⟩ := bind_some h
 obtain ⟨s1, hI, hb, _⟩ := iter_inv (fun s => s.2.2.length = x.length) (fun s s' hI hs => by
  unfold slices_Reverse_api_Bound_api_Bound_L0 at hs
  rcases cond_some hs with ⟨_, hs⟩ | ⟨_, hs⟩
  ·obtain ⟨j, hj, hs⟩ := bind_some hs
   cases hs
   obtain ⟨_, _, hj⟩ := bind_some hj
   obtain ⟨_, _, hj⟩ := bind_some hj
   obtain ⟨_, _, hj⟩ := bind_some hj
   obtain ⟨_, _, hj⟩ := bind_some hj
   cases hj
   simpa using hI
  ·cases hs) (by rfl) ho
 unfold slices_Reverse_api_Bound_api_Bound_L0 at hb
 rcases cond_some hb with ⟨_, hb⟩ | ⟨_, hb⟩
 ·obtain ⟨j, _, hb⟩ := bind_some hb
  cases hb; cases h
 ·cases hb; cases h; exact hI
end Go.Proofs.Ythbcnabeabcmlaa
namespace Go.Proofs.Ythbcnabeabcmlaa
open Go.Proofs
def clocks_reached_cycle_L0 (N : Nat) (x0 : Reached) (x1 : Ref) (x2 : Int) (x3 : Bool) : (Int × Int × Int) → Option (Flow (List Bound) (Int × Int × Int)) := fun s10 =>
 (bif (decide (s10.1 < (W64 (x2 + 1)))) then ((clocks_ends N ((mgetD x0.by_ ({ Log := s10.2.1, Line := s10.2.2 } : Ref) ({ From := ({ Log := 0, Line := 0 } : Ref), To := ({ Log := 0, Line := 0 } : Ref), Most := 0, Kind := 0, ID := 0 } : Bound))) x3).bind fun r36 => some (.next ((W64 (s10.1 + 1)), r36.1.Log, r36.1.Line))) else some (.done (s10.1, s10.2.1, s10.2.2)))
def clocks_reached_cycle (N : Nat) (x0 : Reached) (x1 : Ref) (x2 : Int) (x3 : Bool) : Option (List Bound) :=
 ((iter (clocks_reached_cycle_L0 N x0 x1 x2 x3) N (0, x1.Log, x1.Line)).bind fun o => o.k (fun r => some r) (fun s20 => ((clocks_reached_back N x0 ({ Log := s20.2.1, Line := s20.2.2 } : Ref) x3 (fun y0 => clocks_reached_cycle_1 N y0 ({ Log := s20.2.1, Line := s20.2.2 } : Ref))).bind fun r53 => ((bif (!x3) then ((slices_Reverse_api_Bound_api_Bound N r53).bind fun r77 => some r77) else some r53).bind fun j70 => some j70))))
theorem co_clocks_reached_cycle : CallOk Try.prog 122 := fun _ _ => by kernel_rfl
set_option maxHeartbeats 4000000 in
set_option maxRecDepth 100000 in
theorem c_clocks_reached_cycle (N : Nat) (w0 : World) (F0 : Mem) (hF : ∀ b o, F0 b = some o → w0.heap[b]? = some o) (x0 : Reached) (o0_0 : Option Nat) (hm0_0 : MpA tRef tInt F0 o0_0 x0.at_) (o0_1 : Option Nat) (hm0_1 : MpA tRef tBound F0 o0_1 x0.by_) (x1 : Ref) (x2 : Int) (x3 : Bool) (r : (List Bound)) (h : clocks_reached_cycle N x0 x1 x2 x3 = some r) :
  Calls Try.prog 122 ([(.agg #[(.map o0_0), (.map o0_1)]), (.agg (kRef x1)), (vi x2), (.bool x3)] : List Value).toArray w0 (FRetO w0 F0 fun F' v L' => ∃ (a : Option Addr) (n : Nat) (e : Option Nat × Obj), v = .slice a r.length n ∧ L' = [e] ∧ RowR tBound 103 F' a n r e) := by
 have hs0 := HS.start hF
 refine calls_of (n := 34) (c := bodyOf Try.f122) Try.func122 (by kernel_rfl) (by kernel_rfl) (by kernel_rfl) ?_
 refine Sq (Rg [0, 1, 2] ?_)
 refine Bx 4 0 0 95 #[(.map o0_0), (.map o0_1)] hs0 (fun b1 w2 (hs3 : HS w0 F0 w2 F0 [(sb b1 #[(.map o0_0), (.map o0_1)] 95)]) => ?_)
 refine Bx 5 0 1 27 (kRef x1) hs3 (fun b4 w5 (hs6 : HS w0 F0 w5 F0 [(sb b4 (kRef x1) 27), (sb b1 #[(.map o0_0), (.map o0_1)] 95)]) => ?_)
 refine V 8 57 (mc (.slice none 0 0) (.slice none ([] : List Bound).length 0)) ?_
 refine Nss ?_
 refine Sq (Rg [0, 1, 2] ?_)
 refine V 10 3 (mv 2 (vi x2)) ?_
 refine V 11 3 (run_add (t := 3) (t' := 3) (x := (.tmp 10)) (y := (.const (vi 1))) (k := .i64) (a := x2) (b := 1) rfl rfl) ?_
 refine V 12 3 (run_move (x := (.const (vi 0))) (v := (vi 0)) rfl) ?_
 refine Nt ?_
 obtain ⟨o7, ho8, h9⟩ := bind_some h
 refine CWP.cut (fun f w => ∃ (s20 : (Int × Int × Int)) (F2 : Mem), o7 = .done s20 ∧ HS w0 F0 w F2 [(sb b4 #[(vi s20.2.1), (vi s20.2.2)] 27), (sb b1 #[(.map o0_0), (.map o0_1)] 95)] ∧ Mem.le F0 F2 ∧ f.d = [] ∧ f 3 = (.bool x3) ∧ f 4 = (.pointer (some ⟨b1, 0, none⟩)) ∧ f 5 = (.pointer (some ⟨b4, 0, none⟩))) ?_ ?_
 ·refine Bk ?_
  refine CWP.loop (by kernel_rfl) (fun m f w => ∃ (s10 : (Int × Int × Int)) (F1 : Mem), iter (clocks_reached_cycle_L0 N x0 x1 x2 x3) m s10 = some o7 ∧ HS w0 F0 w F1 [(sb b4 #[(vi s10.2.1), (vi s10.2.2)] 27), (sb b1 #[(.map o0_0), (.map o0_1)] 95)] ∧ Mem.le F0 F1 ∧ f.d = [] ∧ f 3 = (.bool x3) ∧ f 4 = (.pointer (some ⟨b1, 0, none⟩)) ∧ f 5 = (.pointer (some ⟨b4, 0, none⟩)) ∧ f 11 = (vi (W64 (x2 + 1))) ∧ f 12 = (vi s10.1)) N ⟨(0, x1.Log, x1.Line), F0, ho8, hs6, (Mem.le.refl _), rfl, rfl, rfl, rfl, rfl, rfl⟩ ?_
  rintro m28 f w11 ⟨s10, F1, hit29, hs12, le13, e14, e15, e16, e17, e18, e19⟩
  obtain ⟨m30, fl31, rfl, hb32, hnx33⟩ := iter_step hit29
  refine Sq (Rg [0] ?_)
  refine V 13 4 (run_lss (t := 3) (t' := 3) (x := (.tmp 12)) (y := (.tmp 11)) (k := .i64) (a := s10.1) (b := (W64 (x2 + 1))) e19 e18) ?_
  refine Nss ?_
  refine CWP.cond (t := (decide (s10.1 < (W64 (x2 + 1))))) (by kernel_rfl) rfl (fun hb34 => ?_) (fun hb34 => ?_)
  ·have h35 := cond_t hb32 hb34
   refine Sc ?_
   refine thenQ_nrm ?_
   refine Sq ?_
   refine Bk ?_
   refine Rg [0, 1, 2, 3, 4, 5, 6, 7, 8, 9] ?_
   refine V 15 0 (fa 95 4 1 1 1 b1 0 1 e16) ?_
   refine V 16 93 (ld 93 15 b1 1 false 1 (.map o0_1) (hs12.ownAt (k := 1) rfl)) ?_
   refine V 17 27 (ld 27 5 b4 0 true 2 (.agg #[(vi s10.2.1), (vi s10.2.2)]) (hs12.ownAt (k := 0) rfl) e17) ?_
   refine V 18 103 (run_lookV1 (mt := 93) (k := 27) (vt := 103) (m := (.tmp 16)) (x := (.tmp 17)) (kv := (.agg #[(vi s10.2.1), (vi s10.2.2)])) (kx := ({ Log := s10.2.1, Line := s10.2.2 } : Ref)) (z := (.agg #[(vi 0), (vi 0), (vi 0), (vi 0), (vi 0), (vi 0), (vi 0)])) (zx := ({ From := ({ Log := 0, Line := 0 } : Ref), To := ({ Log := 0, Line := 0 } : Ref), Most := 0, Kind := 0, ID := 0 } : Bound)) (K := tRef) (T := tBound) kl27 rfl rfl ⟨_, rfl, rfl⟩ (by kernel_rfl) (by kernel_rfl) ⟨_, rfl, rfl⟩ (MpA.mpw hs12.pers (MpA.mono hm0_1 le13)) (fun h => by obtain ⟨_, rfl, rfl⟩ := h; rfl)) ?_
   refine V 19 4 (mv 3 (.bool x3) e15) ?_
   obtain ⟨r36, hr37, h38⟩ := bind_some h35
   refine Cl 20 147 121 #[(.tmp 18), (.tmp 19)] #[103, 4] co_clocks_ends hs12 (c_clocks_ends N w11 F1 hs12.pers (((mgetD x0.by_ ({ Log := s10.2.1, Line := s10.2.2 } : Ref) ({ From := ({ Log := 0, Line := 0 } : Ref), To := ({ Log := 0, Line := 0 } : Ref), Most := 0, Kind := 0, ID := 0 } : Bound)))) (x3) _ hr37) ?_
   intro v39 F3 w40 hs41 le42 hp43
   obtain rfl := hp43
   refine V 14 147 (mv 20 (.tuple #[(.agg (kRef r36.1)), (.agg (kRef r36.2))])) ?_
   refine V 21 27 (ex 14 0 (.agg (kRef r36.1)) (vs := #[(.agg (kRef r36.1)), (.agg (kRef r36.2))])) ?_
   refine V 22 27 (ex 14 1 (.agg (kRef r36.2)) (vs := #[(.agg (kRef r36.1)), (.agg (kRef r36.2))])) ?_
   refine RWP.store (ty := 0) (g := none) (by kernel_rfl) rfl (x := (.tmp 5)) (y := (.tmp 21)) (t := 27) (gg := true) (s := 2) (v := (.agg (kRef r36.1))) (b := b4) (o := 0) (C := #[(vi s10.2.1), (vi s10.2.2)]) e17 rfl (by kernel_rfl) hs41 (k := 0) rfl rfl rfl rfl (C' := (kRef r36.1)) rfl (fun w44 (hs45 : HS w0 F0 w44 F3 [(sb b4 (kRef r36.1) 27), (sb b1 #[(.map o0_0), (.map o0_1)] 95)]) => ?_)
   refine RWP.nil ?_
   refine blockQ_nrm ?_
   refine thenQ_nrm ?_
   refine Rg [0, 1] ?_
   refine V 23 3 (run_add (t := 3) (t' := 3) (x := (.tmp 12)) (y := (.const (vi 1))) (k := .i64) (a := s10.1) (b := 1) e19 rfl) ?_
   refine V 12 3 (mv 23 (vi (W64 (s10.1 + 1)))) ?_
   refine RWP.nil ?_
   have hn46 := iter_next h38 hnx33
   exact ⟨m30, Nat.lt_succ_self _, ((W64 (s10.1 + 1)), r36.1.Log, r36.1.Line), F3, hn46, hs45, (le13.trans le42), e14, e15, e16, e17, e18, rfl⟩
  ·have h47 := cond_f hb32 hb34
   refine CWP.exit (by kernel_rfl) ?_
   refine thenQ_ex ?_
   refine thenQ_ex ?_
   refine blockQ_hit rfl ?_
   have ho48 := iter_done h47 hnx33
   exact .inl ⟨rfl, (s10.1, s10.2.1, s10.2.2), F1, ho48, hs12, le13, e14, e15, e16, e17⟩
 ·rintro f w21 ⟨s20, F2, rfl, hs22, le23, e24, e25, e26, e27⟩
  have h49 := k_done h9
  refine thenQ_nrm ?_
  refine Sq (Rg [0, 1, 2, 3, 4, 5] ?_)
  refine V 24 95 (ld 95 4 b1 0 true 2 (.agg #[(.map o0_0), (.map o0_1)]) (hs22.ownAt (k := 1) rfl) e26) ?_
  refine V 25 27 (ld 27 5 b4 0 true 2 (.agg #[(vi s20.2.1), (vi s20.2.2)]) (hs22.ownAt (k := 0) rfl) e27) ?_
  refine V 26 4 (mv 3 (.bool x3) e25) ?_
  refine V 27 139 (run_makeFunc (fn := .func 136) (first := #[]) (cap := #[(.tmp 5)]) (fl := []) (cl := [(.pointer (some ⟨b4, 0, none⟩))]) rfl (cons_eq e27 (rfl))) ?_
  obtain ⟨F4, hs50, le51, hF52⟩ : ∃ Fq, HS w0 F0 w21 Fq [(sb b1 #[(.map o0_0), (.map o0_1)] 95)] ∧ Mem.le F2 Fq ∧ Fq b4 = some (oc #[(vi s20.2.1), (vi s20.2.2)] 27) := HS.freezeC hs22 (k := 0) rfl
  obtain ⟨r53, hr54, h55⟩ := bind_some h49
  refine RWP.callO (dst := (some 28)) (ty := 57) (g := none) (by kernel_rfl) rfl (f0 := (.func 110)) (aos := #[(.tmp 24), (.tmp 25), (.tmp 26), (.tmp 27)]) (ats := #[95, 27, 4, 139]) (fid := 110) (first := #[]) (cap := #[]) (args := [(.agg #[(.map o0_0), (.map o0_1)]), (.agg #[(vi s20.2.1), (vi s20.2.2)]), (.bool x3), (.func (.func 136) #[] #[(.pointer (some ⟨b4, 0, none⟩))])]) rfl co_clocks_reached_back (rfl) hs50 (c_clocks_reached_back N w21 F4 hs50.pers (x0) o0_0 (MpA.mono hm0_0 (le23.trans le51)) o0_1 (MpA.mono hm0_1 (le23.trans le51)) (({ Log := s20.2.1, Line := s20.2.2 } : Ref)) (x3) 136 [] [(.pointer (some ⟨b4, 0, none⟩))] (fun y0 => clocks_reached_cycle_1 N y0 ({ Log := s20.2.1, Line := s20.2.2 } : Ref)) co_clocks_reached_cycle_1 (fun w1 F1 y0 r le1 pe1 hr1 => c_clocks_reached_cycle_1 N w1 F1 pe1  y0 b4 ({ Log := s20.2.1, Line := s20.2.2 } : Ref) (le1 _ _ hF52) r hr1) _ hr54) ?_
  rintro _ F5 w57 _ hs58 le59 ⟨a61, n62, e63, rfl, rfl, hr64⟩
  have hs66 : HS w0 F0 w57 F5 [e63, (sb b1 #[(.map o0_0), (.map o0_1)] 95)] := hs58
  refine V 9 57 (ma 28 (.slice a61 r53.length n62)) ?_
  refine Nss ?_
  refine Sq (Rg [0, 1] ?_)
  refine V 29 4 (mv 3 (.bool x3) e25) ?_
  refine V 30 4 (run_not (t := 4) (x := (.tmp 29)) (a := x3) rfl) ?_
  refine Nt ?_
  obtain ⟨j70, hj73, h74⟩ := bind_some h55
  refine CWP.cut (fun f w => ∃ (F6 : Mem) (ej70_0 : Option Nat × Obj), HS w0 F0 w F6 [ej70_0] ∧ Mem.le F5 F6 ∧ f.d = [] ∧ f 9 = (.slice a61 j70.length n62) ∧ RowR tBound 103 F6 a61 n62 j70 ej70_0) ?_ ?_
  ·refine CWP.cond (t := (!x3)) (by kernel_rfl) rfl (fun hb75 => ?_) (fun hb75 => ?_)
   ·have h76 := cond_t hj73 hb75
    refine Rg [0, 1] ?_
    refine V 31 57 (mv 9 (.slice a61 r53.length n62)) ?_
    obtain ⟨r77, hr78, h79⟩ := bind_some h76
    refine RWP.callS (dst := (some 32)) (ty := 0) (g := none) (by kernel_rfl) rfl (f0 := (.func 112)) (aos := #[(.tmp 31)]) (ats := #[57]) (fid := 112) (first := #[]) (cap := #[]) (args := [(.slice a61 r53.length n62)]) rfl co_slices_Reverse_api_Bound_api_Bound (rfl) (c_slices_Reverse_api_Bound_api_Bound N (Lf := [(sb b1 #[(.map o0_0), (.map o0_1)] 95)]) r53 a61 n62 e63 hr64 hs66  _ hr78) ?_
    rintro _ w81 ⟨F7, e80, rfl, hs82, le83, hr84⟩
    refine ⟨_, rfl, ?_⟩
    have hs85 : HS w0 F0 w81 F7 [e80, (sb b1 #[(.map o0_0), (.map o0_1)] 95)] := hs82
    refine RWP.nil ?_
    obtain rfl := some_inj h79
    have hs86 : HS w0 F0 w81 F7 [e80] := hs85.drop 1
    exact .inl ⟨rfl, F7, e80, hs86, le83, e24, (len_eq rfl (ml_slices_Reverse_api_Bound_api_Bound hr78)), hr84⟩
   ·have h87 := cond_f hj73 hb75
    refine Sc ?_
    obtain rfl := some_inj h87
    have hs88 : HS w0 F0 w57 F5 [e63] := hs66.drop 1
    exact .inl ⟨rfl, F5, e63, hs88, (Mem.le.refl _), e24, rfl, hr64⟩
  ·rintro f w67 ⟨F6, ej70_0, hs68, le69, e71, e72, hrj70_0⟩
   refine thenQ_nrm ?_
   refine Sq (Rg [0, 1] ?_)
   refine V 33 57 (mv 9 (.slice a61 j70.length n62) e72) ?_
   refine V 8 57 (ma 33 (.slice a61 j70.length n62)) ?_
   refine Nt ?_
   refine CWP.ret (by kernel_rfl) ?_
   have hfin := some_inj h74
   subst hfin
   exact ⟨e71, (.slice a61 j70.length n62), res_of (l := [.tmp 8]) (by kernel_rfl) (vs := [(.slice a61 j70.length n62)]) ⟨rfl, trivial⟩, (.slice a61 j70.length n62), F6, _, rfl, hs68, _, _, _, rfl, rfl, hrj70_0⟩
end Go.Proofs.Ythbcnabeabcmlaa
