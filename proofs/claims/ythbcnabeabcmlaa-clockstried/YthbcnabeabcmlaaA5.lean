/- ClocksTried: for every input the law returns true, and each argument reads afterwards as it read before. No condition. -/
import Derived.Test.YthbcnabeabcmlaaA4
set_option linter.unusedVariables false
set_option linter.unusedSimpArgs false
set_option linter.unusedSectionVars false
namespace Go.Proofs.Ythbcnabeabcmlaa
open Go.Proofs
def law03_few_L0 (N : Nat) (x0 : System) : (Int × Int) → Option (Flow Bool (Int × Int)) := fun s7 =>
 (bif (decide (s7.2 < (x0.Tracks.length : Int))) then ((idx x0.Tracks s7.2).bind fun x30 => ((idx x0.Tracks s7.2).bind fun x44 => (bif (decide ((x44.Clock.Jumps.length : Int) > 40)) then some (.ret false) else some (.next ((W64 (s7.1 + (x30.Times.length : Int))), (W64 (s7.2 + 1))))))) else some (.done (s7.1, s7.2)))
def law03_few (N : Nat) (x0 : System) : Option Bool :=
 ((iter (law03_few_L0 N x0) N (0, 0)).bind fun o => o.k (fun r => some r) (fun s15 => some ((decide (s15.1 ≤ 40)) && ((decide ((x0.Tracks.length : Int) ≤ 100)) && ((decide ((x0.Ties.length : Int) ≤ 30)) || ((decide ((x0.Ties.length : Int) > 400)) && (decide ((x0.Ties.length : Int) ≤ 500))))))))
theorem co_law03_few : CallOk Try.prog 16 := fun _ _ => by kernel_rfl
set_option maxHeartbeats 4000000 in
set_option maxRecDepth 100000 in
theorem c_law03_few (N : Nat) (w0 : World) (F0 : Mem) (hF : ∀ b o, F0 b = some o → w0.heap[b]? = some o) (x0 : System) (a0_0 : Option Addr) (n0_0 : Nat) (hb0_0 : LC x0.Tracks.length n0_0) (hs0_0 : SlA tTrack F0 a0_0 x0.Tracks) (a0_1 : Option Addr) (n0_1 : Nat) (hb0_1 : LC x0.Ties.length n0_1) (hs0_1 : SlA tTie F0 a0_1 x0.Ties) (r : Bool) (h : law03_few N x0 = some r) :
  Calls Try.prog 16 ([(.agg (kSystem x0 a0_0 n0_0 a0_1 n0_1))] : List Value).toArray w0 (FRet w0 F0 fun F' v => v = (.bool r)) := by
 have hs0 := HS.start hF
 refine calls_of (n := 56) (c := bodyOf Try.f16) Try.func16 (by kernel_rfl) (by kernel_rfl) (by kernel_rfl) ?_
 refine Sq (Rg [0, 1] ?_)
 refine Bx 1 0 0 25 (kSystem x0 a0_0 n0_0 a0_1 n0_1) hs0 (fun b1 w2 (hs3 : HS w0 F0 w2 F0 [(sb b1 (kSystem x0 a0_0 n0_0 a0_1 n0_1) 25)]) => ?_)
 refine V 2 4 (mc (.bool false) (.bool false)) ?_
 refine Nss (Rg [0] ?_)
 refine V 3 3 (mc (vi 0) (vi 0)) ?_
 refine Nss ?_
 refine Sq (Rg [0] ?_)
 refine V 4 3 (mc (vi 0) (vi 0)) ?_
 refine Nt ?_
 obtain ⟨o4, ho5, h6⟩ := bind_some h
 refine CWP.cut (fun f w => ∃ (s15 : (Int × Int)) (F2 : Mem), o4 = .done s15 ∧ HS w0 F0 w F2 [(sb b1 (kSystem x0 a0_0 n0_0 a0_1 n0_1) 25)] ∧ Mem.le F0 F2 ∧ f.d = [] ∧ f 1 = (.pointer (some ⟨b1, 0, none⟩)) ∧ f 3 = (vi s15.1)) ?_ ?_
 ·refine Bk ?_
  refine CWP.loop (by kernel_rfl) (fun m f w => ∃ (s7 : (Int × Int)) (F1 : Mem), iter (law03_few_L0 N x0) m s7 = some o4 ∧ HS w0 F0 w F1 [(sb b1 (kSystem x0 a0_0 n0_0 a0_1 n0_1) 25)] ∧ Mem.le F0 F1 ∧ f.d = [] ∧ f 1 = (.pointer (some ⟨b1, 0, none⟩)) ∧ f 3 = (vi s7.1) ∧ f 4 = (vi s7.2)) N ⟨(0, 0), F0, ho5, hs3, (Mem.le.refl _), rfl, rfl, rfl, rfl⟩ ?_
  rintro m22 f w8 ⟨s7, F1, hit23, hs9, le10, e11, e12, e13, e14⟩
  obtain ⟨m24, fl25, rfl, hb26, hnx27⟩ := iter_step hit23
  refine Sq ?_
  refine Sq (Rg [0, 1, 2, 3, 4] ?_)
  refine V 5 3 (mv 4 (vi s7.2) e14) ?_
  refine V 6 0 (fa 25 1 0 0 1 b1 0 0 e12) ?_
  refine V 7 22 (ld 22 6 b1 0 false 1 (.slice a0_0 x0.Tracks.length n0_0) (hs9.ownAt (k := 0) rfl)) ?_
  refine V 8 3 (ln 7 22 a0_0 x0.Tracks.length n0_0 54 4 64) ?_
  refine V 9 4 (run_lss (t := 3) (t' := 3) (x := (.tmp 5)) (y := (.tmp 8)) (k := .i64) (a := s7.2) (b := (x0.Tracks.length : Int)) rfl rfl) ?_
  refine Nt ?_
  refine CWP.cond (t := (decide (s7.2 < (x0.Tracks.length : Int)))) (by kernel_rfl) rfl (fun hb28 => ?_) (fun hb28 => ?_)
  ·have h29 := cond_t hb26 hb28
   refine Sc ?_
   refine thenQ_nrm ?_
   refine Sq ?_
   refine Bk ?_
   refine Sq (Rg [0, 1, 2, 3, 4, 5, 6, 7, 8, 9] ?_)
   refine V 12 3 (mv 3 (vi s7.1) e13) ?_
   refine V 13 0 (fa 25 1 0 0 1 b1 0 0 e12) ?_
   refine V 14 22 (ld 22 13 b1 0 false 1 (.slice a0_0 x0.Tracks.length n0_0) (hs9.ownAt (k := 0) rfl)) ?_
   refine V 15 3 (mv 4 (vi s7.2) e14) ?_
   obtain ⟨x30, hx31, h33⟩ := bind_some h29
   obtain ⟨hi32, hx31'⟩ := idx_spec hx31
   obtain ⟨b34, o35, C36, E37, fz38, rfl, hF40, hE41⟩ := SlA.open (SlA.mono hs0_0 le10) hx31'
   obtain ⟨ae42_2, ne42_2, ae42_3, ne42_3, hc43, hbe42_2, hse42_2, hbe42_3, hse42_3⟩ := hE41 _ _ hx31'
   refine V 16 0 (ix 22 14 15 b34 o35 54 4 64 hi32) ?_
   refine V 17 0 (fa 54 16 1 3 1 b34 (o35 + (s7.2 : Int).toNat * 4) ((o35 + (s7.2 : Int).toNat * 4) + 3)) ?_
   refine V 18 50 (lx 50 17 3 4 false 1 (.slice ae42_3 x30.Times.length ne42_3) (hs9.pers _ _ hF40) hc43) ?_
   refine V 19 3 (ln 18 50 ae42_3 x30.Times.length ne42_3 3 1 8) ?_
   refine V 20 3 (run_add (t := 3) (t' := 3) (x := (.tmp 12)) (y := (.tmp 19)) (k := .i64) (a := s7.1) (b := (x30.Times.length : Int)) rfl rfl) ?_
   refine V 3 3 (ma 20 (vi (W64 (s7.1 + (x30.Times.length : Int))))) ?_
   refine Nss (Rg [0, 1, 2, 3, 4, 5, 6, 7, 8] ?_)
   refine V 21 0 (fa 25 1 0 0 1 b1 0 0 e12) ?_
   refine V 22 22 (ld 22 21 b1 0 false 1 (.slice (some ⟨b34, o35, none⟩) x0.Tracks.length n0_0) (hs9.ownAt (k := 0) rfl)) ?_
   refine V 23 3 (mv 4 (vi s7.2) e14) ?_
   obtain ⟨x44, hx45, h47⟩ := bind_some h33
   obtain ⟨hi46, hx45'⟩ := idx_spec hx45
   obtain ⟨ae48_2, ne48_2, ae48_3, ne48_3, hc49, hbe48_2, hse48_2, hbe48_3, hse48_3⟩ := hE41 _ _ hx45'
   refine V 24 0 (ix 22 22 23 b34 o35 54 4 64 hi46) ?_
   refine V 25 0 (fa 54 24 0 0 3 b34 (o35 + (s7.2 : Int).toNat * 4) (o35 + (s7.2 : Int).toNat * 4)) ?_
   refine V 26 0 (fa 52 25 2 2 1 b34 (o35 + (s7.2 : Int).toNat * 4) ((o35 + (s7.2 : Int).toNat * 4) + 2)) ?_
   refine V 27 50 (lx 50 26 2 4 false 1 (.slice ae48_2 x44.Clock.Jumps.length ne48_2) (hs9.pers _ _ hF40) hc49) ?_
   refine V 28 3 (ln 27 50 ae48_2 x44.Clock.Jumps.length ne48_2 3 1 8) ?_
   refine V 29 4 (run_gtr (t := 3) (t' := 3) (x := (.tmp 28)) (y := (.const (vi 40))) (k := .i64) (a := (x44.Clock.Jumps.length : Int)) (b := 40) rfl rfl) ?_
   refine Nt ?_
   refine CWP.cond (t := (decide ((x44.Clock.Jumps.length : Int) > 40))) (by kernel_rfl) rfl (fun hb50 => ?_) (fun hb50 => ?_)
   ·have h51 := cond_t h47 hb50
    refine Sq (Rg [0] ?_)
    refine V 2 4 (mc (.bool false) (.bool false)) ?_
    refine Nt ?_
    refine CWP.ret (by kernel_rfl) ?_
    refine blockQ_ret ?_
    refine thenQ_ret ?_
    refine thenQ_ret ?_
    refine blockQ_ret ?_
    have hret := iter_ret h51 hnx27
    subst hret
    refine .inr ?_
    refine thenQ_ret ?_
    have hfin := some_inj h6
    subst hfin
    exact ⟨e11, (.bool false), res_of (l := [.tmp 2]) (by kernel_rfl) (vs := [(.bool false)]) ⟨rfl, trivial⟩, (.bool false), F1, rfl, hs9.clear, rfl⟩
   ·have h52 := cond_f h47 hb50
    refine Sc ?_
    refine blockQ_nrm ?_
    refine thenQ_nrm ?_
    refine Rg [0, 1, 2] ?_
    refine V 10 3 (mv 4 (vi s7.2) e14) ?_
    refine V 11 3 (run_add (t := 3) (t' := 3) (x := (.tmp 10)) (y := (.const (vi 1))) (k := .i64) (a := s7.2) (b := 1) rfl rfl) ?_
    refine V 4 3 (ma 11 (vi (W64 (s7.2 + 1)))) ?_
    refine RWP.nil ?_
    have hn53 := iter_next h52 hnx27
    exact ⟨m24, Nat.lt_succ_self _, ((W64 (s7.1 + (x30.Times.length : Int))), (W64 (s7.2 + 1))), F1, hn53, hs9, le10, e11, e12, rfl, rfl⟩
  ·have h54 := cond_f hb26 hb28
   refine CWP.exit (by kernel_rfl) ?_
   refine thenQ_ex ?_
   refine thenQ_ex ?_
   refine blockQ_hit rfl ?_
   have ho55 := iter_done h54 hnx27
   exact .inl ⟨rfl, (s7.1, s7.2), F1, ho55, hs9, le10, e11, e12, e13⟩
 ·rintro f w16 ⟨s15, F2, rfl, hs17, le18, e19, e20, e21⟩
  have h56 := k_done h6
  refine thenQ_nrm ?_
  refine Sq (Rg [0, 1, 2, 3, 4, 5, 6, 7, 8, 9, 10, 11, 12, 13, 14, 15, 16, 17, 18, 19, 20, 21, 22, 23, 24, 25, 26] ?_)
  refine RWP.cut (fun f w => ∃ (F3 : Mem), HS w0 F0 w F3 [] ∧ Mem.le F2 F3 ∧ f.d = [] ∧ f 2 = (.bool ((decide (s15.1 ≤ 40)) && ((decide ((x0.Tracks.length : Int) ≤ 100)) && ((decide ((x0.Ties.length : Int) ≤ 30)) || ((decide ((x0.Ties.length : Int) > 400)) && (decide ((x0.Ties.length : Int) ≤ 500)))))))) ?_ ?_
  ·refine V 30 3 (mv 3 (vi s15.1) e21) ?_
   refine V 31 4 (run_leq (t := 3) (t' := 3) (x := (.tmp 30)) (y := (.const (vi 40))) (k := .i64) (a := s15.1) (b := 40) rfl rfl) ?_
   refine V 32 4 (mv 31 (.bool (decide (s15.1 ≤ 40)))) ?_
   refine RWP.split (decide (s15.1 ≤ 40)) (fun hb62 => ?_) (fun hb62 => ?_)
   ·refine Vg 33 0 2 true 32 hb62 (fa 25 1 0 0 1 b1 0 0 e20) ?_
    refine Vg 34 22 2 true 32 hb62 (ld 22 33 b1 0 false 1 (.slice a0_0 x0.Tracks.length n0_0) (hs17.ownAt (k := 0) rfl)) ?_
    refine Vg 35 3 2 true 32 hb62 (ln 34 22 a0_0 x0.Tracks.length n0_0 54 4 64) ?_
    refine Vg 36 4 2 true 32 hb62 (run_leq (t := 3) (t' := 3) (x := (.tmp 35)) (y := (.const (vi 100))) (k := .i64) (a := (x0.Tracks.length : Int)) (b := 100) rfl rfl) ?_
    refine V 37 4 (p1 32 (.tmp 36) (.const (.bool false)) (.bool (decide ((x0.Tracks.length : Int) ≤ 100))) hb62) ?_
    refine V 38 4 (mv 37 (.bool (decide ((x0.Tracks.length : Int) ≤ 100)))) ?_
    refine RWP.split (decide ((x0.Tracks.length : Int) ≤ 100)) (fun hb63 => ?_) (fun hb63 => ?_)
    ·refine Vg 39 0 8 true 38 hb63 (fa 25 1 1 1 1 b1 0 1 e20) ?_
     refine Vg 40 23 8 true 38 hb63 (ld 23 39 b1 1 false 1 (.slice a0_1 x0.Ties.length n0_1) (hs17.ownAt (k := 0) rfl)) ?_
     refine Vg 41 3 8 true 38 hb63 (ln 40 23 a0_1 x0.Ties.length n0_1 46 4 32) ?_
     refine Vg 42 4 8 true 38 hb63 (run_leq (t := 3) (t' := 3) (x := (.tmp 41)) (y := (.const (vi 30))) (k := .i64) (a := (x0.Ties.length : Int)) (b := 30) rfl rfl) ?_
     refine Vg 43 4 8 true 38 hb63 (mv 42 (.bool (decide ((x0.Ties.length : Int) ≤ 30)))) ?_
     refine RWP.split (decide ((x0.Ties.length : Int) ≤ 30)) (fun hb64 => ?_) (fun hb64 => ?_)
     ·refine Sk [44, 45, 46, 47, 48] 13 false 43 hb64 ?_
      refine Su [49, 50, 51, 52] 18 true 48 ?_
      refine Sk [53] 13 false 43 hb64 ?_
      refine Vg 54 4 8 true 38 hb63 (p1 43 (.const (.bool true)) (.tmp 53) (.bool true) hb64) ?_
      refine V 55 4 (p1 38 (.tmp 54) (.const (.bool false)) (.bool true) hb63) ?_
      refine V 2 4 (ma 55 (.bool true)) ?_
      have hs65 : HS w0 F0 w16 F2 [] := hs17.drop 0
      exact RWP.nil ⟨rfl, F2, hs65, (Mem.le.refl _), e19, (congrArg Value.bool (and_t hb62 (and_t hb63 (or_t hb64 (rfl)))))⟩
     ·refine Vg 44 0 13 false 43 hb64 (fa 25 1 1 1 1 b1 0 1 e20) ?_
      refine Vg 45 23 13 false 43 hb64 (ld 23 44 b1 1 false 1 (.slice a0_1 x0.Ties.length n0_1) (hs17.ownAt (k := 0) rfl)) ?_
      refine Vg 46 3 13 false 43 hb64 (ln 45 23 a0_1 x0.Ties.length n0_1 46 4 32) ?_
      refine Vg 47 4 13 false 43 hb64 (run_gtr (t := 3) (t' := 3) (x := (.tmp 46)) (y := (.const (vi 400))) (k := .i64) (a := (x0.Ties.length : Int)) (b := 400) rfl rfl) ?_
      refine Vg 48 4 13 false 43 hb64 (mv 47 (.bool (decide ((x0.Ties.length : Int) > 400)))) ?_
      refine RWP.split (decide ((x0.Ties.length : Int) > 400)) (fun hb66 => ?_) (fun hb66 => ?_)
      ·refine Vg 49 0 18 true 48 hb66 (fa 25 1 1 1 1 b1 0 1 e20) ?_
       refine Vg 50 23 18 true 48 hb66 (ld 23 49 b1 1 false 1 (.slice a0_1 x0.Ties.length n0_1) (hs17.ownAt (k := 0) rfl)) ?_
       refine Vg 51 3 18 true 48 hb66 (ln 50 23 a0_1 x0.Ties.length n0_1 46 4 32) ?_
       refine Vg 52 4 18 true 48 hb66 (run_leq (t := 3) (t' := 3) (x := (.tmp 51)) (y := (.const (vi 500))) (k := .i64) (a := (x0.Ties.length : Int)) (b := 500) rfl rfl) ?_
       refine Vg 53 4 13 false 43 hb64 (p1 48 (.tmp 52) (.const (.bool false)) (.bool (decide ((x0.Ties.length : Int) ≤ 500))) hb66) ?_
       refine Vg 54 4 8 true 38 hb63 (p0 43 (.const (.bool true)) (.tmp 53) (.bool (decide ((x0.Ties.length : Int) ≤ 500))) hb64) ?_
       refine V 55 4 (p1 38 (.tmp 54) (.const (.bool false)) (.bool (decide ((x0.Ties.length : Int) ≤ 500))) hb63) ?_
       refine V 2 4 (ma 55 (.bool (decide ((x0.Ties.length : Int) ≤ 500)))) ?_
       have hs67 : HS w0 F0 w16 F2 [] := hs17.drop 0
       exact RWP.nil ⟨rfl, F2, hs67, (Mem.le.refl _), e19, (congrArg Value.bool (and_t hb62 (and_t hb63 (or_f hb64 (and_t hb66 (rfl))))))⟩
      ·refine Sk [49, 50, 51, 52] 18 true 48 hb66 ?_
       refine Vg 53 4 13 false 43 hb64 (p0 48 (.tmp 52) (.const (.bool false)) (.bool false) hb66) ?_
       refine Vg 54 4 8 true 38 hb63 (p0 43 (.const (.bool true)) (.tmp 53) (.bool false) hb64) ?_
       refine V 55 4 (p1 38 (.tmp 54) (.const (.bool false)) (.bool false) hb63) ?_
       refine V 2 4 (ma 55 (.bool false)) ?_
       have hs68 : HS w0 F0 w16 F2 [] := hs17.drop 0
       exact RWP.nil ⟨rfl, F2, hs68, (Mem.le.refl _), e19, (congrArg Value.bool (and_t hb62 (and_t hb63 (or_f hb64 (and_f hb66 (rfl))))))⟩
    ·refine Sk [39, 40, 41, 42, 43] 8 true 38 hb63 ?_
     refine Su [44, 45, 46, 47, 48] 13 false 43 ?_
     refine Su [49, 50, 51, 52] 18 true 48 ?_
     refine Su [53] 13 false 43 ?_
     refine Sk [54] 8 true 38 hb63 ?_
     refine V 55 4 (p0 38 (.tmp 54) (.const (.bool false)) (.bool false) hb63) ?_
     refine V 2 4 (ma 55 (.bool false)) ?_
     have hs69 : HS w0 F0 w16 F2 [] := hs17.drop 0
     exact RWP.nil ⟨rfl, F2, hs69, (Mem.le.refl _), e19, (congrArg Value.bool (and_t hb62 (and_f hb63 (rfl))))⟩
   ·refine Sk [33, 34, 35, 36] 2 true 32 hb62 ?_
    refine V 37 4 (p0 32 (.tmp 36) (.const (.bool false)) (.bool false) hb62) ?_
    refine V 38 4 (mv 37 (.bool false)) ?_
    refine Sk [39, 40, 41, 42, 43] 8 true 38 rfl ?_
    refine Su [44, 45, 46, 47, 48] 13 false 43 ?_
    refine Su [49, 50, 51, 52] 18 true 48 ?_
    refine Su [53] 13 false 43 ?_
    refine Sk [54] 8 true 38 rfl ?_
    refine V 55 4 (p0 38 (.tmp 54) (.const (.bool false)) (.bool false) rfl) ?_
    refine V 2 4 (ma 55 (.bool false)) ?_
    have hs70 : HS w0 F0 w16 F2 [] := hs17.drop 0
    exact RWP.nil ⟨rfl, F2, hs70, (Mem.le.refl _), e19, (congrArg Value.bool (and_f hb62 (rfl)))⟩
  ·rintro f w57 ⟨F3, hs58, le59, e60, e61⟩
   refine thenQ_nrm ?_
   refine CWP.ret (by kernel_rfl) ?_
   have hfin := some_inj h56
   subst hfin
   exact ⟨e60, (.bool ((decide (s15.1 ≤ 40)) && ((decide ((x0.Tracks.length : Int) ≤ 100)) && ((decide ((x0.Ties.length : Int) ≤ 30)) || ((decide ((x0.Ties.length : Int) > 400)) && (decide ((x0.Ties.length : Int) ≤ 500))))))), res_of (l := [.tmp 2]) (by kernel_rfl) (vs := [(.bool ((decide (s15.1 ≤ 40)) && ((decide ((x0.Tracks.length : Int) ≤ 100)) && ((decide ((x0.Ties.length : Int) ≤ 30)) || ((decide ((x0.Ties.length : Int) > 400)) && (decide ((x0.Ties.length : Int) ≤ 500)))))))]) ⟨e61, trivial⟩, (.bool ((decide (s15.1 ≤ 40)) && ((decide ((x0.Tracks.length : Int) ≤ 100)) && ((decide ((x0.Ties.length : Int) ≤ 30)) || ((decide ((x0.Ties.length : Int) > 400)) && (decide ((x0.Ties.length : Int) ≤ 500))))))), F3, rfl, hs58.clear, rfl⟩
end Go.Proofs.Ythbcnabeabcmlaa
namespace Go.Proofs.Ythbcnabeabcmlaa
set_option maxRecDepth 1000000 in
theorem awake_ok (m : Nat) : law03_awake (m + 100) = some true := by kernel_rfl
theorem awake_at {N : Nat} (h : 100 ≤ N) : law03_awake N = some true := by
 obtain ⟨m, rfl⟩ : ∃ m, N = m + 100 := ⟨N - 100, by omega⟩
 exact awake_ok m
theorem few_some {N : Nat} {s : System} (h : FitS N s) : ∃ b, law03_few N s = some b := by
 unfold law03_few
 have hn := h.n.1
 obtain ⟨o, ho, hR⟩ := iter_ex (body := law03_few_L0 N s) s.Tracks.length (fun i q => q.2 = (i : Int)) (fun o => ∀ q, o ≠ .next q) (by
  rintro i ⟨a, b⟩ hi hb
  simp only at hb
  subst hb
  unfold law03_few_L0
  simp only
  by_cases hlt : i < s.Tracks.length
  ·simp only [lt_t hlt, cond_true, idx_nat hlt, Option.bind_some]
   cases decide ((s.Tracks[i].Clock.Jumps.length : Int) > 40) with
   | true => exact .inr ⟨_, rfl, (fun _ h => by cases h), fun _ h => by cases h⟩
   | false => exact .inl ⟨_, rfl, by simp only; rw [W64_succ (by omega)], hlt⟩
  ·have : i = s.Tracks.length := by omega
   subst this
   simp only [lt_f, cond_false]
   exact .inr ⟨_, rfl, (fun _ h => by cases h), fun _ h => by cases h⟩) s.Tracks.length N 0 (0, 0) (by omega) rfl h.n.2
 rw [ho]
 cases o with
 | next q => exact absurd rfl (hR q)
 | done q => exact ⟨_, rfl⟩
 | ret r => exact ⟨_, rfl⟩
end Go.Proofs.Ythbcnabeabcmlaa
namespace Go.Proofs.Ythbcnabeabcmlaa
abbrev NN : Nat := 9223372036854775808
theorem fitL {α : Type} {l : List α} {Q : Prop} (h : l.length < 9223372036854775808 ∧ Q) : Fit NN l.length := ⟨h.1, h.1⟩
theorem fitT {t : Track} (q : qTrack t) : FitT NN t := ⟨fitL q.1.2.2, fitL q.2⟩
theorem fitS {s : System} (q : qSystem s) : FitS NN s := ⟨fitL q.1, fun t ht => fitT (q.1.2 t ht), fitL q.2.1⟩
end Go.Proofs.Ythbcnabeabcmlaa
namespace Go.Proofs.Ythbcnabeabcmlaa
open Go.Proofs
def law03_ClocksTried_L0 (N : Nat) (x0 : System) (x1 : (List Tie)) (x2 : Int) (r4 : Bool) (j15 : (Bool)) (r38 : ((List Bool) × Int)) : (Int × List Tie) → Option (Flow Bool (Int × List Tie)) := fun s68 =>
 (bif (decide (s68.1 < (x1.length : Int))) then (((idx x1 s68.1).bind fun x116 => ((idx x1 s68.1).bind fun x130 => ((clocks_Must N ({ Tracks := x0.Tracks, Ties := s68.2, Window := x0.Window } : System) x116.A x130.B).bind fun r136 => some (r136.1, r136.2)))).bind fun j103 => ((clocks_Refusal N x0 x1 s68.1).bind fun r144 => (((idx x1 s68.1).bind fun x179 => ((apnd ([] : List Tie) s68.2).bind fun r198 => ((apnd r198 [x179]).bind fun r212 => some r212))).bind fun j163 => ((bif (j103.2 != 0) then some true else (bif j103.1 then ((idx r38.1 s68.1).bind fun x305 => (bif (!x305) then some true else ((idx r38.1 s68.1).bind fun x322 => some (!((r144.2 == 3) == x322))))) else ((idx r38.1 s68.1).bind fun x329 => some (!((r144.2 == 3) == x329))))).bind fun j284 => (bif j284 then some (.ret false) else ((idx r38.1 s68.1).bind fun x346 => (bif (!x346) then ((clocks_ValidLoop N ({ Tracks := x0.Tracks, Ties := j163, Window := x0.Window } : System) r144.1).bind fun r366 => (bif ((r144.2 != 0) || ((r366.2 != 0) || (!r366.1))) then some (.ret false) else some (.next ((W64 (s68.1 + 1)), s68.2)))) else ((clocks_Times N ({ Tracks := x0.Tracks, Ties := s68.2, Window := x0.Window } : System)).bind fun r396 => ((clocks_Times N ({ Tracks := x0.Tracks, Ties := j163, Window := x0.Window } : System)).bind fun r408 => ((bif (r396.2 != 0) then some true else (bif (r408.2 != 0) then some true else (bif j103.1 then ((ref03_SameSpans N r396.1 r408.1).bind fun r440 => some (!r440)) else some false))).bind fun j419 => (bif j419 then some (.ret false) else some (.next ((W64 (s68.1 + 1)), j163))))))))))))) else some (.done (s68.1, s68.2)))
def law03_ClocksTried (N : Nat) (x0 : System) (x1 : (List Tie)) (x2 : Int) : Option Bool :=
 ((law03_awake N ).bind fun r4 => (((law03_few N x0).bind fun r24 => (bif (!r24) then some true else some (decide ((x1.length : Int) > 12)))).bind fun j15 => (bif j15 then some r4 else ((clocks_Accept N x0 x1).bind fun r38 => (bif (r38.2 != 0) then some (r4 && ((r38.1.length : Int) == 0)) else (bif ((r38.1.length : Int) != (x1.length : Int)) then some false else ((iter (law03_ClocksTried_L0 N x0 x1 x2 r4 j15 r38) N (0, x0.Ties)).bind fun o => o.k (fun r => some r) (fun s80 => (bif ((decide (x2 < 0)) || (decide (x2 > (x1.length : Int)))) then some r4 else (((sub3 x1 0 x2 x2).bind fun r488 => ((clocks_Accept N x0 r488).bind fun r496 => some (r496.1, r496.2))).bind fun j479 => ((bif r4 then (bif (j479.2 == 0) then ((sub3 r38.1 0 x2 x2).bind fun r517 => ((ref03_SameBools N j479.1 r517).bind fun r525 => some r525)) else some false) else some false).bind fun j508 => some j508)))))))))))
set_option maxHeartbeats 4000000 in
set_option maxRecDepth 100000 in
theorem c_law03_ClocksTried (N : Nat) (w0 : World) (F0 : Mem) (hF : ∀ b o, F0 b = some o → w0.heap[b]? = some o) (x0 : System) (a0_0 : Option Addr) (n0_0 : Nat) (hb0_0 : LC x0.Tracks.length n0_0) (hs0_0 : SlA tTrack F0 a0_0 x0.Tracks) (a0_1 : Option Addr) (n0_1 : Nat) (hb0_1 : LC x0.Ties.length n0_1) (hs0_1 : SlA tTie F0 a0_1 x0.Ties) (x1 : (List Tie)) (a1_0 : Option Addr) (n1_0 : Nat) (hb1_0 : LC x1.length n1_0) (hs1_0 : SlA tTie F0 a1_0 x1) (x2 : Int) (r : Bool) (h : law03_ClocksTried N x0 x1 x2 = some r) :
  Calls Try.prog 10 ([(.agg (kSystem x0 a0_0 n0_0 a0_1 n0_1)), (.slice a1_0 x1.length n1_0), (vi x2)] : List Value).toArray w0 (FRet w0 F0 fun F' v => v = (.bool r)) := by
 have hs0 := HS.start hF
 refine calls_of (n := 194) (c := bodyOf Try.f10) Try.func10 (by kernel_rfl) (by kernel_rfl) (by kernel_rfl) ?_
 refine Sq (Rg [0, 1] ?_)
 refine Bx 3 0 0 25 (kSystem x0 a0_0 n0_0 a0_1 n0_1) hs0 (fun b1 w2 (hs3 : HS w0 F0 w2 F0 [(sb b1 (kSystem x0 a0_0 n0_0 a0_1 n0_1) 25)]) => ?_)
 refine V 6 4 (mc (.bool false) (.bool false)) ?_
 refine Nss (Rg [0, 1] ?_)
 obtain ⟨r4, hr5, h6⟩ := bind_some h
 refine Cl 25 4 15 #[] #[] co_law03_awake hs3 (c_law03_awake N w2 F0 hs3.pers  _ hr5) ?_
 intro v7 F1 w8 hs9 le10 hp11
 obtain rfl := hp11
 refine V 7 4 (ma 25 (.bool r4)) ?_
 refine Nss ?_
 refine Sq (Rg [0, 1, 2, 3, 4, 5, 6, 7] ?_)
 obtain ⟨j15, hj22, h23⟩ := bind_some h6
 refine RWP.cut (fun f w => ∃ (F2 : Mem), HS w0 F0 w F2 [(sb b1 (kSystem x0 a0_0 n0_0 a0_1 n0_1) 25)] ∧ Mem.le F1 F2 ∧ f.d = [] ∧ f 1 = (.slice a1_0 x1.length n1_0) ∧ f 2 = (vi x2) ∧ f 3 = (.pointer (some ⟨b1, 0, none⟩)) ∧ f 7 = (.bool r4) ∧ f 33 = (.bool j15)) ?_ ?_
 ·refine V 26 25 (ld 25 3 b1 0 true 3 (.agg (kSystem x0 a0_0 n0_0 a0_1 n0_1)) (hs9.ownAt (k := 0) rfl)) ?_
  obtain ⟨r24, hr25, h26⟩ := bind_some hj22
  refine Cl 27 4 16 #[(.tmp 26)] #[25] co_law03_few hs9 (c_law03_few N w8 F1 hs9.pers (x0) a0_0 n0_0 hb0_0 (SlA.mono hs0_0 le10) a0_1 n0_1 hb0_1 (SlA.mono hs0_1 le10) _ hr25) ?_
  intro v27 F3 w28 hs29 le30 hp31
  obtain rfl := hp31
  refine V 28 4 (run_not (t := 4) (x := (.tmp 27)) (a := r24) rfl) ?_
  refine V 29 4 (mv 28 (.bool (!r24))) ?_
  refine RWP.split (!r24) (fun hb32 => ?_) (fun hb32 => ?_)
  ·have h33 := cond_t h26 hb32
   refine Sk [30, 31, 32] 3 false 29 hb32 ?_
   refine V 33 4 (p1 29 (.const (.bool true)) (.tmp 32) (.bool true) hb32) ?_
   obtain rfl := some_inj h33
   exact RWP.nil ⟨rfl, F3, hs29, le30, rfl, rfl, rfl, rfl, rfl, rfl⟩
  ·have h34 := cond_f h26 hb32
   refine Vg 30 23 3 false 29 hb32 (mv 1 (.slice a1_0 x1.length n1_0)) ?_
   refine Vg 31 3 3 false 29 hb32 (ln 30 23 a1_0 x1.length n1_0 46 4 32) ?_
   refine Vg 32 4 3 false 29 hb32 (run_gtr (t := 3) (t' := 3) (x := (.tmp 31)) (y := (.const (vi 12))) (k := .i64) (a := (x1.length : Int)) (b := 12) rfl rfl) ?_
   refine V 33 4 (p0 29 (.const (.bool true)) (.tmp 32) (.bool (decide ((x1.length : Int) > 12))) hb32) ?_
   obtain rfl := some_inj h34
   exact RWP.nil ⟨rfl, F3, hs29, le30, rfl, rfl, rfl, rfl, rfl, rfl⟩
 ·rintro f w12 ⟨F2, hs13, le14, e16, e17, e18, e19, e20, e21⟩
  refine thenQ_nrm ?_
  refine CWP.cond (t := j15) (by kernel_rfl) e21 (fun hb35 => ?_) (fun hb35 => ?_)
  ·have h36 := cond_t h23 hb35
   refine Sq (Rg [0, 1] ?_)
   refine V 34 4 (mv 7 (.bool r4) e20) ?_
   refine V 6 4 (ma 34 (.bool r4)) ?_
   refine Nt ?_
   refine CWP.ret (by kernel_rfl) ?_
   refine thenQ_ret ?_
   have hfin := some_inj h36
   subst hfin
   exact ⟨e16, (.bool r4), res_of (l := [.tmp 6]) (by kernel_rfl) (vs := [(.bool r4)]) ⟨rfl, trivial⟩, (.bool r4), F2, rfl, hs13.clear, rfl⟩
  ·have h37 := cond_f h23 hb35
   refine Sc ?_
   refine thenQ_nrm ?_
   refine Sq (Rg [0, 1, 2, 3, 4, 5, 6, 7] ?_)
   refine V 36 25 (ld 25 3 b1 0 true 3 (.agg (kSystem x0 a0_0 n0_0 a0_1 n0_1)) (hs13.ownAt (k := 0) rfl) e19) ?_
   refine V 37 23 (mv 1 (.slice a1_0 x1.length n1_0) e17) ?_
   obtain ⟨r38, hr39, h40⟩ := bind_some h37
   refine Cl 38 65 42 #[(.tmp 36), (.tmp 37)] #[25, 23] co_clocks_Accept hs13 (c_clocks_Accept N w12 F2 hs13.pers (x0) a0_0 n0_0 hb0_0 (SlA.mono hs0_0 (le10.trans le14)) a0_1 n0_1 hb0_1 (SlA.mono hs0_1 (le10.trans le14)) (x1) a1_0 n1_0 hb1_0 (SlA.mono hs1_0 (le10.trans le14)) _ hr39) ?_
   intro v41 F4 w42 hs43 le44 hp45
   obtain ⟨ar38_0_0, nr38_0_0, rfl, hbr38_0_0, hsr38_0_0⟩ := hp45
   refine V 35 65 (mv 38 (.tuple #[(.slice ar38_0_0 r38.1.length nr38_0_0), (vi r38.2)])) ?_
   refine V 39 64 (ex 35 0 (.slice ar38_0_0 r38.1.length nr38_0_0) (vs := #[(.slice ar38_0_0 r38.1.length nr38_0_0), (vi r38.2)])) ?_
   refine V 40 30 (ex 35 1 (vi r38.2) (vs := #[(.slice ar38_0_0 r38.1.length nr38_0_0), (vi r38.2)])) ?_
   refine V 8 64 (ma 39 (.slice ar38_0_0 r38.1.length nr38_0_0)) ?_
   refine V 9 30 (ma 40 (vi r38.2)) ?_
   refine Nss ?_
   refine Sq (Rg [0, 1] ?_)
   refine V 41 30 (mv 9 (vi r38.2)) ?_
   refine V 42 4 (run_neq (t := 30) (t' := 30) (x := (.tmp 41)) (y := (.const (vi 0))) (k := .i64) (a := r38.2) (b := 0) rfl rfl) ?_
   refine Nt ?_
   refine CWP.cond (t := (r38.2 != 0)) (by kernel_rfl) rfl (fun hb46 => ?_) (fun hb46 => ?_)
   ·have h47 := cond_t h40 hb46
    refine Sq (Rg [0, 1, 2, 3, 4, 5, 6] ?_)
    refine RWP.cut (fun f w => ∃ (F5 : Mem), HS w0 F0 w F5 [] ∧ Mem.le F4 F5 ∧ f.d = [] ∧ f 6 = (.bool (r4 && ((r38.1.length : Int) == 0)))) ?_ ?_
    ·refine V 43 4 (mv 7 (.bool r4) e20) ?_
     refine V 44 4 (mv 43 (.bool r4)) ?_
     refine RWP.split r4 (fun hb53 => ?_) (fun hb53 => ?_)
     ·refine Vg 45 64 1 true 44 hb53 (mv 8 (.slice ar38_0_0 r38.1.length nr38_0_0)) ?_
      refine Vg 46 3 1 true 44 hb53 (ln 45 64 ar38_0_0 r38.1.length nr38_0_0 4 1 1) ?_
      refine Vg 47 4 1 true 44 hb53 (run_eql (t := 3) (t' := 3) (x := (.tmp 46)) (y := (.const (vi 0))) (k := .i64) (a := (r38.1.length : Int)) (b := 0) rfl rfl) ?_
      refine V 48 4 (p1 44 (.tmp 47) (.const (.bool false)) (.bool ((r38.1.length : Int) == 0)) hb53) ?_
      refine V 6 4 (ma 48 (.bool ((r38.1.length : Int) == 0))) ?_
      have hs54 : HS w0 F0 w42 F4 [] := hs43.drop 0
      exact RWP.nil ⟨rfl, F4, hs54, (Mem.le.refl _), e16, (congrArg Value.bool (and_t hb53 (rfl)))⟩
     ·refine Sk [45, 46, 47] 1 true 44 hb53 ?_
      refine V 48 4 (p0 44 (.tmp 47) (.const (.bool false)) (.bool false) hb53) ?_
      refine V 6 4 (ma 48 (.bool false)) ?_
      have hs55 : HS w0 F0 w42 F4 [] := hs43.drop 0
      exact RWP.nil ⟨rfl, F4, hs55, (Mem.le.refl _), e16, (congrArg Value.bool (and_f hb53 (rfl)))⟩
    ·rintro f w48 ⟨F5, hs49, le50, e51, e52⟩
     refine thenQ_nrm ?_
     refine CWP.ret (by kernel_rfl) ?_
     refine thenQ_ret ?_
     have hfin := some_inj h47
     subst hfin
     exact ⟨e51, (.bool (r4 && ((r38.1.length : Int) == 0))), res_of (l := [.tmp 6]) (by kernel_rfl) (vs := [(.bool (r4 && ((r38.1.length : Int) == 0)))]) ⟨e52, trivial⟩, (.bool (r4 && ((r38.1.length : Int) == 0))), F5, rfl, hs49.clear, rfl⟩
   ·have h56 := cond_f h40 hb46
    refine Sc ?_
    refine thenQ_nrm ?_
    refine Sq ?_
    refine Sq (Rg [0, 1, 2, 3, 4] ?_)
    refine V 49 64 (mv 8 (.slice ar38_0_0 r38.1.length nr38_0_0)) ?_
    refine V 50 3 (ln 49 64 ar38_0_0 r38.1.length nr38_0_0 4 1 1) ?_
    refine V 51 23 (mv 1 (.slice a1_0 x1.length n1_0) e17) ?_
    refine V 52 3 (ln 51 23 a1_0 x1.length n1_0 46 4 32) ?_
    refine V 53 4 (run_neq (t := 3) (t' := 3) (x := (.tmp 50)) (y := (.tmp 52)) (k := .i64) (a := (r38.1.length : Int)) (b := (x1.length : Int)) rfl rfl) ?_
    refine Nt ?_
    refine CWP.cond (t := ((r38.1.length : Int) != (x1.length : Int))) (by kernel_rfl) rfl (fun hb57 => ?_) (fun hb57 => ?_)
    ·have h58 := cond_t h56 hb57
     refine Sq (Rg [0] ?_)
     refine V 6 4 (mc (.bool false) (.bool false)) ?_
     refine Nt ?_
     refine CWP.ret (by kernel_rfl) ?_
     refine thenQ_ret ?_
     have hfin := some_inj h58
     subst hfin
     exact ⟨e16, (.bool false), res_of (l := [.tmp 6]) (by kernel_rfl) (vs := [(.bool false)]) ⟨rfl, trivial⟩, (.bool false), F4, rfl, hs43.clear, rfl⟩
    ·have h59 := cond_f h56 hb57
     refine Sc ?_
     refine thenQ_nrm ?_
     refine Sq (Rg [0, 1, 2] ?_)
     refine V 54 25 (ld 25 3 b1 0 true 3 (.agg (kSystem x0 a0_0 n0_0 a0_1 n0_1)) (hs43.ownAt (k := 0) rfl) e19) ?_
     refine Al 10 0 25 #[(.slice none ([] : List Track).length 0), (.slice none ([] : List Tie).length 0), (vi 0)] hs43 (fun b60 w61 (hs62 : HS w0 F0 w61 F4 [(sb b60 #[(.slice none ([] : List Track).length 0), (.slice none ([] : List Tie).length 0), (vi 0)] 25), (sb b1 (kSystem x0 a0_0 n0_0 a0_1 n0_1) 25)]) => ?_)
     refine RWP.store (ty := 0) (g := none) (by kernel_rfl) rfl (x := (.tmp 10)) (y := (.tmp 54)) (t := 25) (gg := true) (s := 3) (v := (.agg (kSystem x0 a0_0 n0_0 a0_1 n0_1))) (b := b60) (o := 0) (C := #[(.slice none ([] : List Track).length 0), (.slice none ([] : List Tie).length 0), (vi 0)]) rfl rfl (by kernel_rfl) hs62 (k := 0) rfl rfl rfl rfl (C' := (kSystem x0 a0_0 n0_0 a0_1 n0_1)) rfl (fun w63 (hs64 : HS w0 F0 w63 F4 [(sb b60 (kSystem x0 a0_0 n0_0 a0_1 n0_1) 25), (sb b1 (kSystem x0 a0_0 n0_0 a0_1 n0_1) 25)]) => ?_)
     refine Nss ?_
     refine Sq (Rg [0] ?_)
     refine V 11 3 (mc (vi 0) (vi 0)) ?_
     refine Nt ?_
     obtain ⟨o65, ho66, h67⟩ := bind_some h59
     refine CWP.cut (fun f w => ∃ (s80 : (Int × List Tie)) (F7 : Mem), o65 = .done s80 ∧ HS w0 F0 w F7 [(sb b1 (kSystem x0 a0_0 n0_0 a0_1 n0_1) 25)] ∧ Mem.le F4 F7 ∧ f.d = [] ∧ f 1 = (.slice a1_0 x1.length n1_0) ∧ f 2 = (vi x2) ∧ f 3 = (.pointer (some ⟨b1, 0, none⟩)) ∧ f 7 = (.bool r4) ∧ f 8 = (.slice ar38_0_0 r38.1.length nr38_0_0)) ?_ ?_
     ·refine Bk ?_
      refine CWP.loop (by kernel_rfl) (fun m f w => ∃ (s68 : (Int × List Tie)) (F6 : Mem) (as68_1 : Option Addr) (ns68_1 : Nat), iter (law03_ClocksTried_L0 N x0 x1 x2 r4 j15 r38) m s68 = some o65 ∧ HS w0 F0 w F6 [(sb b60 #[(.slice a0_0 x0.Tracks.length n0_0), (.slice as68_1 s68.2.length ns68_1), (vi x0.Window)] 25), (sb b1 (kSystem x0 a0_0 n0_0 a0_1 n0_1) 25)] ∧ Mem.le F4 F6 ∧ f.d = [] ∧ f 1 = (.slice a1_0 x1.length n1_0) ∧ f 2 = (vi x2) ∧ f 3 = (.pointer (some ⟨b1, 0, none⟩)) ∧ f 7 = (.bool r4) ∧ f 8 = (.slice ar38_0_0 r38.1.length nr38_0_0) ∧ f 10 = (.pointer (some ⟨b60, 0, none⟩)) ∧ f 11 = (vi s68.1) ∧ LC s68.2.length ns68_1 ∧ SlA tTie F6 as68_1 s68.2) N ⟨(0, x0.Ties), F4, a0_1, n0_1, ho66, hs64, (Mem.le.refl _), e16, e17, e18, e19, e20, rfl, rfl, rfl, hb0_1, (SlA.mono hs0_1 ((le10.trans le14).trans le44))⟩ ?_
      rintro m90 f w69 ⟨s68, F6, as68_1, ns68_1, hit91, hs70, le71, e72, e73, e74, e75, e76, e77, e78, e79, hbs68_1, hss68_1⟩
      obtain ⟨m92, fl93, rfl, hb94, hnx95⟩ := iter_step hit91
      refine Sq ?_
      refine Sq (Rg [0, 1, 2, 3] ?_)
      refine V 55 3 (mv 11 (vi s68.1) e79) ?_
      refine V 56 23 (mv 1 (.slice a1_0 x1.length n1_0) e73) ?_
      refine V 57 3 (ln 56 23 a1_0 x1.length n1_0 46 4 32) ?_
      refine V 58 4 (run_lss (t := 3) (t' := 3) (x := (.tmp 55)) (y := (.tmp 57)) (k := .i64) (a := s68.1) (b := (x1.length : Int)) rfl rfl) ?_
      refine Nt ?_
      refine CWP.cond (t := (decide (s68.1 < (x1.length : Int)))) (by kernel_rfl) rfl (fun hb96 => ?_) (fun hb96 => ?_)
      ·have h97 := cond_t hb94 hb96
       refine Sc ?_
       refine thenQ_nrm ?_
       refine Sq ?_
       refine Bk ?_
       refine Sq ?_
       obtain ⟨j103, hj114, h115⟩ := bind_some h97
       refine CWP.regionD (by kernel_rfl) (by kernel_rfl) (by kernel_rfl) (by kernel_rfl) (z := 17) (F := F6) (Lc := [(sb b60 #[(.slice a0_0 x0.Tracks.length n0_0), (.slice as68_1 s68.2.length ns68_1), (vi x0.Window)] 25), (sb b1 (kSystem x0 a0_0 n0_0 a0_1 n0_1) 25)]) (Lz := []) (l := [false, false, false, false, false, false, false, false, false, false, false, false, false, false, false, false, false]) (fuel := 17) (by kernel_rfl) (by kernel_rfl) hs70 (by simp) (by simp) (fun f w => ∃ (F8 : Mem), HS w0 F0 w F8 [(sb b60 #[(.slice a0_0 x0.Tracks.length n0_0), (.slice as68_1 s68.2.length ns68_1), (vi x0.Window)] 25), (sb b1 (kSystem x0 a0_0 n0_0 a0_1 n0_1) 25)] ∧ Mem.le F6 F8 ∧ f.d = [] ∧ f 1 = (.slice a1_0 x1.length n1_0) ∧ f 2 = (vi x2) ∧ f 3 = (.pointer (some ⟨b1, 0, none⟩)) ∧ f 7 = (.bool r4) ∧ f 8 = (.slice ar38_0_0 r38.1.length nr38_0_0) ∧ f 10 = (.pointer (some ⟨b60, 0, none⟩)) ∧ f 11 = (vi s68.1) ∧ f 12 = (.bool j103.1) ∧ f 13 = (vi j103.2)) (fun wd98 hw99 => ?_) ?_
       ·refine Dt 0 62 25 _ (fun _ hq => ld 25 10 b60 0 true 3 (.agg #[(.slice a0_0 x0.Tracks.length n0_0), (.slice as68_1 s68.2.length ns68_1), (vi x0.Window)]) (hq.1.2 0 _ _ rfl) e78) ?_
        refine Dt 1 63 23 _ (fun _ hq => mv 1 (.slice a1_0 x1.length n1_0) e73) ?_
        refine Dt 2 64 3 _ (fun _ hq => mv 11 (vi s68.1) e79) ?_
        obtain ⟨x116, hx117, h119⟩ := bind_some hj114
        obtain ⟨hi118, hx117'⟩ := idx_spec hx117
        obtain ⟨b120, o121, C122, E123, fz124, rfl, hF126, hE127⟩ := SlA.open (SlA.mono hs1_0 (((le10.trans le14).trans le44).trans le71)) hx117'
        have hc129 := hE127 _ _ hx117'
        refine Dt 3 65 0 (.pointer (some ⟨b120, (o121 + (s68.1 : Int).toNat * 4), none⟩)) (fun _ hq => ix 23 63 64 b120 o121 46 4 32 hi118) ?_
        refine Dt 4 66 0 (.pointer (some ⟨b120, (o121 + (s68.1 : Int).toNat * 4), none⟩)) (fun _ hq => fa 46 65 0 0 2 b120 (o121 + (s68.1 : Int).toNat * 4) (o121 + (s68.1 : Int).toNat * 4)) ?_
        refine Dt 5 67 27 _ (fun _ hq => lx 27 66 0 4 true 2 (.agg (kRef x116.A)) (hq.1.1 _ _ hF126) hc129) ?_
        refine Dt 6 68 23 _ (fun _ hq => mv 1 (.slice (some ⟨b120, o121, none⟩) x1.length n1_0) e73) ?_
        refine Dt 7 69 3 _ (fun _ hq => mv 11 (vi s68.1) e79) ?_
        obtain ⟨x130, hx131, h133⟩ := bind_some h119
        obtain ⟨hi132, hx131'⟩ := idx_spec hx131
        have hc135 := hE127 _ _ hx131'
        refine Dt 8 70 0 (.pointer (some ⟨b120, (o121 + (s68.1 : Int).toNat * 4), none⟩)) (fun _ hq => ix 23 68 69 b120 o121 46 4 32 hi132) ?_
        refine Dt 9 71 0 (.pointer (some ⟨b120, ((o121 + (s68.1 : Int).toNat * 4) + 2), none⟩)) (fun _ hq => fa 46 70 1 2 2 b120 (o121 + (s68.1 : Int).toNat * 4) ((o121 + (s68.1 : Int).toNat * 4) + 2)) ?_
        refine Dt 10 72 27 _ (fun _ hq => lx 27 71 2 4 true 2 (.agg (kRef x130.B)) (hq.1.1 _ _ hF126) hc135) ?_
        refine DWP.one (i := 11) (by kernel_rfl) ?_
        obtain ⟨r136, hr137, h138⟩ := bind_some h133
        refine DStep.call (l' := [true, true, true, true, true, true, true, true, true, true, true, true, false, false, false, false, false]) (zd := true) (by kernel_rfl) (by kernel_rfl) (by kernel_rfl) (dst := (some 73)) (ty := 43) (g := none) (by kernel_rfl) rfl (f0 := (.func 22)) (aos := #[(.tmp 62), (.tmp 67), (.tmp 72)]) (ats := #[25, 27, 27]) (fid := 22) (first := #[]) (cap := #[]) (args := [(.agg #[(.slice a0_0 x0.Tracks.length n0_0), (.slice as68_1 s68.2.length ns68_1), (vi x0.Window)]), (.agg (kRef x116.A)), (.agg (kRef x130.B))]) rfl co_clocks_Must (rfl) hw99 (c_clocks_Must N wd98 F6 hw99.pers (({ Tracks := x0.Tracks, Ties := s68.2, Window := x0.Window } : System)) a0_0 n0_0 hb0_0 (SlA.mono hs0_0 (((le10.trans le14).trans le44).trans le71)) as68_1 ns68_1 hbs68_1 hss68_1 (x116.A) (x130.B) _ hr137) ?_
        intro v139 F9 w140 hs141 le142 hp143
        obtain rfl := hp143
        refine Dt 12 61 43 _ (fun _ hq => mv 73 (.tuple #[(.bool r136.1), (vi r136.2)])) ?_
        refine Dt 13 74 4 _ (fun _ hq => ex 61 0 (.bool r136.1) (vs := #[(.bool r136.1), (vi r136.2)])) ?_
        refine Dt 14 75 30 _ (fun _ hq => ex 61 1 (vi r136.2) (vs := #[(.bool r136.1), (vi r136.2)])) ?_
        refine Dt 15 12 4 _ (fun _ hq => ma 74 (.bool r136.1)) ?_
        refine Dt 16 13 30 _ (fun _ hq => ma 75 (vi r136.2)) ?_
        obtain rfl := some_inj h138
        exact DWP.done (by kernel_rfl) ⟨F9, hs141, le142, e72, e73, e74, e75, e76, e77, e78, e79, rfl, rfl⟩
       ·rintro f w100 ⟨F8, hs101, le102, e104, e105, e106, e107, e108, e109, e110, e111, e112, e113⟩
        refine thenQ_nrm ?_
        refine Sq (Rg [0, 1, 2, 3, 4, 5, 6, 7, 8] ?_)
        refine V 77 25 (ld 25 3 b1 0 true 3 (.agg (kSystem x0 a0_0 n0_0 a0_1 n0_1)) (hs101.ownAt (k := 1) rfl) e107) ?_
        refine V 78 23 (mv 1 (.slice a1_0 x1.length n1_0) e105) ?_
        refine V 79 3 (mv 11 (vi s68.1) e111) ?_
        obtain ⟨r144, hr145, h146⟩ := bind_some h115
        refine Cl 80 58 44 #[(.tmp 77), (.tmp 78), (.tmp 79)] #[25, 23, 3] co_clocks_Refusal hs101 (c_clocks_Refusal N w100 F8 hs101.pers (x0) a0_0 n0_0 hb0_0 (SlA.mono hs0_0 ((((le10.trans le14).trans le44).trans le71).trans le102)) a0_1 n0_1 hb0_1 (SlA.mono hs0_1 ((((le10.trans le14).trans le44).trans le71).trans le102)) (x1) a1_0 n1_0 hb1_0 (SlA.mono hs1_0 ((((le10.trans le14).trans le44).trans le71).trans le102)) (s68.1) _ hr145) ?_
        intro v147 F10 w148 hs149 le150 hp151
        obtain ⟨ar144_0_0, nr144_0_0, rfl, hbr144_0_0, hsr144_0_0⟩ := hp151
        refine V 76 58 (mv 80 (.tuple #[(.slice ar144_0_0 r144.1.length nr144_0_0), (vi r144.2)])) ?_
        refine V 81 57 (ex 76 0 (.slice ar144_0_0 r144.1.length nr144_0_0) (vs := #[(.slice ar144_0_0 r144.1.length nr144_0_0), (vi r144.2)])) ?_
        refine V 82 30 (ex 76 1 (vi r144.2) (vs := #[(.slice ar144_0_0 r144.1.length nr144_0_0), (vi r144.2)])) ?_
        refine V 14 57 (ma 81 (.slice ar144_0_0 r144.1.length nr144_0_0)) ?_
        refine V 15 30 (ma 82 (vi r144.2)) ?_
        refine Nss (Rg [0, 1, 2] ?_)
        refine V 83 25 (ld 25 10 b60 0 true 3 (.agg #[(.slice a0_0 x0.Tracks.length n0_0), (.slice as68_1 s68.2.length ns68_1), (vi x0.Window)]) (hs149.ownAt (k := 0) rfl) e110) ?_
        refine Al 16 0 25 #[(.slice none ([] : List Track).length 0), (.slice none ([] : List Tie).length 0), (vi 0)] hs149 (fun b152 w153 (hs154 : HS w0 F0 w153 F10 [(sb b152 #[(.slice none ([] : List Track).length 0), (.slice none ([] : List Tie).length 0), (vi 0)] 25), (sb b60 #[(.slice a0_0 x0.Tracks.length n0_0), (.slice as68_1 s68.2.length ns68_1), (vi x0.Window)] 25), (sb b1 (kSystem x0 a0_0 n0_0 a0_1 n0_1) 25)]) => ?_)
        refine RWP.store (ty := 0) (g := none) (by kernel_rfl) rfl (x := (.tmp 16)) (y := (.tmp 83)) (t := 25) (gg := true) (s := 3) (v := (.agg #[(.slice a0_0 x0.Tracks.length n0_0), (.slice as68_1 s68.2.length ns68_1), (vi x0.Window)])) (b := b152) (o := 0) (C := #[(.slice none ([] : List Track).length 0), (.slice none ([] : List Tie).length 0), (vi 0)]) rfl rfl (by kernel_rfl) hs154 (k := 0) rfl rfl rfl rfl (C' := #[(.slice a0_0 x0.Tracks.length n0_0), (.slice as68_1 s68.2.length ns68_1), (vi x0.Window)]) rfl (fun w155 (hs156 : HS w0 F0 w155 F10 [(sb b152 #[(.slice a0_0 x0.Tracks.length n0_0), (.slice as68_1 s68.2.length ns68_1), (vi x0.Window)] 25), (sb b60 #[(.slice a0_0 x0.Tracks.length n0_0), (.slice as68_1 s68.2.length ns68_1), (vi x0.Window)] 25), (sb b1 (kSystem x0 a0_0 n0_0 a0_1 n0_1) 25)]) => ?_)
        refine Nss ?_
        obtain ⟨j163, hj177, h178⟩ := bind_some h146
        refine CWP.regionD (by kernel_rfl) (by kernel_rfl) (by kernel_rfl) (by kernel_rfl) (z := 11) (F := F10) (Lc := [(sb b60 #[(.slice a0_0 x0.Tracks.length n0_0), (.slice as68_1 s68.2.length ns68_1), (vi x0.Window)] 25), (sb b1 (kSystem x0 a0_0 n0_0 a0_1 n0_1) 25)]) (Lz := [(sb b152 #[(.slice a0_0 x0.Tracks.length n0_0), (.slice as68_1 s68.2.length ns68_1), (vi x0.Window)] 25)]) (l := [false, false, false, false, false, false, false, false, false, false, false, false]) (fuel := 12) (by kernel_rfl) (by kernel_rfl) hs156 (by simp) (by simp) (fun f w => ∃ (F11 : Mem) (aj163_0 : Option Addr) (nj163_0 : Nat) (ej163_0 : Option Nat × Obj), HS w0 F0 w F11 [ej163_0, (sb b152 #[(.slice a0_0 x0.Tracks.length n0_0), (.slice aj163_0 j163.length nj163_0), (vi x0.Window)] 25), (sb b60 #[(.slice a0_0 x0.Tracks.length n0_0), (.slice as68_1 s68.2.length ns68_1), (vi x0.Window)] 25), (sb b1 (kSystem x0 a0_0 n0_0 a0_1 n0_1) 25)] ∧ Mem.le F10 F11 ∧ f.d = [] ∧ f 1 = (.slice a1_0 x1.length n1_0) ∧ f 2 = (vi x2) ∧ f 3 = (.pointer (some ⟨b1, 0, none⟩)) ∧ f 7 = (.bool r4) ∧ f 8 = (.slice ar38_0_0 r38.1.length nr38_0_0) ∧ f 10 = (.pointer (some ⟨b60, 0, none⟩)) ∧ f 11 = (vi s68.1) ∧ f 12 = (.bool j103.1) ∧ f 13 = (vi j103.2) ∧ f 14 = (.slice ar144_0_0 r144.1.length nr144_0_0) ∧ f 15 = (vi r144.2) ∧ f 16 = (.pointer (some ⟨b152, 0, none⟩)) ∧ RowR tTie 46 F11 aj163_0 nj163_0 j163 ej163_0) (fun wd157 hw158 => ?_) ?_
        ·refine Df 1 85 0 (.pointer (some ⟨b60, 1, none⟩)) (fun _ hq => fa 25 10 1 1 1 b60 0 1 e110) ?_
         refine Df 2 86 23 _ (fun _ hq => ld 23 85 b60 1 false 1 (.slice as68_1 s68.2.length ns68_1) (hq.1.2 0 _ _ rfl)) ?_
         refine Df 4 88 23 _ (fun _ hq => mv 1 (.slice a1_0 x1.length n1_0) e105) ?_
         refine Df 5 89 3 _ (fun _ hq => mv 11 (vi s68.1) e111) ?_
         obtain ⟨x179, hx180, h182⟩ := bind_some hj177
         obtain ⟨hi181, hx180'⟩ := idx_spec hx180
         obtain ⟨b183, o184, C185, E186, fz187, rfl, hF189, hE190⟩ := SlA.open (SlA.mono hs1_0 (((((le10.trans le14).trans le44).trans le71).trans le102).trans le150)) hx180'
         have hc192 := hE190 _ _ hx180'
         refine Df 6 90 0 (.pointer (some ⟨b183, (o184 + (s68.1 : Int).toNat * 4), none⟩)) (fun _ hq => ix 23 88 89 b183 o184 46 4 32 hi181) ?_
         refine Df 7 91 46 _ (fun _ hq => lx 46 90 0 4 true 4 (.agg (kTie x179)) (hq.1.1 _ _ hF189) hc192) ?_
         refine DWP.two (i := 0) (j := 8) (by kernel_rfl) ?_ ?_
         ·refine DStep.buildSlice (l' := [true, true, true, false, true, true, true, true, false, false, false, false]) (zd := false) (by kernel_rfl) (by kernel_rfl) (dst := (some 84)) (ty := 23) (g := none) (by kernel_rfl) rfl (t := 23) (len := 0) (parts := #[]) (vs := []) (rfl) (E := 46) (cs := []) (by kernel_rfl) hw158 (Mem.le.refl _) (by simp) (fun _ => by simp) (fun b193 w194 (hs195 : HS w0 F0 w194 F10 [(some b193, .cells ([] : List Value).toArray 46 (0, 0)), (sb b152 #[(.slice a0_0 x0.Tracks.length n0_0), (.slice as68_1 s68.2.length ns68_1), (vi x0.Window)] 25), (sb b60 #[(.slice a0_0 x0.Tracks.length n0_0), (.slice as68_1 s68.2.length ns68_1), (vi x0.Window)] 25), (sb b1 (kSystem x0 a0_0 n0_0 a0_1 n0_1) 25)]) => ?_)
          have hr197 : RowR tTie 46 F10 (some ⟨b193, 0, none⟩) 0 ([] : List Tie) (some b193, .cells ([] : List Value).toArray 46 (0, 0)) := RowR.lit rfl (by simp)
          refine DWP.two (i := 3) (j := 8) (by kernel_rfl) ?_ ?_
          ·obtain ⟨r198, hap199, h200⟩ := bind_some h182
           refine DStep.append (l' := [true, true, true, true, true, true, true, true, false, false, false, false]) (zd := false) (by kernel_rfl) (by kernel_rfl) (dst := (some 87)) (ty := 23) (g := none) (by kernel_rfl) rfl (x := (.tmp 84)) (y := (.tmp 86)) (t := 23) (t2 := 23) (by_ := 32) (z := (.agg #[(vi 0), (vi 0), (vi 0), (vi 0)])) (a2 := as68_1) (c2 := ns68_1) (m := s68.2) (T := tTie) (E := 46) (a := (some ⟨b193, 0, none⟩)) (cap := 0) (l := ([] : List Tie)) rfl rfl (by kernel_rfl) (by decide) (by kernel_rfl) (by kernel_rfl) rfl oTie hs195 (k := 0) rfl hr197 (SlA.rd hs195 (SlA.mono hss68_1 (le102.trans le150))) (r := r198) hap199 (Mem.le.refl _) (fun _ => by simp) (fun _ _ => by simp) (fun a201 n202 e203 w204 (hs205 : HS w0 F0 w204 F10 [e203, (sb b152 #[(.slice a0_0 x0.Tracks.length n0_0), (.slice as68_1 s68.2.length ns68_1), (vi x0.Window)] 25), (sb b60 #[(.slice a0_0 x0.Tracks.length n0_0), (.slice as68_1 s68.2.length ns68_1), (vi x0.Window)] 25), (sb b1 (kSystem x0 a0_0 n0_0 a0_1 n0_1) 25)]) hr206 => ?_)
           refine DWP.one (i := 8) (by kernel_rfl) ?_
           refine DStep.buildSlice (l' := [true, true, true, true, true, true, true, true, true, false, false, false]) (zd := false) (by kernel_rfl) (by kernel_rfl) (dst := (some 92)) (ty := 23) (g := none) (by kernel_rfl) rfl (t := 23) (len := 1) (parts := #[(0, (.tmp 91))]) (vs := [(0, (.agg (kTie x179)))]) (rfl) (E := 46) (cs := [(vi x179.A.Log), (vi x179.A.Line), (vi x179.B.Log), (vi x179.B.Line)]) (by kernel_rfl) hs205 (Mem.le.refl _) (by simp) (fun _ => by simp) (fun b207 w208 (hs209 : HS w0 F0 w208 F10 [(some b207, .cells ([(vi x179.A.Log), (vi x179.A.Line), (vi x179.B.Log), (vi x179.B.Line)] : List Value).toArray 46 (0, 0)), e203, (sb b152 #[(.slice a0_0 x0.Tracks.length n0_0), (.slice as68_1 s68.2.length ns68_1), (vi x0.Window)] 25), (sb b60 #[(.slice a0_0 x0.Tracks.length n0_0), (.slice as68_1 s68.2.length ns68_1), (vi x0.Window)] 25), (sb b1 (kSystem x0 a0_0 n0_0 a0_1 n0_1) 25)]) => ?_)
           have hr211 : RowR tTie 46 F10 (some ⟨b207, 0, none⟩) 1 [x179] (some b207, .cells ([(vi x179.A.Log), (vi x179.A.Line), (vi x179.B.Log), (vi x179.B.Line)] : List Value).toArray 46 (0, 0)) := RowR.lit ⟨rfl, rfl⟩ (by simp)
           refine DWP.one (i := 9) (by kernel_rfl) ?_
           obtain ⟨r212, hap213, h214⟩ := bind_some h200
           refine DStep.append (l' := [true, true, true, true, true, true, true, true, true, true, false, false]) (zd := false) (by kernel_rfl) (by kernel_rfl) (dst := (some 93)) (ty := 23) (g := none) (by kernel_rfl) rfl (x := (.tmp 87)) (y := (.tmp 92)) (t := 23) (t2 := 23) (by_ := 32) (z := (.agg #[(vi 0), (vi 0), (vi 0), (vi 0)])) (a2 := (some ⟨b207, 0, none⟩)) (c2 := 1) (m := [x179]) (T := tTie) (E := 46) (a := a201) (cap := n202) (l := r198) rfl rfl (by kernel_rfl) (by decide) (by kernel_rfl) (by kernel_rfl) rfl oTie hs209 (k := 1) rfl hr206 (RowR.rd hs209 (k := 0) rfl hr211) (r := r212) hap213 (Mem.le.refl _) (fun _ => by simp) (fun _ _ => by simp) (fun a215 n216 e217 w218 (hs219 : HS w0 F0 w218 F10 [(some b207, .cells ([(vi x179.A.Log), (vi x179.A.Line), (vi x179.B.Log), (vi x179.B.Line)] : List Value).toArray 46 (0, 0)), e217, (sb b152 #[(.slice a0_0 x0.Tracks.length n0_0), (.slice as68_1 s68.2.length ns68_1), (vi x0.Window)] 25), (sb b60 #[(.slice a0_0 x0.Tracks.length n0_0), (.slice as68_1 s68.2.length ns68_1), (vi x0.Window)] 25), (sb b1 (kSystem x0 a0_0 n0_0 a0_1 n0_1) 25)]) hr220 => ?_)
           refine Df 10 94 0 (.pointer (some ⟨b152, 1, none⟩)) (fun _ hq => fa 25 16 1 1 1 b152 0 1) ?_
           refine DWP.one (i := 11) (by kernel_rfl) ?_
           refine DStep.store (l' := [true, true, true, true, true, true, true, true, true, true, true, true]) (zd := true) (by kernel_rfl) (by kernel_rfl) (ty := 0) (g := none) (by kernel_rfl) rfl (x := (.tmp 94)) (y := (.tmp 93)) (t := 23) (gg := false) (s := 1) (v := (.slice a215 r212.length n216)) (b := b152) (o := 1) (C := #[(.slice a0_0 x0.Tracks.length n0_0), (.slice as68_1 s68.2.length ns68_1), (vi x0.Window)]) rfl rfl (by kernel_rfl) hs219 (k := 2) rfl rfl rfl rfl (C' := #[(.slice a0_0 x0.Tracks.length n0_0), (.slice a215 r212.length n216), (vi x0.Window)]) rfl (Mem.le.refl _) (by simp) (fun e => by cases e) (fun w221 (hs222 : HS w0 F0 w221 F10 [(some b207, .cells ([(vi x179.A.Log), (vi x179.A.Line), (vi x179.B.Log), (vi x179.B.Line)] : List Value).toArray 46 (0, 0)), e217, (sb b152 #[(.slice a0_0 x0.Tracks.length n0_0), (.slice a215 r212.length n216), (vi x0.Window)] 25), (sb b60 #[(.slice a0_0 x0.Tracks.length n0_0), (.slice as68_1 s68.2.length ns68_1), (vi x0.Window)] 25), (sb b1 (kSystem x0 a0_0 n0_0 a0_1 n0_1) 25)]) => ?_)
           obtain rfl := some_inj h214
           have hs223 : HS w0 F0 w221 F10 [e217, (sb b152 #[(.slice a0_0 x0.Tracks.length n0_0), (.slice a215 r212.length n216), (vi x0.Window)] 25), (sb b60 #[(.slice a0_0 x0.Tracks.length n0_0), (.slice as68_1 s68.2.length ns68_1), (vi x0.Window)] 25), (sb b1 (kSystem x0 a0_0 n0_0 a0_1 n0_1) 25)] := hs222.drop 0
           exact DWP.done (by kernel_rfl) ⟨F10, a215, n216, e217, hs223, (Mem.le.refl _), e104, e105, e106, e107, e108, e109, e110, e111, e112, e113, rfl, rfl, rfl, hr220⟩
          ·refine DStep.buildSlice (l' := [true, true, true, false, true, true, true, true, true, false, false, false]) (zd := false) (by kernel_rfl) (by kernel_rfl) (dst := (some 92)) (ty := 23) (g := none) (by kernel_rfl) rfl (t := 23) (len := 1) (parts := #[(0, (.tmp 91))]) (vs := [(0, (.agg (kTie x179)))]) (rfl) (E := 46) (cs := [(vi x179.A.Log), (vi x179.A.Line), (vi x179.B.Log), (vi x179.B.Line)]) (by kernel_rfl) hs195 (Mem.le.refl _) (by simp) (fun _ => by simp) (fun b224 w225 (hs226 : HS w0 F0 w225 F10 [(some b224, .cells ([(vi x179.A.Log), (vi x179.A.Line), (vi x179.B.Log), (vi x179.B.Line)] : List Value).toArray 46 (0, 0)), (some b193, .cells ([] : List Value).toArray 46 (0, 0)), (sb b152 #[(.slice a0_0 x0.Tracks.length n0_0), (.slice as68_1 s68.2.length ns68_1), (vi x0.Window)] 25), (sb b60 #[(.slice a0_0 x0.Tracks.length n0_0), (.slice as68_1 s68.2.length ns68_1), (vi x0.Window)] 25), (sb b1 (kSystem x0 a0_0 n0_0 a0_1 n0_1) 25)]) => ?_)
           have hr228 : RowR tTie 46 F10 (some ⟨b224, 0, none⟩) 1 [x179] (some b224, .cells ([(vi x179.A.Log), (vi x179.A.Line), (vi x179.B.Log), (vi x179.B.Line)] : List Value).toArray 46 (0, 0)) := RowR.lit ⟨rfl, rfl⟩ (by simp)
           refine DWP.one (i := 3) (by kernel_rfl) ?_
           obtain ⟨r229, hap230, h231⟩ := bind_some h182
           refine DStep.append (l' := [true, true, true, true, true, true, true, true, true, false, false, false]) (zd := false) (by kernel_rfl) (by kernel_rfl) (dst := (some 87)) (ty := 23) (g := none) (by kernel_rfl) rfl (x := (.tmp 84)) (y := (.tmp 86)) (t := 23) (t2 := 23) (by_ := 32) (z := (.agg #[(vi 0), (vi 0), (vi 0), (vi 0)])) (a2 := as68_1) (c2 := ns68_1) (m := s68.2) (T := tTie) (E := 46) (a := (some ⟨b193, 0, none⟩)) (cap := 0) (l := ([] : List Tie)) rfl rfl (by kernel_rfl) (by decide) (by kernel_rfl) (by kernel_rfl) rfl oTie hs226 (k := 1) rfl hr197 (SlA.rd hs226 (SlA.mono hss68_1 (le102.trans le150))) (r := r229) hap230 (Mem.le.refl _) (fun _ => by simp) (fun _ _ => by simp) (fun a232 n233 e234 w235 (hs236 : HS w0 F0 w235 F10 [(some b224, .cells ([(vi x179.A.Log), (vi x179.A.Line), (vi x179.B.Log), (vi x179.B.Line)] : List Value).toArray 46 (0, 0)), e234, (sb b152 #[(.slice a0_0 x0.Tracks.length n0_0), (.slice as68_1 s68.2.length ns68_1), (vi x0.Window)] 25), (sb b60 #[(.slice a0_0 x0.Tracks.length n0_0), (.slice as68_1 s68.2.length ns68_1), (vi x0.Window)] 25), (sb b1 (kSystem x0 a0_0 n0_0 a0_1 n0_1) 25)]) hr237 => ?_)
           refine DWP.one (i := 9) (by kernel_rfl) ?_
           obtain ⟨r238, hap239, h240⟩ := bind_some h231
           refine DStep.append (l' := [true, true, true, true, true, true, true, true, true, true, false, false]) (zd := false) (by kernel_rfl) (by kernel_rfl) (dst := (some 93)) (ty := 23) (g := none) (by kernel_rfl) rfl (x := (.tmp 87)) (y := (.tmp 92)) (t := 23) (t2 := 23) (by_ := 32) (z := (.agg #[(vi 0), (vi 0), (vi 0), (vi 0)])) (a2 := (some ⟨b224, 0, none⟩)) (c2 := 1) (m := [x179]) (T := tTie) (E := 46) (a := a232) (cap := n233) (l := r229) rfl rfl (by kernel_rfl) (by decide) (by kernel_rfl) (by kernel_rfl) rfl oTie hs236 (k := 1) rfl hr237 (RowR.rd hs236 (k := 0) rfl hr228) (r := r238) hap239 (Mem.le.refl _) (fun _ => by simp) (fun _ _ => by simp) (fun a241 n242 e243 w244 (hs245 : HS w0 F0 w244 F10 [(some b224, .cells ([(vi x179.A.Log), (vi x179.A.Line), (vi x179.B.Log), (vi x179.B.Line)] : List Value).toArray 46 (0, 0)), e243, (sb b152 #[(.slice a0_0 x0.Tracks.length n0_0), (.slice as68_1 s68.2.length ns68_1), (vi x0.Window)] 25), (sb b60 #[(.slice a0_0 x0.Tracks.length n0_0), (.slice as68_1 s68.2.length ns68_1), (vi x0.Window)] 25), (sb b1 (kSystem x0 a0_0 n0_0 a0_1 n0_1) 25)]) hr246 => ?_)
           refine Df 10 94 0 (.pointer (some ⟨b152, 1, none⟩)) (fun _ hq => fa 25 16 1 1 1 b152 0 1) ?_
           refine DWP.one (i := 11) (by kernel_rfl) ?_
           refine DStep.store (l' := [true, true, true, true, true, true, true, true, true, true, true, true]) (zd := true) (by kernel_rfl) (by kernel_rfl) (ty := 0) (g := none) (by kernel_rfl) rfl (x := (.tmp 94)) (y := (.tmp 93)) (t := 23) (gg := false) (s := 1) (v := (.slice a241 r238.length n242)) (b := b152) (o := 1) (C := #[(.slice a0_0 x0.Tracks.length n0_0), (.slice as68_1 s68.2.length ns68_1), (vi x0.Window)]) rfl rfl (by kernel_rfl) hs245 (k := 2) rfl rfl rfl rfl (C' := #[(.slice a0_0 x0.Tracks.length n0_0), (.slice a241 r238.length n242), (vi x0.Window)]) rfl (Mem.le.refl _) (by simp) (fun e => by cases e) (fun w247 (hs248 : HS w0 F0 w247 F10 [(some b224, .cells ([(vi x179.A.Log), (vi x179.A.Line), (vi x179.B.Log), (vi x179.B.Line)] : List Value).toArray 46 (0, 0)), e243, (sb b152 #[(.slice a0_0 x0.Tracks.length n0_0), (.slice a241 r238.length n242), (vi x0.Window)] 25), (sb b60 #[(.slice a0_0 x0.Tracks.length n0_0), (.slice as68_1 s68.2.length ns68_1), (vi x0.Window)] 25), (sb b1 (kSystem x0 a0_0 n0_0 a0_1 n0_1) 25)]) => ?_)
           obtain rfl := some_inj h240
           have hs249 : HS w0 F0 w247 F10 [e243, (sb b152 #[(.slice a0_0 x0.Tracks.length n0_0), (.slice a241 r238.length n242), (vi x0.Window)] 25), (sb b60 #[(.slice a0_0 x0.Tracks.length n0_0), (.slice as68_1 s68.2.length ns68_1), (vi x0.Window)] 25), (sb b1 (kSystem x0 a0_0 n0_0 a0_1 n0_1) 25)] := hs248.drop 0
           exact DWP.done (by kernel_rfl) ⟨F10, a241, n242, e243, hs249, (Mem.le.refl _), e104, e105, e106, e107, e108, e109, e110, e111, e112, e113, rfl, rfl, rfl, hr246⟩
         ·refine DStep.buildSlice (l' := [false, true, true, false, true, true, true, true, true, false, false, false]) (zd := false) (by kernel_rfl) (by kernel_rfl) (dst := (some 92)) (ty := 23) (g := none) (by kernel_rfl) rfl (t := 23) (len := 1) (parts := #[(0, (.tmp 91))]) (vs := [(0, (.agg (kTie x179)))]) (rfl) (E := 46) (cs := [(vi x179.A.Log), (vi x179.A.Line), (vi x179.B.Log), (vi x179.B.Line)]) (by kernel_rfl) hw158 (Mem.le.refl _) (by simp) (fun _ => by simp) (fun b250 w251 (hs252 : HS w0 F0 w251 F10 [(some b250, .cells ([(vi x179.A.Log), (vi x179.A.Line), (vi x179.B.Log), (vi x179.B.Line)] : List Value).toArray 46 (0, 0)), (sb b152 #[(.slice a0_0 x0.Tracks.length n0_0), (.slice as68_1 s68.2.length ns68_1), (vi x0.Window)] 25), (sb b60 #[(.slice a0_0 x0.Tracks.length n0_0), (.slice as68_1 s68.2.length ns68_1), (vi x0.Window)] 25), (sb b1 (kSystem x0 a0_0 n0_0 a0_1 n0_1) 25)]) => ?_)
          have hr254 : RowR tTie 46 F10 (some ⟨b250, 0, none⟩) 1 [x179] (some b250, .cells ([(vi x179.A.Log), (vi x179.A.Line), (vi x179.B.Log), (vi x179.B.Line)] : List Value).toArray 46 (0, 0)) := RowR.lit ⟨rfl, rfl⟩ (by simp)
          refine DWP.one (i := 0) (by kernel_rfl) ?_
          refine DStep.buildSlice (l' := [true, true, true, false, true, true, true, true, true, false, false, false]) (zd := false) (by kernel_rfl) (by kernel_rfl) (dst := (some 84)) (ty := 23) (g := none) (by kernel_rfl) rfl (t := 23) (len := 0) (parts := #[]) (vs := []) (rfl) (E := 46) (cs := []) (by kernel_rfl) hs252 (Mem.le.refl _) (by simp) (fun _ => by simp) (fun b255 w256 (hs257 : HS w0 F0 w256 F10 [(some b255, .cells ([] : List Value).toArray 46 (0, 0)), (some b250, .cells ([(vi x179.A.Log), (vi x179.A.Line), (vi x179.B.Log), (vi x179.B.Line)] : List Value).toArray 46 (0, 0)), (sb b152 #[(.slice a0_0 x0.Tracks.length n0_0), (.slice as68_1 s68.2.length ns68_1), (vi x0.Window)] 25), (sb b60 #[(.slice a0_0 x0.Tracks.length n0_0), (.slice as68_1 s68.2.length ns68_1), (vi x0.Window)] 25), (sb b1 (kSystem x0 a0_0 n0_0 a0_1 n0_1) 25)]) => ?_)
          have hr259 : RowR tTie 46 F10 (some ⟨b255, 0, none⟩) 0 ([] : List Tie) (some b255, .cells ([] : List Value).toArray 46 (0, 0)) := RowR.lit rfl (by simp)
          refine DWP.one (i := 3) (by kernel_rfl) ?_
          obtain ⟨r260, hap261, h262⟩ := bind_some h182
          refine DStep.append (l' := [true, true, true, true, true, true, true, true, true, false, false, false]) (zd := false) (by kernel_rfl) (by kernel_rfl) (dst := (some 87)) (ty := 23) (g := none) (by kernel_rfl) rfl (x := (.tmp 84)) (y := (.tmp 86)) (t := 23) (t2 := 23) (by_ := 32) (z := (.agg #[(vi 0), (vi 0), (vi 0), (vi 0)])) (a2 := as68_1) (c2 := ns68_1) (m := s68.2) (T := tTie) (E := 46) (a := (some ⟨b255, 0, none⟩)) (cap := 0) (l := ([] : List Tie)) rfl rfl (by kernel_rfl) (by decide) (by kernel_rfl) (by kernel_rfl) rfl oTie hs257 (k := 0) rfl hr259 (SlA.rd hs257 (SlA.mono hss68_1 (le102.trans le150))) (r := r260) hap261 (Mem.le.refl _) (fun _ => by simp) (fun _ _ => by simp) (fun a263 n264 e265 w266 (hs267 : HS w0 F0 w266 F10 [e265, (some b250, .cells ([(vi x179.A.Log), (vi x179.A.Line), (vi x179.B.Log), (vi x179.B.Line)] : List Value).toArray 46 (0, 0)), (sb b152 #[(.slice a0_0 x0.Tracks.length n0_0), (.slice as68_1 s68.2.length ns68_1), (vi x0.Window)] 25), (sb b60 #[(.slice a0_0 x0.Tracks.length n0_0), (.slice as68_1 s68.2.length ns68_1), (vi x0.Window)] 25), (sb b1 (kSystem x0 a0_0 n0_0 a0_1 n0_1) 25)]) hr268 => ?_)
          refine DWP.one (i := 9) (by kernel_rfl) ?_
          obtain ⟨r269, hap270, h271⟩ := bind_some h262
          refine DStep.append (l' := [true, true, true, true, true, true, true, true, true, true, false, false]) (zd := false) (by kernel_rfl) (by kernel_rfl) (dst := (some 93)) (ty := 23) (g := none) (by kernel_rfl) rfl (x := (.tmp 87)) (y := (.tmp 92)) (t := 23) (t2 := 23) (by_ := 32) (z := (.agg #[(vi 0), (vi 0), (vi 0), (vi 0)])) (a2 := (some ⟨b250, 0, none⟩)) (c2 := 1) (m := [x179]) (T := tTie) (E := 46) (a := a263) (cap := n264) (l := r260) rfl rfl (by kernel_rfl) (by decide) (by kernel_rfl) (by kernel_rfl) rfl oTie hs267 (k := 0) rfl hr268 (RowR.rd hs267 (k := 1) rfl hr254) (r := r269) hap270 (Mem.le.refl _) (fun _ => by simp) (fun _ _ => by simp) (fun a272 n273 e274 w275 (hs276 : HS w0 F0 w275 F10 [e274, (some b250, .cells ([(vi x179.A.Log), (vi x179.A.Line), (vi x179.B.Log), (vi x179.B.Line)] : List Value).toArray 46 (0, 0)), (sb b152 #[(.slice a0_0 x0.Tracks.length n0_0), (.slice as68_1 s68.2.length ns68_1), (vi x0.Window)] 25), (sb b60 #[(.slice a0_0 x0.Tracks.length n0_0), (.slice as68_1 s68.2.length ns68_1), (vi x0.Window)] 25), (sb b1 (kSystem x0 a0_0 n0_0 a0_1 n0_1) 25)]) hr277 => ?_)
          refine Df 10 94 0 (.pointer (some ⟨b152, 1, none⟩)) (fun _ hq => fa 25 16 1 1 1 b152 0 1) ?_
          refine DWP.one (i := 11) (by kernel_rfl) ?_
          refine DStep.store (l' := [true, true, true, true, true, true, true, true, true, true, true, true]) (zd := true) (by kernel_rfl) (by kernel_rfl) (ty := 0) (g := none) (by kernel_rfl) rfl (x := (.tmp 94)) (y := (.tmp 93)) (t := 23) (gg := false) (s := 1) (v := (.slice a272 r269.length n273)) (b := b152) (o := 1) (C := #[(.slice a0_0 x0.Tracks.length n0_0), (.slice as68_1 s68.2.length ns68_1), (vi x0.Window)]) rfl rfl (by kernel_rfl) hs276 (k := 2) rfl rfl rfl rfl (C' := #[(.slice a0_0 x0.Tracks.length n0_0), (.slice a272 r269.length n273), (vi x0.Window)]) rfl (Mem.le.refl _) (by simp) (fun e => by cases e) (fun w278 (hs279 : HS w0 F0 w278 F10 [e274, (some b250, .cells ([(vi x179.A.Log), (vi x179.A.Line), (vi x179.B.Log), (vi x179.B.Line)] : List Value).toArray 46 (0, 0)), (sb b152 #[(.slice a0_0 x0.Tracks.length n0_0), (.slice a272 r269.length n273), (vi x0.Window)] 25), (sb b60 #[(.slice a0_0 x0.Tracks.length n0_0), (.slice as68_1 s68.2.length ns68_1), (vi x0.Window)] 25), (sb b1 (kSystem x0 a0_0 n0_0 a0_1 n0_1) 25)]) => ?_)
          obtain rfl := some_inj h271
          have hs280 : HS w0 F0 w278 F10 [e274, (sb b152 #[(.slice a0_0 x0.Tracks.length n0_0), (.slice a272 r269.length n273), (vi x0.Window)] 25), (sb b60 #[(.slice a0_0 x0.Tracks.length n0_0), (.slice as68_1 s68.2.length ns68_1), (vi x0.Window)] 25), (sb b1 (kSystem x0 a0_0 n0_0 a0_1 n0_1) 25)] := hs279.drop 1
          exact DWP.done (by kernel_rfl) ⟨F10, a272, n273, e274, hs280, (Mem.le.refl _), e104, e105, e106, e107, e108, e109, e110, e111, e112, e113, rfl, rfl, rfl, hr277⟩
        ·rintro f w159 ⟨F11, aj163_0, nj163_0, ej163_0, hs160, le161, e164, e165, e166, e167, e168, e169, e170, e171, e172, e173, e174, e175, e176, hrj163_0⟩
         refine thenQ_nrm ?_
         refine Sq ?_
         refine Sq (Rg [0, 1, 2, 3, 4, 5, 6, 7, 8, 9, 10, 11, 12, 13, 14, 15, 16, 17, 18, 19, 20] ?_)
         obtain ⟨j284, hj298, h299⟩ := bind_some h178
         refine RWP.cut (fun f w => ∃ (F12 : Mem), HS w0 F0 w F12 [ej163_0, (sb b152 #[(.slice a0_0 x0.Tracks.length n0_0), (.slice aj163_0 j163.length nj163_0), (vi x0.Window)] 25), (sb b60 #[(.slice a0_0 x0.Tracks.length n0_0), (.slice as68_1 s68.2.length ns68_1), (vi x0.Window)] 25), (sb b1 (kSystem x0 a0_0 n0_0 a0_1 n0_1) 25)] ∧ Mem.le F11 F12 ∧ f.d = [] ∧ f 1 = (.slice a1_0 x1.length n1_0) ∧ f 2 = (vi x2) ∧ f 3 = (.pointer (some ⟨b1, 0, none⟩)) ∧ f 7 = (.bool r4) ∧ f 8 = (.slice ar38_0_0 r38.1.length nr38_0_0) ∧ f 10 = (.pointer (some ⟨b60, 0, none⟩)) ∧ f 11 = (vi s68.1) ∧ f 12 = (.bool j103.1) ∧ f 14 = (.slice ar144_0_0 r144.1.length nr144_0_0) ∧ f 15 = (vi r144.2) ∧ f 16 = (.pointer (some ⟨b152, 0, none⟩)) ∧ f 115 = (.bool j284)) ?_ ?_
         ·refine V 95 30 (mv 13 (vi j103.2) e173) ?_
          refine V 96 4 (run_neq (t := 30) (t' := 30) (x := (.tmp 95)) (y := (.const (vi 0))) (k := .i64) (a := j103.2) (b := 0) rfl rfl) ?_
          refine V 97 4 (mv 96 (.bool (j103.2 != 0))) ?_
          refine RWP.split (j103.2 != 0) (fun hb300 => ?_) (fun hb300 => ?_)
          ·have h301 := cond_t hj298 hb300
           refine Sk [98, 99] 2 false 97 hb300 ?_
           refine Su [100, 101, 102, 103, 104] 4 true 99 ?_
           refine Sk [105] 2 false 97 hb300 ?_
           refine V 106 4 (p1 97 (.const (.bool true)) (.tmp 105) (.bool true) hb300) ?_
           refine V 107 4 (mv 106 (.bool true)) ?_
           refine Sk [108, 109, 110, 111, 112, 113, 114] 12 false 107 rfl ?_
           refine V 115 4 (p1 107 (.const (.bool true)) (.tmp 114) (.bool true) rfl) ?_
           obtain rfl := some_inj h301
           exact RWP.nil ⟨rfl, F11, hs160, (Mem.le.refl _), e164, e165, e166, e167, e168, e169, e170, e171, e172, e174, e175, e176, rfl⟩
          ·have h302 := cond_f hj298 hb300
           refine Vg 98 4 2 false 97 hb300 (mv 12 (.bool j103.1) e172) ?_
           refine Vg 99 4 2 false 97 hb300 (mv 98 (.bool j103.1)) ?_
           refine RWP.split j103.1 (fun hb303 => ?_) (fun hb303 => ?_)
           ·have h304 := cond_t h302 hb303
            refine Vg 100 64 4 true 99 hb303 (mv 8 (.slice ar38_0_0 r38.1.length nr38_0_0) e169) ?_
            refine Vg 101 3 4 true 99 hb303 (mv 11 (vi s68.1) e171) ?_
            obtain ⟨x305, hx306, h308⟩ := bind_some h304
            obtain ⟨hi307, hx306'⟩ := idx_spec hx306
            obtain ⟨b309, o310, C311, E312, fz313, rfl, hF315, hE316⟩ := SlA.open (SlA.mono hsr38_0_0 (((le71.trans le102).trans le150).trans le161)) hx306'
            have hc318 := hE316 _ _ hx306'
            refine Vg 102 0 4 true 99 hb303 (ix 64 100 101 b309 o310 4 1 1 hi307) ?_
            refine Vg 103 4 4 true 99 hb303 (lx 4 102 0 1 false 1 (.bool x305) (hs160.pers _ _ hF315) hc318) ?_
            refine Vg 104 4 4 true 99 hb303 (run_not (t := 4) (x := (.tmp 103)) (a := x305) rfl) ?_
            refine Vg 105 4 2 false 97 hb300 (p1 99 (.tmp 104) (.const (.bool false)) (.bool (!x305)) hb303) ?_
            refine V 106 4 (p0 97 (.const (.bool true)) (.tmp 105) (.bool (!x305)) hb300) ?_
            refine V 107 4 (mv 106 (.bool (!x305))) ?_
            refine RWP.split (!x305) (fun hb319 => ?_) (fun hb319 => ?_)
            ·have h320 := cond_t h308 hb319
             refine Sk [108, 109, 110, 111, 112, 113, 114] 12 false 107 hb319 ?_
             refine V 115 4 (p1 107 (.const (.bool true)) (.tmp 114) (.bool true) hb319) ?_
             obtain rfl := some_inj h320
             exact RWP.nil ⟨rfl, F11, hs160, (Mem.le.refl _), e164, e165, e166, e167, e168, e169, e170, e171, e172, e174, e175, e176, rfl⟩
            ·have h321 := cond_f h308 hb319
             refine Vg 108 30 12 false 107 hb319 (mv 15 (vi r144.2) e175) ?_
             refine Vg 109 4 12 false 107 hb319 (run_eql (t := 30) (t' := 30) (x := (.tmp 108)) (y := (.const (vi 3))) (k := .i64) (a := r144.2) (b := 3) rfl rfl) ?_
             refine Vg 110 64 12 false 107 hb319 (mv 8 (.slice (some ⟨b309, o310, none⟩) r38.1.length nr38_0_0) e169) ?_
             refine Vg 111 3 12 false 107 hb319 (mv 11 (vi s68.1) e171) ?_
             obtain ⟨x322, hx323, h325⟩ := bind_some h321
             obtain ⟨hi324, hx323'⟩ := idx_spec hx323
             have hc327 := hE316 _ _ hx323'
             refine Vg 112 0 12 false 107 hb319 (ix 64 110 111 b309 o310 4 1 1 hi324) ?_
             refine Vg 113 4 12 false 107 hb319 (lx 4 112 0 1 false 1 (.bool x322) (hs160.pers _ _ hF315) hc327) ?_
             refine Vg 114 4 12 false 107 hb319 (run_neb (t := 4) (t' := 4) (x := (.tmp 109)) (y := (.tmp 113)) (a := (r144.2 == 3)) (b := x322) rfl rfl (by kernel_rfl)) ?_
             refine V 115 4 (p0 107 (.const (.bool true)) (.tmp 114) (.bool (!((r144.2 == 3) == x322))) hb319) ?_
             obtain rfl := some_inj h325
             exact RWP.nil ⟨rfl, F11, hs160, (Mem.le.refl _), e164, e165, e166, e167, e168, e169, e170, e171, e172, e174, e175, e176, rfl⟩
           ·have h328 := cond_f h302 hb303
            refine Sk [100, 101, 102, 103, 104] 4 true 99 hb303 ?_
            refine Vg 105 4 2 false 97 hb300 (p0 99 (.tmp 104) (.const (.bool false)) (.bool false) hb303) ?_
            refine V 106 4 (p0 97 (.const (.bool true)) (.tmp 105) (.bool false) hb300) ?_
            refine V 107 4 (mv 106 (.bool false)) ?_
            refine Vg 108 30 12 false 107 rfl (mv 15 (vi r144.2) e175) ?_
            refine Vg 109 4 12 false 107 rfl (run_eql (t := 30) (t' := 30) (x := (.tmp 108)) (y := (.const (vi 3))) (k := .i64) (a := r144.2) (b := 3) rfl rfl) ?_
            refine Vg 110 64 12 false 107 rfl (mv 8 (.slice ar38_0_0 r38.1.length nr38_0_0) e169) ?_
            refine Vg 111 3 12 false 107 rfl (mv 11 (vi s68.1) e171) ?_
            obtain ⟨x329, hx330, h332⟩ := bind_some h328
            obtain ⟨hi331, hx330'⟩ := idx_spec hx330
            obtain ⟨b333, o334, C335, E336, fz337, rfl, hF339, hE340⟩ := SlA.open (SlA.mono hsr38_0_0 (((le71.trans le102).trans le150).trans le161)) hx330'
            have hc342 := hE340 _ _ hx330'
            refine Vg 112 0 12 false 107 rfl (ix 64 110 111 b333 o334 4 1 1 hi331) ?_
            refine Vg 113 4 12 false 107 rfl (lx 4 112 0 1 false 1 (.bool x329) (hs160.pers _ _ hF339) hc342) ?_
            refine Vg 114 4 12 false 107 rfl (run_neb (t := 4) (t' := 4) (x := (.tmp 109)) (y := (.tmp 113)) (a := (r144.2 == 3)) (b := x329) rfl rfl (by kernel_rfl)) ?_
            refine V 115 4 (p0 107 (.const (.bool true)) (.tmp 114) (.bool (!((r144.2 == 3) == x329))) rfl) ?_
            obtain rfl := some_inj h332
            exact RWP.nil ⟨rfl, F11, hs160, (Mem.le.refl _), e164, e165, e166, e167, e168, e169, e170, e171, e172, e174, e175, e176, rfl⟩
         ·rintro f w281 ⟨F12, hs282, le283, e285, e286, e287, e288, e289, e290, e291, e292, e293, e294, e295, e296, e297⟩
          refine thenQ_nrm ?_
          refine CWP.cond (t := j284) (by kernel_rfl) e297 (fun hb343 => ?_) (fun hb343 => ?_)
          ·have h344 := cond_t h299 hb343
           refine Sq (Rg [0] ?_)
           refine V 6 4 (mc (.bool false) (.bool false)) ?_
           refine Nt ?_
           refine CWP.ret (by kernel_rfl) ?_
           refine thenQ_ret ?_
           refine blockQ_ret ?_
           refine thenQ_ret ?_
           refine thenQ_ret ?_
           refine blockQ_ret ?_
           have hret := iter_ret h344 hnx95
           subst hret
           refine .inr ?_
           refine thenQ_ret ?_
           have hfin := some_inj h67
           subst hfin
           exact ⟨e285, (.bool false), res_of (l := [.tmp 6]) (by kernel_rfl) (vs := [(.bool false)]) ⟨rfl, trivial⟩, (.bool false), F12, rfl, hs282.clear, rfl⟩
          ·have h345 := cond_f h299 hb343
           refine Sc ?_
           refine thenQ_nrm ?_
           refine Sq ?_
           refine Sq (Rg [0, 1, 2, 3, 4] ?_)
           refine V 116 64 (mv 8 (.slice ar38_0_0 r38.1.length nr38_0_0) e290) ?_
           refine V 117 3 (mv 11 (vi s68.1) e292) ?_
           obtain ⟨x346, hx347, h349⟩ := bind_some h345
           obtain ⟨hi348, hx347'⟩ := idx_spec hx347
           obtain ⟨b350, o351, C352, E353, fz354, rfl, hF356, hE357⟩ := SlA.open (SlA.mono hsr38_0_0 ((((le71.trans le102).trans le150).trans le161).trans le283)) hx347'
           have hc359 := hE357 _ _ hx347'
           refine V 118 0 (ix 64 116 117 b350 o351 4 1 1 hi348) ?_
           refine V 119 4 (lx 4 118 0 1 false 1 (.bool x346) (hs282.pers _ _ hF356) hc359) ?_
           refine V 120 4 (run_not (t := 4) (x := (.tmp 119)) (a := x346) rfl) ?_
           refine Nt ?_
           refine CWP.cond (t := (!x346)) (by kernel_rfl) rfl (fun hb360 => ?_) (fun hb360 => ?_)
           ·have h361 := cond_t h349 hb360
            refine Sq (Rg [0, 1, 2, 3, 4, 5, 6, 7] ?_)
            refine V 122 25 (ld 25 16 b152 0 true 3 (.agg #[(.slice a0_0 x0.Tracks.length n0_0), (.slice aj163_0 j163.length nj163_0), (vi x0.Window)]) (hs282.ownAt (k := 1) rfl) e296) ?_
            refine V 123 57 (mv 14 (.slice ar144_0_0 r144.1.length nr144_0_0) e294) ?_
            have hb365 := RowR.bound (hrj163_0.mono le283)
            obtain ⟨F13, hs362, le363, hs364⟩ : ∃ Fq, HS w0 F0 w281 Fq [(sb b152 #[(.slice a0_0 x0.Tracks.length n0_0), (.slice aj163_0 j163.length nj163_0), (vi x0.Window)] 25), (sb b60 #[(.slice a0_0 x0.Tracks.length n0_0), (.slice as68_1 s68.2.length ns68_1), (vi x0.Window)] 25), (sb b1 (kSystem x0 a0_0 n0_0 a0_1 n0_1) 25)] ∧ Mem.le F12 Fq ∧ SlA tTie Fq aj163_0 j163 := HS.freezeRow hs282 (k := 0) rfl (hrj163_0.mono le283)
            obtain ⟨r366, hr367, h368⟩ := bind_some h361
            refine Cl 124 43 54 #[(.tmp 122), (.tmp 123)] #[25, 57] co_clocks_ValidLoop hs362 (c_clocks_ValidLoop N w281 F13 hs362.pers (({ Tracks := x0.Tracks, Ties := j163, Window := x0.Window } : System)) a0_0 n0_0 hb0_0 (SlA.mono hs0_0 ((((((((le10.trans le14).trans le44).trans le71).trans le102).trans le150).trans le161).trans le283).trans le363)) aj163_0 nj163_0 hb365 hs364 (r144.1) ar144_0_0 nr144_0_0 hbr144_0_0 (SlA.mono hsr144_0_0 ((le161.trans le283).trans le363)) _ hr367) ?_
            intro v369 F14 w370 hs371 le372 hp373
            obtain rfl := hp373
            refine V 121 43 (mv 124 (.tuple #[(.bool r366.1), (vi r366.2)])) ?_
            refine V 125 4 (ex 121 0 (.bool r366.1) (vs := #[(.bool r366.1), (vi r366.2)])) ?_
            refine V 126 30 (ex 121 1 (vi r366.2) (vs := #[(.bool r366.1), (vi r366.2)])) ?_
            refine V 17 4 (ma 125 (.bool r366.1)) ?_
            refine V 18 30 (ma 126 (vi r366.2)) ?_
            refine Nss ?_
            refine Sq (Rg [0, 1, 2, 3, 4, 5, 6, 7, 8, 9] ?_)
            refine RWP.cut (fun f w => ∃ (F15 : Mem), HS w0 F0 w F15 [(sb b60 #[(.slice a0_0 x0.Tracks.length n0_0), (.slice as68_1 s68.2.length ns68_1), (vi x0.Window)] 25), (sb b1 (kSystem x0 a0_0 n0_0 a0_1 n0_1) 25)] ∧ Mem.le F14 F15 ∧ f.d = [] ∧ f 1 = (.slice a1_0 x1.length n1_0) ∧ f 2 = (vi x2) ∧ f 3 = (.pointer (some ⟨b1, 0, none⟩)) ∧ f 7 = (.bool r4) ∧ f 8 = (.slice (some ⟨b350, o351, none⟩) r38.1.length nr38_0_0) ∧ f 10 = (.pointer (some ⟨b60, 0, none⟩)) ∧ f 11 = (vi s68.1) ∧ f 136 = (.bool ((r144.2 != 0) || ((r366.2 != 0) || (!r366.1))))) ?_ ?_
            ·refine V 127 30 (mv 15 (vi r144.2) e295) ?_
             refine V 128 4 (run_neq (t := 30) (t' := 30) (x := (.tmp 127)) (y := (.const (vi 0))) (k := .i64) (a := r144.2) (b := 0) rfl rfl) ?_
             refine V 129 4 (mv 128 (.bool (r144.2 != 0))) ?_
             refine RWP.split (r144.2 != 0) (fun hb386 => ?_) (fun hb386 => ?_)
             ·refine Sk [130, 131] 2 false 129 hb386 ?_
              refine V 132 4 (p1 129 (.const (.bool true)) (.tmp 131) (.bool true) hb386) ?_
              refine V 133 4 (mv 132 (.bool true)) ?_
              refine Sk [134, 135] 6 false 133 rfl ?_
              refine V 136 4 (p1 133 (.const (.bool true)) (.tmp 135) (.bool true) rfl) ?_
              have hs387 : HS w0 F0 w370 F14 [(sb b60 #[(.slice a0_0 x0.Tracks.length n0_0), (.slice as68_1 s68.2.length ns68_1), (vi x0.Window)] 25), (sb b1 (kSystem x0 a0_0 n0_0 a0_1 n0_1) 25)] := hs371.drop 0
              exact RWP.nil ⟨rfl, F14, hs387, (Mem.le.refl _), e285, e286, e287, e288, e289, e290, e291, e292, (congrArg Value.bool (or_t hb386 (rfl)))⟩
             ·refine Vg 130 30 2 false 129 hb386 (mv 18 (vi r366.2)) ?_
              refine Vg 131 4 2 false 129 hb386 (run_neq (t := 30) (t' := 30) (x := (.tmp 130)) (y := (.const (vi 0))) (k := .i64) (a := r366.2) (b := 0) rfl rfl) ?_
              refine V 132 4 (p0 129 (.const (.bool true)) (.tmp 131) (.bool (r366.2 != 0)) hb386) ?_
              refine V 133 4 (mv 132 (.bool (r366.2 != 0))) ?_
              refine RWP.split (r366.2 != 0) (fun hb388 => ?_) (fun hb388 => ?_)
              ·refine Sk [134, 135] 6 false 133 hb388 ?_
               refine V 136 4 (p1 133 (.const (.bool true)) (.tmp 135) (.bool true) hb388) ?_
               have hs389 : HS w0 F0 w370 F14 [(sb b60 #[(.slice a0_0 x0.Tracks.length n0_0), (.slice as68_1 s68.2.length ns68_1), (vi x0.Window)] 25), (sb b1 (kSystem x0 a0_0 n0_0 a0_1 n0_1) 25)] := hs371.drop 0
               exact RWP.nil ⟨rfl, F14, hs389, (Mem.le.refl _), e285, e286, e287, e288, e289, e290, e291, e292, (congrArg Value.bool (or_f hb386 (or_t hb388 (rfl))))⟩
              ·refine Vg 134 4 6 false 133 hb388 (mv 17 (.bool r366.1)) ?_
               refine Vg 135 4 6 false 133 hb388 (run_not (t := 4) (x := (.tmp 134)) (a := r366.1) rfl) ?_
               refine V 136 4 (p0 133 (.const (.bool true)) (.tmp 135) (.bool (!r366.1)) hb388) ?_
               have hs390 : HS w0 F0 w370 F14 [(sb b60 #[(.slice a0_0 x0.Tracks.length n0_0), (.slice as68_1 s68.2.length ns68_1), (vi x0.Window)] 25), (sb b1 (kSystem x0 a0_0 n0_0 a0_1 n0_1) 25)] := hs371.drop 0
               exact RWP.nil ⟨rfl, F14, hs390, (Mem.le.refl _), e285, e286, e287, e288, e289, e290, e291, e292, (congrArg Value.bool (or_f hb386 (or_f hb388 (rfl))))⟩
            ·rintro f w374 ⟨F15, hs375, le376, e377, e378, e379, e380, e381, e382, e383, e384, e385⟩
             refine thenQ_nrm ?_
             refine CWP.cond (t := ((r144.2 != 0) || ((r366.2 != 0) || (!r366.1)))) (by kernel_rfl) e385 (fun hb391 => ?_) (fun hb391 => ?_)
             ·have h392 := cond_t h368 hb391
              refine Sq (Rg [0] ?_)
              refine V 6 4 (mc (.bool false) (.bool false)) ?_
              refine Nt ?_
              refine CWP.ret (by kernel_rfl) ?_
              refine thenQ_ret ?_
              refine thenQ_ret ?_
              refine blockQ_ret ?_
              refine thenQ_ret ?_
              refine thenQ_ret ?_
              refine blockQ_ret ?_
              have hret := iter_ret h392 hnx95
              subst hret
              refine .inr ?_
              refine thenQ_ret ?_
              have hfin := some_inj h67
              subst hfin
              exact ⟨e377, (.bool false), res_of (l := [.tmp 6]) (by kernel_rfl) (vs := [(.bool false)]) ⟨rfl, trivial⟩, (.bool false), F15, rfl, hs375.clear, rfl⟩
             ·have h393 := cond_f h368 hb391
              refine Sc ?_
              refine thenQ_nrm ?_
              refine CWP.exit (by kernel_rfl) ?_
              refine thenQ_ex ?_
              refine blockQ_hit rfl ?_
              refine thenQ_nrm ?_
              refine Rg [0, 1, 2] ?_
              refine V 59 3 (mv 11 (vi s68.1) e384) ?_
              refine V 60 3 (run_add (t := 3) (t' := 3) (x := (.tmp 59)) (y := (.const (vi 1))) (k := .i64) (a := s68.1) (b := 1) rfl rfl) ?_
              refine V 11 3 (ma 60 (vi (W64 (s68.1 + 1)))) ?_
              refine RWP.nil ?_
              have hn394 := iter_next h393 hnx95
              exact ⟨m92, Nat.lt_succ_self _, ((W64 (s68.1 + 1)), s68.2), F15, as68_1, ns68_1, hn394, hs375, (((((((le71.trans le102).trans le150).trans le161).trans le283).trans le363).trans le372).trans le376), e377, e378, e379, e380, e381, e382, e383, rfl, hbs68_1, (SlA.mono hss68_1 ((((((le102.trans le150).trans le161).trans le283).trans le363).trans le372).trans le376))⟩
           ·have h395 := cond_f h349 hb360
            refine Sc ?_
            refine thenQ_nrm ?_
            refine Sq (Rg [0, 1, 2, 3, 4, 5, 6] ?_)
            refine V 138 25 (ld 25 10 b60 0 true 3 (.agg #[(.slice a0_0 x0.Tracks.length n0_0), (.slice as68_1 s68.2.length ns68_1), (vi x0.Window)]) (hs282.ownAt (k := 2) rfl) e291) ?_
            obtain ⟨r396, hr397, h398⟩ := bind_some h395
            refine Cl 139 34 19 #[(.tmp 138)] #[25] co_clocks_Times hs282 (c_clocks_Times N w281 F12 hs282.pers (({ Tracks := x0.Tracks, Ties := s68.2, Window := x0.Window } : System)) a0_0 n0_0 hb0_0 (SlA.mono hs0_0 (((((((le10.trans le14).trans le44).trans le71).trans le102).trans le150).trans le161).trans le283)) as68_1 ns68_1 hbs68_1 (SlA.mono hss68_1 (((le102.trans le150).trans le161).trans le283)) _ hr397) ?_
            intro v399 F16 w400 hs401 le402 hp403
            obtain ⟨ar396_0_0, nr396_0_0, rfl, hbr396_0_0, hsr396_0_0⟩ := hp403
            refine V 137 34 (mv 139 (.tuple #[(.slice ar396_0_0 r396.1.length nr396_0_0), (vi r396.2)])) ?_
            refine V 140 33 (ex 137 0 (.slice ar396_0_0 r396.1.length nr396_0_0) (vs := #[(.slice ar396_0_0 r396.1.length nr396_0_0), (vi r396.2)])) ?_
            refine V 141 30 (ex 137 1 (vi r396.2) (vs := #[(.slice ar396_0_0 r396.1.length nr396_0_0), (vi r396.2)])) ?_
            refine V 19 33 (ma 140 (.slice ar396_0_0 r396.1.length nr396_0_0)) ?_
            refine V 20 30 (ma 141 (vi r396.2)) ?_
            refine Nss (Rg [0, 1, 2, 3, 4, 5, 6] ?_)
            refine V 143 25 (ld 25 16 b152 0 true 3 (.agg #[(.slice a0_0 x0.Tracks.length n0_0), (.slice aj163_0 j163.length nj163_0), (vi x0.Window)]) (hs401.ownAt (k := 1) rfl) e296) ?_
            have hb407 := RowR.bound (hrj163_0.mono (le283.trans le402))
            obtain ⟨F17, hs404, le405, hs406⟩ : ∃ Fq, HS w0 F0 w400 Fq [(sb b152 #[(.slice a0_0 x0.Tracks.length n0_0), (.slice aj163_0 j163.length nj163_0), (vi x0.Window)] 25), (sb b60 #[(.slice a0_0 x0.Tracks.length n0_0), (.slice as68_1 s68.2.length ns68_1), (vi x0.Window)] 25), (sb b1 (kSystem x0 a0_0 n0_0 a0_1 n0_1) 25)] ∧ Mem.le F16 Fq ∧ SlA tTie Fq aj163_0 j163 := HS.freezeRow hs401 (k := 0) rfl (hrj163_0.mono (le283.trans le402))
            obtain ⟨r408, hr409, h410⟩ := bind_some h398
            refine Cl 144 34 19 #[(.tmp 143)] #[25] co_clocks_Times hs404 (c_clocks_Times N w400 F17 hs404.pers (({ Tracks := x0.Tracks, Ties := j163, Window := x0.Window } : System)) a0_0 n0_0 hb0_0 (SlA.mono hs0_0 (((((((((le10.trans le14).trans le44).trans le71).trans le102).trans le150).trans le161).trans le283).trans le402).trans le405)) aj163_0 nj163_0 hb407 hs406 _ hr409) ?_
            intro v411 F18 w412 hs413 le414 hp415
            obtain ⟨ar408_0_0, nr408_0_0, rfl, hbr408_0_0, hsr408_0_0⟩ := hp415
            refine V 142 34 (mv 144 (.tuple #[(.slice ar408_0_0 r408.1.length nr408_0_0), (vi r408.2)])) ?_
            refine V 145 33 (ex 142 0 (.slice ar408_0_0 r408.1.length nr408_0_0) (vs := #[(.slice ar408_0_0 r408.1.length nr408_0_0), (vi r408.2)])) ?_
            refine V 146 30 (ex 142 1 (vi r408.2) (vs := #[(.slice ar408_0_0 r408.1.length nr408_0_0), (vi r408.2)])) ?_
            refine V 21 33 (ma 145 (.slice ar408_0_0 r408.1.length nr408_0_0)) ?_
            refine V 22 30 (ma 146 (vi r408.2)) ?_
            refine Nss ?_
            refine Sq (Rg [0, 1, 2, 3, 4, 5, 6, 7, 8, 9, 10, 11, 12, 13, 14] ?_)
            obtain ⟨j419, hj430, h431⟩ := bind_some h410
            refine RWP.cut (fun f w => ∃ (F19 : Mem), HS w0 F0 w F19 [(sb b152 #[(.slice a0_0 x0.Tracks.length n0_0), (.slice aj163_0 j163.length nj163_0), (vi x0.Window)] 25), (sb b60 #[(.slice a0_0 x0.Tracks.length n0_0), (.slice as68_1 s68.2.length ns68_1), (vi x0.Window)] 25), (sb b1 (kSystem x0 a0_0 n0_0 a0_1 n0_1) 25)] ∧ Mem.le F18 F19 ∧ f.d = [] ∧ f 1 = (.slice a1_0 x1.length n1_0) ∧ f 2 = (vi x2) ∧ f 3 = (.pointer (some ⟨b1, 0, none⟩)) ∧ f 7 = (.bool r4) ∧ f 8 = (.slice (some ⟨b350, o351, none⟩) r38.1.length nr38_0_0) ∧ f 10 = (.pointer (some ⟨b60, 0, none⟩)) ∧ f 11 = (vi s68.1) ∧ f 16 = (.pointer (some ⟨b152, 0, none⟩)) ∧ f 161 = (.bool j419)) ?_ ?_
            ·refine V 147 30 (mv 20 (vi r396.2)) ?_
             refine V 148 4 (run_neq (t := 30) (t' := 30) (x := (.tmp 147)) (y := (.const (vi 0))) (k := .i64) (a := r396.2) (b := 0) rfl rfl) ?_
             refine V 149 4 (mv 148 (.bool (r396.2 != 0))) ?_
             refine RWP.split (r396.2 != 0) (fun hb432 => ?_) (fun hb432 => ?_)
             ·have h433 := cond_t hj430 hb432
              refine Sk [150, 151] 2 false 149 hb432 ?_
              refine V 152 4 (p1 149 (.const (.bool true)) (.tmp 151) (.bool true) hb432) ?_
              refine V 153 4 (mv 152 (.bool true)) ?_
              refine Sk [154, 155] 6 false 153 rfl ?_
              refine Su [156, 157, 158, 159] 8 true 155 ?_
              refine Sk [160] 6 false 153 rfl ?_
              refine V 161 4 (p1 153 (.const (.bool true)) (.tmp 160) (.bool true) rfl) ?_
              obtain rfl := some_inj h433
              exact RWP.nil ⟨rfl, F18, hs413, (Mem.le.refl _), e285, e286, e287, e288, e289, e290, e291, e292, e296, rfl⟩
             ·have h434 := cond_f hj430 hb432
              refine Vg 150 30 2 false 149 hb432 (mv 22 (vi r408.2)) ?_
              refine Vg 151 4 2 false 149 hb432 (run_neq (t := 30) (t' := 30) (x := (.tmp 150)) (y := (.const (vi 0))) (k := .i64) (a := r408.2) (b := 0) rfl rfl) ?_
              refine V 152 4 (p0 149 (.const (.bool true)) (.tmp 151) (.bool (r408.2 != 0)) hb432) ?_
              refine V 153 4 (mv 152 (.bool (r408.2 != 0))) ?_
              refine RWP.split (r408.2 != 0) (fun hb435 => ?_) (fun hb435 => ?_)
              ·have h436 := cond_t h434 hb435
               refine Sk [154, 155] 6 false 153 hb435 ?_
               refine Su [156, 157, 158, 159] 8 true 155 ?_
               refine Sk [160] 6 false 153 hb435 ?_
               refine V 161 4 (p1 153 (.const (.bool true)) (.tmp 160) (.bool true) hb435) ?_
               obtain rfl := some_inj h436
               exact RWP.nil ⟨rfl, F18, hs413, (Mem.le.refl _), e285, e286, e287, e288, e289, e290, e291, e292, e296, rfl⟩
              ·have h437 := cond_f h434 hb435
               refine Vg 154 4 6 false 153 hb435 (mv 12 (.bool j103.1) e293) ?_
               refine Vg 155 4 6 false 153 hb435 (mv 154 (.bool j103.1)) ?_
               refine RWP.split j103.1 (fun hb438 => ?_) (fun hb438 => ?_)
               ·have h439 := cond_t h437 hb438
                refine Vg 156 33 8 true 155 hb438 (mv 19 (.slice ar396_0_0 r396.1.length nr396_0_0)) ?_
                refine Vg 157 33 8 true 155 hb438 (mv 21 (.slice ar408_0_0 r408.1.length nr408_0_0)) ?_
                obtain ⟨r440, hr441, h442⟩ := bind_some h439
                refine RWP.call (dst := (some 158)) (ty := 4) (g := (some (8, true))) (by kernel_rfl) (gd_y (d := 155) (by kernel_rfl) rfl hb438) (f0 := (.func 52)) (aos := #[(.tmp 156), (.tmp 157)]) (ats := #[33, 33]) (fid := 52) (first := #[]) (cap := #[]) (args := [(.slice ar396_0_0 r396.1.length nr396_0_0), (.slice ar408_0_0 r408.1.length nr408_0_0)]) rfl co_ref03_SameSpans (rfl) hs413 (c_ref03_SameSpans N w412 F18 hs413.pers (r396.1) ar396_0_0 nr396_0_0 hbr396_0_0 (SlA.mono hsr396_0_0 (le405.trans le414)) (r408.1) ar408_0_0 nr408_0_0 hbr408_0_0 hsr408_0_0 _ hr441) ?_
                intro v443 F20 w444 hs445 le446 hp447
                obtain rfl := hp447
                refine Vg 159 4 8 true 155 hb438 (run_not (t := 4) (x := (.tmp 158)) (a := r440) rfl) ?_
                refine Vg 160 4 6 false 153 hb435 (p1 155 (.tmp 159) (.const (.bool false)) (.bool (!r440)) hb438) ?_
                refine V 161 4 (p0 153 (.const (.bool true)) (.tmp 160) (.bool (!r440)) hb435) ?_
                obtain rfl := some_inj h442
                exact RWP.nil ⟨rfl, F20, hs445, le446, e285, e286, e287, e288, e289, e290, e291, e292, e296, rfl⟩
               ·have h448 := cond_f h437 hb438
                refine Sk [156, 157, 158, 159] 8 true 155 hb438 ?_
                refine Vg 160 4 6 false 153 hb435 (p0 155 (.tmp 159) (.const (.bool false)) (.bool false) hb438) ?_
                refine V 161 4 (p0 153 (.const (.bool true)) (.tmp 160) (.bool false) hb435) ?_
                obtain rfl := some_inj h448
                exact RWP.nil ⟨rfl, F18, hs413, (Mem.le.refl _), e285, e286, e287, e288, e289, e290, e291, e292, e296, rfl⟩
            ·rintro f w416 ⟨F19, hs417, le418, e420, e421, e422, e423, e424, e425, e426, e427, e428, e429⟩
             refine thenQ_nrm ?_
             refine CWP.cond (t := j419) (by kernel_rfl) e429 (fun hb449 => ?_) (fun hb449 => ?_)
             ·have h450 := cond_t h431 hb449
              refine Sq (Rg [0] ?_)
              refine V 6 4 (mc (.bool false) (.bool false)) ?_
              refine Nt ?_
              refine CWP.ret (by kernel_rfl) ?_
              refine thenQ_ret ?_
              refine blockQ_ret ?_
              refine thenQ_ret ?_
              refine thenQ_ret ?_
              refine blockQ_ret ?_
              have hret := iter_ret h450 hnx95
              subst hret
              refine .inr ?_
              refine thenQ_ret ?_
              have hfin := some_inj h67
              subst hfin
              exact ⟨e420, (.bool false), res_of (l := [.tmp 6]) (by kernel_rfl) (vs := [(.bool false)]) ⟨rfl, trivial⟩, (.bool false), F19, rfl, hs417.clear, rfl⟩
             ·have h451 := cond_f h431 hb449
              refine Sc ?_
              refine thenQ_nrm ?_
              refine Rg [0, 1] ?_
              refine V 162 25 (ld 25 16 b152 0 true 3 (.agg #[(.slice a0_0 x0.Tracks.length n0_0), (.slice aj163_0 j163.length nj163_0), (vi x0.Window)]) (hs417.ownAt (k := 0) rfl) e428) ?_
              refine RWP.store (ty := 0) (g := none) (by kernel_rfl) rfl (x := (.tmp 10)) (y := (.tmp 162)) (t := 25) (gg := true) (s := 3) (v := (.agg #[(.slice a0_0 x0.Tracks.length n0_0), (.slice aj163_0 j163.length nj163_0), (vi x0.Window)])) (b := b60) (o := 0) (C := #[(.slice a0_0 x0.Tracks.length n0_0), (.slice as68_1 s68.2.length ns68_1), (vi x0.Window)]) e426 rfl (by kernel_rfl) hs417 (k := 1) rfl rfl rfl rfl (C' := #[(.slice a0_0 x0.Tracks.length n0_0), (.slice aj163_0 j163.length nj163_0), (vi x0.Window)]) rfl (fun w452 (hs453 : HS w0 F0 w452 F19 [(sb b152 #[(.slice a0_0 x0.Tracks.length n0_0), (.slice aj163_0 j163.length nj163_0), (vi x0.Window)] 25), (sb b60 #[(.slice a0_0 x0.Tracks.length n0_0), (.slice aj163_0 j163.length nj163_0), (vi x0.Window)] 25), (sb b1 (kSystem x0 a0_0 n0_0 a0_1 n0_1) 25)]) => ?_)
              refine RWP.nil ?_
              refine blockQ_nrm ?_
              refine thenQ_nrm ?_
              refine Rg [0, 1, 2] ?_
              refine V 59 3 (mv 11 (vi s68.1) e427) ?_
              refine V 60 3 (run_add (t := 3) (t' := 3) (x := (.tmp 59)) (y := (.const (vi 1))) (k := .i64) (a := s68.1) (b := 1) rfl rfl) ?_
              refine V 11 3 (ma 60 (vi (W64 (s68.1 + 1)))) ?_
              refine RWP.nil ?_
              have hs454 : HS w0 F0 w452 F19 [(sb b60 #[(.slice a0_0 x0.Tracks.length n0_0), (.slice aj163_0 j163.length nj163_0), (vi x0.Window)] 25), (sb b1 (kSystem x0 a0_0 n0_0 a0_1 n0_1) 25)] := hs453.drop 0
              have hn455 := iter_next h451 hnx95
              exact ⟨m92, Nat.lt_succ_self _, ((W64 (s68.1 + 1)), j163), F19, aj163_0, nj163_0, hn455, hs454, ((((((((le71.trans le102).trans le150).trans le161).trans le283).trans le402).trans le405).trans le414).trans le418), e420, e421, e422, e423, e424, e425, e426, rfl, hb407, (SlA.mono hs406 (le414.trans le418))⟩
      ·have h456 := cond_f hb94 hb96
       refine CWP.exit (by kernel_rfl) ?_
       refine thenQ_ex ?_
       refine thenQ_ex ?_
       refine blockQ_hit rfl ?_
       have hs457 : HS w0 F0 w69 F6 [(sb b1 (kSystem x0 a0_0 n0_0 a0_1 n0_1) 25)] := hs70.drop 0
       have ho458 := iter_done h456 hnx95
       exact .inl ⟨rfl, (s68.1, s68.2), F6, ho458, hs457, le71, e72, e73, e74, e75, e76, e77⟩
     ·rintro f w81 ⟨s80, F7, rfl, hs82, le83, e84, e85, e86, e87, e88, e89⟩
      have h459 := k_done h67
      refine thenQ_nrm ?_
      refine Sq ?_
      refine Sq (Rg [0, 1, 2, 3, 4, 5, 6, 7] ?_)
      refine RWP.cut (fun f w => ∃ (F21 : Mem), HS w0 F0 w F21 [(sb b1 (kSystem x0 a0_0 n0_0 a0_1 n0_1) 25)] ∧ Mem.le F7 F21 ∧ f.d = [] ∧ f 1 = (.slice a1_0 x1.length n1_0) ∧ f 2 = (vi x2) ∧ f 3 = (.pointer (some ⟨b1, 0, none⟩)) ∧ f 7 = (.bool r4) ∧ f 8 = (.slice ar38_0_0 r38.1.length nr38_0_0) ∧ f 170 = (.bool ((decide (x2 < 0)) || (decide (x2 > (x1.length : Int)))))) ?_ ?_
      ·refine V 163 3 (mv 2 (vi x2) e86) ?_
       refine V 164 4 (run_lss (t := 3) (t' := 3) (x := (.tmp 163)) (y := (.const (vi 0))) (k := .i64) (a := x2) (b := 0) rfl rfl) ?_
       refine V 165 4 (mv 164 (.bool (decide (x2 < 0)))) ?_
       refine RWP.split (decide (x2 < 0)) (fun hb470 => ?_) (fun hb470 => ?_)
       ·refine Sk [166, 167, 168, 169] 2 false 165 hb470 ?_
        refine V 170 4 (p1 165 (.const (.bool true)) (.tmp 169) (.bool true) hb470) ?_
        exact RWP.nil ⟨rfl, F7, hs82, (Mem.le.refl _), e84, e85, e86, e87, e88, e89, (congrArg Value.bool (or_t hb470 (rfl)))⟩
       ·refine Vg 166 3 2 false 165 hb470 (mv 2 (vi x2) e86) ?_
        refine Vg 167 23 2 false 165 hb470 (mv 1 (.slice a1_0 x1.length n1_0) e85) ?_
        refine Vg 168 3 2 false 165 hb470 (ln 167 23 a1_0 x1.length n1_0 46 4 32) ?_
        refine Vg 169 4 2 false 165 hb470 (run_gtr (t := 3) (t' := 3) (x := (.tmp 166)) (y := (.tmp 168)) (k := .i64) (a := x2) (b := (x1.length : Int)) rfl rfl) ?_
        refine V 170 4 (p0 165 (.const (.bool true)) (.tmp 169) (.bool (decide (x2 > (x1.length : Int)))) hb470) ?_
        exact RWP.nil ⟨rfl, F7, hs82, (Mem.le.refl _), e84, e85, e86, e87, e88, e89, (congrArg Value.bool (or_f hb470 (rfl)))⟩
      ·rintro f w460 ⟨F21, hs461, le462, e463, e464, e465, e466, e467, e468, e469⟩
       refine thenQ_nrm ?_
       refine CWP.cond (t := ((decide (x2 < 0)) || (decide (x2 > (x1.length : Int))))) (by kernel_rfl) e469 (fun hb471 => ?_) (fun hb471 => ?_)
       ·have h472 := cond_t h459 hb471
        refine Sq (Rg [0, 1] ?_)
        refine V 171 4 (mv 7 (.bool r4) e467) ?_
        refine V 6 4 (ma 171 (.bool r4)) ?_
        refine Nt ?_
        refine CWP.ret (by kernel_rfl) ?_
        refine thenQ_ret ?_
        have hfin := some_inj h472
        subst hfin
        exact ⟨e463, (.bool r4), res_of (l := [.tmp 6]) (by kernel_rfl) (vs := [(.bool r4)]) ⟨rfl, trivial⟩, (.bool r4), F21, rfl, hs461.clear, rfl⟩
       ·have h473 := cond_f h459 hb471
        refine Sc ?_
        refine thenQ_nrm ?_
        refine Sq ?_
        obtain ⟨j479, hj486, h487⟩ := bind_some h473
        refine CWP.regionD (by kernel_rfl) (by kernel_rfl) (by kernel_rfl) (by kernel_rfl) (z := 11) (F := F21) (Lc := [(sb b1 (kSystem x0 a0_0 n0_0 a0_1 n0_1) 25)]) (Lz := []) (l := [false, false, false, false, false, false, false, false, false, false, false]) (fuel := 11) (by kernel_rfl) (by kernel_rfl) hs461 (by simp) (by simp) (fun f w => ∃ (F22 : Mem) (aj479_0 : Option Addr) (nj479_0 : Nat), HS w0 F0 w F22 [] ∧ Mem.le F21 F22 ∧ f.d = [] ∧ f 2 = (vi x2) ∧ f 7 = (.bool r4) ∧ f 8 = (.slice ar38_0_0 r38.1.length nr38_0_0) ∧ f 23 = (.slice aj479_0 j479.1.length nj479_0) ∧ f 24 = (vi j479.2) ∧ LC j479.1.length nj479_0 ∧ SlA tBool F22 aj479_0 j479.1) (fun wd474 hw475 => ?_) ?_
        ·refine Dt 0 173 25 _ (fun _ hq => ld 25 3 b1 0 true 3 (.agg (kSystem x0 a0_0 n0_0 a0_1 n0_1)) (hq.1.2 0 _ _ rfl) e466) ?_
         refine Dt 1 174 23 _ (fun _ hq => mv 1 (.slice a1_0 x1.length n1_0) e464) ?_
         refine Dt 2 175 3 _ (fun _ hq => mv 2 (vi x2) e465) ?_
         refine Dt 3 176 3 _ (fun _ hq => mv 2 (vi x2) e465) ?_
         obtain ⟨r488, hr489, h490⟩ := bind_some hj486
         obtain ⟨a491, n492, hb493, hs494, hrun495⟩ := part_val (P := Try.prog) (T := tTie) (lo := none) (hi := (some (.tmp 175))) (mx := (some (.tmp 176))) (t := 23) (E := 46) (by_ := 32) (c := n1_0) (a := a1_0) (l := x1) (r := r488) (il := 0) (ih := x2) (im := x2) (by kernel_rfl) (by kernel_rfl) hb1_0 (SlA.mono hs1_0 ((((le10.trans le14).trans le44).trans le83).trans le462)) (fun h => by first | rfl | cases h) hr489
         refine Dt 4 177 23 (.slice a491 r488.length n492) (fun _ hq => hrun495 (x := (.tmp 174)) rfl rfl rfl rfl) ?_
         refine DWP.one (i := 5) (by kernel_rfl) ?_
         obtain ⟨r496, hr497, h498⟩ := bind_some h490
         refine DStep.call (l' := [true, true, true, true, true, true, false, false, false, false, false]) (zd := true) (by kernel_rfl) (by kernel_rfl) (by kernel_rfl) (dst := (some 178)) (ty := 65) (g := none) (by kernel_rfl) rfl (f0 := (.func 42)) (aos := #[(.tmp 173), (.tmp 177)]) (ats := #[25, 23]) (fid := 42) (first := #[]) (cap := #[]) (args := [(.agg (kSystem x0 a0_0 n0_0 a0_1 n0_1)), (.slice a491 r488.length n492)]) rfl co_clocks_Accept (rfl) hw475 (c_clocks_Accept N wd474 F21 hw475.pers (x0) a0_0 n0_0 hb0_0 (SlA.mono hs0_0 ((((le10.trans le14).trans le44).trans le83).trans le462)) a0_1 n0_1 hb0_1 (SlA.mono hs0_1 ((((le10.trans le14).trans le44).trans le83).trans le462)) (r488) a491 n492 hb493 hs494 _ hr497) ?_
         intro v499 F23 w500 hs501 le502 hp503
         obtain ⟨ar496_0_0, nr496_0_0, rfl, hbr496_0_0, hsr496_0_0⟩ := hp503
         refine Dt 6 172 65 _ (fun _ hq => mv 178 (.tuple #[(.slice ar496_0_0 r496.1.length nr496_0_0), (vi r496.2)])) ?_
         refine Dt 7 179 64 _ (fun _ hq => ex 172 0 (.slice ar496_0_0 r496.1.length nr496_0_0) (vs := #[(.slice ar496_0_0 r496.1.length nr496_0_0), (vi r496.2)])) ?_
         refine Dt 8 180 30 _ (fun _ hq => ex 172 1 (vi r496.2) (vs := #[(.slice ar496_0_0 r496.1.length nr496_0_0), (vi r496.2)])) ?_
         refine Dt 9 23 64 _ (fun _ hq => ma 179 (.slice ar496_0_0 r496.1.length nr496_0_0)) ?_
         refine Dt 10 24 30 _ (fun _ hq => ma 180 (vi r496.2)) ?_
         obtain rfl := some_inj h498
         have hs504 : HS w0 F0 w500 F23 [] := hs501.drop 0
         exact DWP.done (by kernel_rfl) ⟨F23, ar496_0_0, nr496_0_0, hs504, le502, e463, e465, e467, e468, rfl, rfl, hbr496_0_0, hsr496_0_0⟩
        ·rintro f w476 ⟨F22, aj479_0, nj479_0, hs477, le478, e480, e481, e482, e483, e484, e485, hbj479_0, hsj479_0⟩
         refine thenQ_nrm ?_
         refine Sq (Rg [0, 1, 2, 3, 4, 5, 6, 7, 8, 9, 10, 11, 12, 13] ?_)
         obtain ⟨j508, hj511, h512⟩ := bind_some h487
         refine RWP.cut (fun f w => ∃ (F24 : Mem), HS w0 F0 w F24 [] ∧ Mem.le F22 F24 ∧ f.d = [] ∧ f 6 = (.bool j508)) ?_ ?_
         ·refine V 181 4 (mv 7 (.bool r4) e482) ?_
          refine V 182 4 (mv 181 (.bool r4)) ?_
          refine RWP.split r4 (fun hb513 => ?_) (fun hb513 => ?_)
          ·have h514 := cond_t hj511 hb513
           refine Vg 183 30 1 true 182 hb513 (mv 24 (vi j479.2) e485) ?_
           refine Vg 184 4 1 true 182 hb513 (run_eql (t := 30) (t' := 30) (x := (.tmp 183)) (y := (.const (vi 0))) (k := .i64) (a := j479.2) (b := 0) rfl rfl) ?_
           refine V 185 4 (p1 182 (.tmp 184) (.const (.bool false)) (.bool (j479.2 == 0)) hb513) ?_
           refine V 186 4 (mv 185 (.bool (j479.2 == 0))) ?_
           refine RWP.split (j479.2 == 0) (fun hb515 => ?_) (fun hb515 => ?_)
           ·have h516 := cond_t h514 hb515
            refine Vg 187 64 5 true 186 hb515 (mv 23 (.slice aj479_0 j479.1.length nj479_0) e484) ?_
            refine Vg 188 64 5 true 186 hb515 (mv 8 (.slice ar38_0_0 r38.1.length nr38_0_0) e483) ?_
            refine Vg 189 3 5 true 186 hb515 (mv 2 (vi x2) e481) ?_
            refine Vg 190 3 5 true 186 hb515 (mv 2 (vi x2) e481) ?_
            obtain ⟨r517, hr518, h519⟩ := bind_some h516
            obtain ⟨a520, n521, hb522, hs523, hrun524⟩ := part_val (P := Try.prog) (T := tBool) (lo := none) (hi := (some (.tmp 189))) (mx := (some (.tmp 190))) (t := 64) (E := 4) (by_ := 1) (c := nr38_0_0) (a := ar38_0_0) (l := r38.1) (r := r517) (il := 0) (ih := x2) (im := x2) (by kernel_rfl) (by kernel_rfl) hbr38_0_0 (SlA.mono hsr38_0_0 ((le83.trans le462).trans le478)) (fun h => by first | rfl | cases h) hr518
            refine Vg 191 64 5 true 186 hb515 (hrun524 (x := (.tmp 188)) rfl rfl rfl rfl) ?_
            obtain ⟨r525, hr526, h527⟩ := bind_some h519
            refine RWP.call (dst := (some 192)) (ty := 4) (g := (some (5, true))) (by kernel_rfl) (gd_y (d := 186) (by kernel_rfl) rfl hb515) (f0 := (.func 45)) (aos := #[(.tmp 187), (.tmp 191)]) (ats := #[64, 64]) (fid := 45) (first := #[]) (cap := #[]) (args := [(.slice aj479_0 j479.1.length nj479_0), (.slice a520 r517.length n521)]) rfl co_ref03_SameBools (rfl) hs477 (c_ref03_SameBools N w476 F22 hs477.pers (j479.1) aj479_0 nj479_0 hbj479_0 hsj479_0 (r517) a520 n521 hb522 hs523 _ hr526) ?_
            intro v528 F25 w529 hs530 le531 hp532
            obtain rfl := hp532
            refine V 193 4 (p1 186 (.tmp 192) (.const (.bool false)) (.bool r525) hb515) ?_
            refine V 6 4 (ma 193 (.bool r525)) ?_
            obtain rfl := some_inj h527
            exact RWP.nil ⟨rfl, F25, hs530, le531, e480, rfl⟩
           ·have h533 := cond_f h514 hb515
            refine Sk [187, 188, 189, 190, 191, 192] 5 true 186 hb515 ?_
            refine V 193 4 (p0 186 (.tmp 192) (.const (.bool false)) (.bool false) hb515) ?_
            refine V 6 4 (ma 193 (.bool false)) ?_
            obtain rfl := some_inj h533
            exact RWP.nil ⟨rfl, F22, hs477, (Mem.le.refl _), e480, rfl⟩
          ·have h534 := cond_f hj511 hb513
           refine Sk [183, 184] 1 true 182 hb513 ?_
           refine V 185 4 (p0 182 (.tmp 184) (.const (.bool false)) (.bool false) hb513) ?_
           refine V 186 4 (mv 185 (.bool false)) ?_
           refine Sk [187, 188, 189, 190, 191, 192] 5 true 186 rfl ?_
           refine V 193 4 (p0 186 (.tmp 192) (.const (.bool false)) (.bool false) rfl) ?_
           refine V 6 4 (ma 193 (.bool false)) ?_
           obtain rfl := some_inj h534
           exact RWP.nil ⟨rfl, F22, hs477, (Mem.le.refl _), e480, rfl⟩
         ·rintro f w505 ⟨F24, hs506, le507, e509, e510⟩
          refine thenQ_nrm ?_
          refine CWP.ret (by kernel_rfl) ?_
          have hfin := some_inj h512
          subst hfin
          exact ⟨e509, (.bool j508), res_of (l := [.tmp 6]) (by kernel_rfl) (vs := [(.bool j508)]) ⟨e510, trivial⟩, (.bool j508), F24, rfl, hs506.clear, rfl⟩
end Go.Proofs.Ythbcnabeabcmlaa
namespace Go.Proofs.Ythbcnabeabcmlaa
open BF
section
variable {N : Nat} {s : System}
theorem must_walk {m : System} (hms : more s m) {t : Tie} (hti : m.Ties = s.Ties ++ [t]) (hv : vCheck m = 0) (hc : Cls s) (h1 : dd s t.A t.B ≤ s.Window) (h2 : dd s t.B t.A ≤ s.Window) {x y : Ref} {n : Int} (hw : WK m x y n) :
  (Nd s x → dd s x y ≤ n) ∧ ((∃ e, e ∈ bnds m ∧ e.To = y) ∨ (x = y ∧ n = 0)) := by
 have hs := hms.valid hv
 have hnd : ∀ r, Nd m r → Nd s r := fun r hr => by
  rcases hr with rfl | hr
  ·exact .inl rfl
  ·exact .inr (by rw [← hms.has]; exact hr)
 have hbd : ∀ b, b ∈ bnds m → dd s b.From b.To ≤ b.Most := by
  intro b hb
  have hold : ∀ {b : Bound}, InB s b → dd s b.From b.To ≤ b.Most := fun hi => dd_bound hs hc ((mem_bnds hs).2 hi)
  have htie : ∀ {j : Nat} {t' : Tie}, m.Ties[j]? = some t' → s.Ties[j]? = some t' ∨ t' = t := fun {j t'} ht => by
   rw [hti] at ht
   rcases Nat.lt_or_ge j s.Ties.length with hlt | hge
   ·rw [List.getElem?_append_left hlt] at ht; exact .inl ht
   ·rw [List.getElem?_append_right hge] at ht
    have : j - s.Ties.length = 0 := by
     rcases Nat.eq_zero_or_pos (j - s.Ties.length) with h | h
     ·exact h
     ·rw [List.getElem?_eq_none (by simp; omega)] at ht; cases ht
    rw [this] at ht
    simp at ht
    exact .inr ht.symm
  have hW := hms.wi
  cases (mem_bnds hv).1 hb with
  | up ht hj => exact hold (.up (by rw [← hms.tr]; exact ht) hj)
  | down ht hj => exact hold (.down (by rw [← hms.tr]; exact ht) hj)
  | ord ht hj => exact hold (.ord (by rw [← hms.tr]; exact ht) hj)
  | fwd ht hj hn => exact hold (.fwd (by rw [← hms.tr]; exact ht) hj hn)
  | bwd ht hj hn => exact hold (.bwd (by rw [← hms.tr]; exact ht) hj hn)
  | tab ht =>
   simp only [hW]
   rcases htie ht with ht | rfl
   ·exact hold (.tab ht)
   ·exact h1
  | tba ht =>
   simp only [hW]
   rcases htie ht with ht | rfl
   ·exact hold (.tba ht)
   ·exact h2
 induction hw with
 | nil => exact ⟨fun _ => by rw [dd_self hc]; exact Int.le_refl _, .inr ⟨rfl, rfl⟩⟩
 | @snoc n e y hw he hsy ih =>
  refine ⟨fun hx => ?_, .inl ⟨e, he, rfl⟩⟩
  obtain ⟨n1, n2⟩ := bnd_ends hv he
  have h3 := ih.1 hx
  subst hsy
  have h4 := dd_tri hs hc hx (hnd _ n1) (hnd _ n2)
  have h5 := hbd e he
  omega
theorem must_closes {m : System} (hms : more s m) {t : Tie} (hti : m.Ties = s.Ties ++ [t]) (hv : vCheck m = 0) (hc : Cls s) (h1 : dd s t.A t.B ≤ s.Window) (h2 : dd s t.B t.A ≤ s.Window) : Cls m := by
 intro x n hw
 obtain ⟨k1, k2⟩ := must_walk hms hti hv hc h1 h2 hw
 rcases k2 with ⟨e, he, rfl⟩ | ⟨_, rfl⟩
 ·have hnd : Nd s e.To := by
   rcases (bnd_ends hv he).2 with h | h
   ·exact .inl h
   ·exact .inr (by rw [← hms.has]; exact h)
  have := k1 hnd
  rw [dd_self hc] at this
  exact this
 ·exact Int.le_refl _
theorem must_times {m : System} (hms : more s m) {t : Tie} (hti : m.Ties = s.Ties ++ [t]) (hv : vCheck m = 0) (hc : Cls s) (h1 : dd s t.A t.B ≤ s.Window) (h2 : dd s t.B t.A ≤ s.Window) : (vTimes m).1 = (vTimes s).1 := by
 have hs := hms.valid hv
 have hcm := must_closes hms hti hv hc h1 h2
 unfold vTimes
 rw [if_neg (show ¬ (vCheck m ≠ 0) by omega), if_neg (show ¬ (vCheck s ≠ 0) by omega), if_pos hcm, if_pos hc]
 have hdd : ∀ {a b : Ref}, Nd s a → Nd s b → dd m a b = dd s a b := fun {a b} ha hb => by
  have g1 := hms.dd_le hv hcm ha hb
  have g2 := (must_walk hms hti hv hc h1 h2 (dd_spec hv hcm (hms.nd ha) (hms.nd hb)).1).1 ha
  omega
 have e : eachL m (spanAt m) = eachL s (spanAt m) := by unfold eachL; rw [hms.tr]
 simp only
 rw [e]
 refine eachL_congr fun r hr => ?_
 unfold spanAt
 rw [hdd (.inr hr) (nd_beg s), hdd (nd_beg s) (.inr hr)]
open Classical in
theorem tried_true (hN : 1000000 ≤ N) (hf : FitS N s) {l : List Tie} (hl : Fit N l.length) (k : Int) : law03_ClocksTried N s l k = some true := by
 unfold law03_ClocksTried
 obtain ⟨fw, hfw⟩ := few_some hf
 rw [awake_at (by omega), hfw]
 simp only [Option.bind_some]
 cases fw with
 | false => rfl
 | true =>
  simp only [Bool.not_true, cond_false, Option.bind_some]
  by_cases h12 : (l.length : Int) > 12
  ·have : decide ((l.length : Int) > 12) = true := by simpa using h12
   rw [this]; rfl
  ·have : decide ((l.length : Int) > 12) = false := by simpa using h12
   rw [this, cond_false]
   have hsm : l.length ≤ 1000000 := by omega
   rw [Accept_c hN hf hl hsm, Option.bind_some]
   by_cases h0 : vOff s l true = 0
   ·obtain ⟨h, _, ht, hc, hlen⟩ := off_zero h0
    rw [if_neg (by omega)]
    have hal := accF_len s l
    have e2 : (((accF s l).2.length : Int) != (l.length : Int)) = false := by simp [hal]
    simp only [bne_self_eq_false, cond_false, e2]
    generalize hr38 : ((accF s l).2, (0 : Int)) = r38
    have hr1 : r38.1 = (accF s l).2 := by subst hr38; rfl
    obtain ⟨o, ho, q, rfl⟩ := iter_ex (body := law03_ClocksTried_L0 N s l k true false r38) l.length
     (fun i q => q = ((i : Int), (accF s (l.take i)).1)) (fun o => ∃ q, o = .done q) (by
     rintro i q hi rfl
     unfold law03_ClocksTried_L0
     simp only
     by_cases hlt : i < l.length
     ·left
      have g := good_acc h hc ht i (by omega)
      have hgl := g.len
      have hmem := ht _ (List.getElem_mem hlt)
      have hvT := sysT_valid h (T := (accF s (l.take i)).1) (by omega) g.tie
      have hfT : FitS N (sysT s (accF s (l.take i)).1) := sysT_fit hf (by omega) hN
      have hvM := g.snoc h hmem (by omega)
      have hfM : FitS N (sysT s ((accF s (l.take i)).1 ++ [l[i]])) := sysT_fit hf (by simp; omega) hN
      have hms : more (sysT s (accF s (l.take i)).1) (sysT s ((accF s (l.take i)).1 ++ [l[i]])) := ⟨rfl, ⟨[l[i]], rfl⟩, rfl⟩
      have hmm := hmem
      unfold vTie at hmm
      simp only [Bool.and_eq_true] at hmm
      obtain ⟨hA, hB, _⟩ := hmm
      have hask : ask (sysT s (accF s (l.take i)).1) [l[i].A, l[i].B] = 0 := ask_of hvT (fun r hr => by
       simp only [List.mem_cons, List.not_mem_nil, or_false] at hr
       rcases hr with rfl | rfl
       ·exact hA
       ·exact hB) g.cls
      have hat : idx r38.1 (i : Int) = some (decide (Cls (sysT s ((accF s (l.take i)).1 ++ [l[i]])))) := by rw [idx_nat', hr1, accF_at s hlt]
      have hmust := Must_c hN hfT l[i].A l[i].B
      rw [show sysT s (accF s (l.take i)).1 = ({ Tracks := s.Tracks, Ties := (accF s (l.take i)).1, Window := s.Window } : System) from rfl] at hmust
      rw [lt_t hlt, cond_true, idx_nat hlt]
      simp only [Option.bind_some, hmust]
      rw [show ({ Tracks := s.Tracks, Ties := (accF s (l.take i)).1, Window := s.Window } : System) = sysT s (accF s (l.take i)).1 from rfl]
      have hm2 : (vMust (sysT s (accF s (l.take i)).1) l[i].A l[i].B).2 = 0 := by unfold vMust; rw [rel_val hask]
      have hm1 : (vMust (sysT s (accF s (l.take i)).1) l[i].A l[i].B).1 = true → dd (sysT s (accF s (l.take i)).1) l[i].A l[i].B ≤ (sysT s (accF s (l.take i)).1).Window ∧ dd (sysT s (accF s (l.take i)).1) l[i].B l[i].A ≤ (sysT s (accF s (l.take i)).1).Window := by
       intro hm
       unfold vMust at hm
       rw [rel_val hask] at hm
       unfold relAt at hm
       obtain ⟨_, _, _, w1, w2, _⟩ := check_ok hvT
       rw [W64_id (by omega) (by omega)] at hm
       simp only [beq_self_eq_true, Bool.true_and, Bool.and_eq_true, decide_eq_true_eq] at hm
       omega
      have hapnd : ((apnd ([] : List Tie) (accF s (l.take i)).1).bind fun r198 => ((apnd r198 [l[i]]).bind fun r212 => some r212)) = some ((accF s (l.take i)).1 ++ [l[i]]) := by
       rw [apnd_ok (by simp; omega), Option.bind_some, apnd_ok (by simp; omega)]; rfl
      have hin : inr (i : Int) 0 (W64 ((l.length : Int) - 1)) = true := by
       rw [W64_id (by omega) (by omega)]; unfold inr; simp; omega
      have tN := Times_c hN hfT
      have tM := Times_c hN hfM
      rw [W64_succ (by omega)]
      rcases Refusal_c hN hf hl hsm (i : Int) with ⟨h1, h2⟩ | ⟨h1, k', hk', hkl, h2⟩
      ·rw [hin] at h1; exact absurd h0 h1
      ·have hkk : k' = i := by omega
       subst hkk
       rcases h2 with ⟨h3, h4⟩ | ⟨h3, c, h4, h5, h6⟩
       ·rw [h4, Option.bind_some, hapnd, Option.bind_some, hat, hm2]
        simp only [bne_self_eq_false, cond_false, Option.bind_some, h3, decide_true, Bool.not_true, beq_self_eq_true]
        rw [show ({ Tracks := s.Tracks, Ties := (accF s (l.take k')).1 ++ [l[k']], Window := s.Window } : System) = sysT s ((accF s (l.take k')).1 ++ [l[k']]) from rfl, tN, tM]
        have z1 : (vTimes (sysT s (accF s (l.take k')).1)).2 = 0 := by rw [times_ok' hvT g.cls]
        have z2 : (vTimes (sysT s ((accF s (l.take k')).1 ++ [l[k']]))).2 = 0 := by rw [times_ok' hvM h3]
        refine ⟨((k' + 1 : Nat), (accF s (l.take k')).1 ++ [l[k']]), ?_, ?_, hlt⟩
        ·cases hmu : (vMust (sysT s (accF s (l.take k')).1) l[k'].A l[k'].B).1 with
         | false => simp [z1, z2]
         | true =>
          obtain ⟨d1, d2⟩ := hm1 hmu
          have ht2 := must_times hms (t := l[k']) rfl hvM g.cls d1 d2
          have ss := sameSpans_self hN (small_times (sysT s (accF s (l.take k')).1))
          simp [z1, z2, ht2, ss]
        ·rw [accF_take s hlt]
         unfold accStep
         rw [if_pos h3]
       ·rw [h4, Option.bind_some, hapnd, Option.bind_some, hat, hm2]
        have hmu : (vMust (sysT s (accF s (l.take k')).1) l[k'].A l[k'].B).1 = false := by
         cases hmu : (vMust (sysT s (accF s (l.take k')).1) l[k'].A l[k'].B).1 with
         | false => rfl
         | true =>
          obtain ⟨d1, d2⟩ := hm1 hmu
          exact absurd (must_closes hms (t := l[k']) rfl hvM g.cls d1 d2) h3
        have e5 : ((0 : Int) == 3) = false := by decide
        have hvl := ValidLoop_c hfM (c := c) ⟨by omega, by omega⟩
        rw [bad_loop hvM h5 (by omega)] at hvl
        rw [show sysT s ((accF s (l.take k')).1 ++ [l[k']]) = ({ Tracks := s.Tracks, Ties := (accF s (l.take k')).1 ++ [l[k']], Window := s.Window } : System) from rfl] at hvl
        simp only [bne_self_eq_false, cond_false, hmu, Option.bind_some, h3, decide_false, Bool.not_false, e5, beq_self_eq_true, Bool.not_true, hvl, cond_true, Bool.or_self]
        refine ⟨_, rfl, ?_, hlt⟩
        rw [accF_take s hlt]
        unfold accStep
        rw [if_neg h3]
     ·have : i = l.length := by omega
      subst this
      right
      rw [lt_f, cond_false]
      exact ⟨_, rfl, (fun _ h => by cases h), _, rfl⟩) l.length N 0 (0, s.Ties) (by omega) rfl hl.2
    rw [ho]
    simp only [Option.bind_some, Flow.k]
    by_cases hk : k < 0 ∨ k > (l.length : Int)
    ·have e3 : (decide (k < 0) || decide (k > (l.length : Int))) = true := by simpa using hk
     rw [e3]; rfl
    ·have e3 : (decide (k < 0) || decide (k > (l.length : Int))) = false := by simpa using hk
     obtain ⟨n, rfl⟩ : ∃ n : Nat, k = (n : Int) := ⟨k.toNat, by omega⟩
     have hn : n ≤ l.length := by omega
     have s3 : ∀ {α : Type} (x : List α), n ≤ x.length → sub3 x 0 (n : Int) (n : Int) = some (x.take n) := fun x hx => by
      unfold sub3; rw [if_pos (by omega), sub_take hx]
     have hp0 : vOff s (l.take n) true = 0 := off_of h (fun t hm => ht t (List.mem_of_mem_take hm)) hc (by simp; omega)
     rw [e3, cond_false, s3 l hn, Option.bind_some, Accept_c hN hf (l := l.take n) ⟨by simp; omega, by simp; omega⟩ (by simp; omega), Option.bind_some, if_neg (by omega)]
     rw [s3 _ (by rw [hal]; exact hn), ← accF_bools s l n hn]
     have := sameBools_self hN (l := (accF s (l.take n)).2) (by rw [accF_len]; simp; omega)
     simp only [Option.bind_some, beq_self_eq_true, cond_true, this]
   ·rw [if_pos h0]
    have e : (vOff s l true != 0) = true := by simpa using h0
    simp only [e, cond_true]
    rfl
end
theorem tried_row (s : System) (l : List Tie) (i : Int) (q : qSystem s) (p : l.length < 9223372036854775808 ∧ ∀ x, x ∈ l → qTie x) (_ : rI i) : law03_ClocksTried NN s l i = some true := tried_true (by decide) (fitS q) (fitL p) i
end Go.Proofs.Ythbcnabeabcmlaa
namespace Go.Proofs.Ythbcnabeabcmlaa
open Go.ChangeShapes Go.WideShapes Go.ChangeAt Go.RowKit
set_option maxRecDepth 100000 in
theorem lifted_clocksTried (os : Os) (started : os.Started) (H : Type) (enc : TypeId × Value → H) :
  ReturnsInHanded {} Try.checked os 10 .any (Rows.clocksTriedSpec.pre6 enc Try.prog Try.f10 Rows.clocksTriedRow.domain false) (Rows.clocksTriedSpec.post enc Try.prog Try.f10 false true false false) := by
 refine returnsInHanded_of_change (C := Try.checked) (by kernel_rfl) started (by kernel_rfl) Try.func10
  (ChangeSpec.witness6 (enc := enc) (C := Try.checked) false ⟨#[], #[.agg #[.slice none 0 0, .slice none 0 0, .int .i64 0], .slice none 0 0, .int .i64 0], []⟩ 8 (by kernel_rfl) (by kernel_rfl) (by kernel_rfl) (by kernel_rfl)) ?_
 intro W base args ds gs before hval0 hW hcnd _
 have hval : ∀ (j : Nat) t v, Try.f10.params[j]? = some t → args[j]? = some v → Value.okWide Try.prog W .any base t v := hval0
 have hW' := hW
 obtain ⟨p, q, hA0, hV, rfl, hfz, hnd⟩ := hW
 have hA : DataW.TrodAll enc Try.prog W 0 (fun _ => true) true Try.f10.params.toList args.toList ds p := hA0
 rw [Try.params10] at hA hval
 obtain ⟨v0, vs0, d0, ds0, p0, q0, hargs, rfl, rfl, h0, r0⟩ := trodAll_cons hA
 obtain ⟨v1, vs1, d1, ds1, p1, q1, rfl, rfl, rfl, h1, r1⟩ := trodAll_cons r0
 obtain ⟨v2, vs2, d2, ds2, p2, q2, rfl, rfl, rfl, h2, r2⟩ := trodAll_cons r1
 obtain ⟨rfl, rfl, rfl⟩ := trodAll_nil r2
 obtain rfl : args = #[v0, v1, v2] := by cases args; simp_all
 obtain ⟨cs0, x0, rfl, R0, Q0⟩ := Opens.agg opens_System_25 (by kernel_rfl) (hval 0 25 v0 rfl rfl) h0
 obtain ⟨a0_0, n0_0, a0_1, n0_1, e0, hb0_0, hs0_0, hb0_1, hs0_1⟩ := R0
 obtain rfl : cs0 = #[.slice a0_0 x0.Tracks.length n0_0, .slice a0_1 x0.Ties.length n0_1, .int .i64 x0.Window] := Array.ext' (by exact e0)
 obtain ⟨x1, R1, Q1⟩ := Opens.one (opens_slice (t := 23) opens_Tie_46 (by decide) (by kernel_rfl) (by kernel_rfl) : Opens Try.prog 23 (tSl tTie) _) (by kernel_rfl) (hval 1 23 v1 rfl rfl) h1
 obtain ⟨a1_0, n1_0, e1, hb1_0, hs1_0⟩ := R1
 obtain rfl : v1 = .slice a1_0 x1.length n1_0 := by cases e1; rfl
 obtain ⟨x2, R2, Q2⟩ := Opens.one (opens_int (t := 3) (by kernel_rfl) (by kernel_rfl) : Opens Try.prog 3 tInt rI) (by kernel_rfl) (hval 2 3 v2 rfl rfl) h2
 have e2 : [v2] = [.int .i64 x2] := R2
 cases e2
 refine (c_law03_ClocksTried 9223372036854775808 W (memOf W) (fun _ _ h => h) x0 a0_0 n0_0 hb0_0 hs0_0 a0_1 n0_1 hb0_1 hs0_1 x1 a1_0 n1_0 hb1_0 hs1_0 x2 true (tried_row x0 x1 x2 Q0 Q1 Q2)).mono fun e W' he => ?_
 obtain ⟨r, F', rfl, hs, rfl⟩ := he
 refine ⟨_, rfl, post_grown (by kernel_rfl) (tb := 4) ?_ rfl hW' (by kernel_rfl) (by kernel_rfl) ?_ hs⟩
 ·intro t ht
  rw [Try.params10] at ht
  simp only [List.mem_cons, List.not_mem_nil, or_false] at ht
  rcases ht with rfl | rfl | rfl <;> exact ⟨by kernel_rfl, by decide +kernel⟩
 ·intro _; rfl
theorem clocksTried_proved : Rows.ClocksTriedSaid :=
 OpenClaim.holds_of_wide 10 Try.f10 rfl rfl rfl rfl rfl rfl rfl ⟨rfl, rfl, rfl, rfl, rfl⟩ rfl rfl rfl rfl rfl (by kernel_rfl) Try.func10 (by kernel_rfl)
  (of_decide_eq_true (by kernel_rfl)) (by unfold Func.isWrapper; first | (rw [if_pos (by decide +kernel)]; kernel_rfl) | (rw [if_neg (by decide +kernel)]; exact ⟨rfl, rfl⟩))
  (fun os started H enc _ => lifted_clocksTried os started H enc)
end Go.Proofs.Ythbcnabeabcmlaa
