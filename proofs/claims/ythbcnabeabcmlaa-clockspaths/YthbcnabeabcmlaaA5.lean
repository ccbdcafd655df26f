/- ClocksPaths: for every input the law returns true, and each argument reads afterwards as it read before. No condition. -/
import Derived.Test.YthbcnabeabcmlaaA4
set_option linter.unusedVariables false
set_option linter.unusedSimpArgs false
set_option linter.unusedSectionVars false
namespace Go.Proofs.Ythbcnabeabcmlaa
open Go.Proofs
def law03_few_L0 (N : Nat) (x0 : System) : (Int × Int) → Option (Flow Bool (Int × Int)) := fun s7 =>
 (bif (decide (s7.2 < (x0.Tracks.length : Int))) then ((idx x0.Tracks s7.2).bind fun x30 => ((idx x0.Tracks s7.2).bind fun x44 => (bif (decide ((x44.Clock.Jumps.length : Int) > 40)) then some (.ret false) else some (.next ((W64 (s7.1 + (x30.Times.length : Int))), (W64 (s7.2 + 1))))))) else some (.done (s7.1, s7.2)))
def law03_few (N : Nat) (x0 : System) : Option Bool :=
 ((iter (law03_few_L0 N x0) N (0, 0)).bind fun o => o.k (fun r => some r) (fun s15 => some ((decide (s15.1 ≤ 40)) && ((decide ((x0.Tracks.length : Int) ≤ 100)) && ((decide ((x0.Ties.length : Int) ≤ 30)) || ((decide ((x0.Ties.length : Int) > 400)) && (decide ((x0.Ties.length : Int) ≤ 500))))))))
theorem co_law03_few : CallOk Try.prog 16 := fun _ _ => by kernel_rfl
set_option maxHeartbeats 4000000 in
set_option maxRecDepth 100000 in
theorem c_law03_few (N : Nat) (w0 : World) (F0 : Mem) (hF : ∀ b o, F0 b = some o → w0.heap[b]? = some o) (x0 : System) (a0_0 : Option Addr) (n0_0 : Nat) (hb0_0 : LC x0.Tracks.length n0_0) (hs0_0 : SlA tTrack F0 a0_0 x0.Tracks) (a0_1 : Option Addr) (n0_1 : Nat) (hb0_1 : LC x0.Ties.length n0_1) (hs0_1 : SlA tTie F0 a0_1 x0.Ties) (r : Bool) (h : law03_few N x0 = some r) :
  Calls Try.prog 16 ([(.agg (kSystem x0 a0_0 n0_0 a0_1 n0_1))] : List Value).toArray w0 (FRet w0 F0 fun F' v => v = (.bool r)) := by
 have hs0 := HS.start hF
 refine calls_of (n := 56) (c := bodyOf Try.f16) Try.func16 (by kernel_rfl) (by kernel_rfl) (by kernel_rfl) ?_
 refine Sq (Rg [0, 1] ?_)
 refine Bx 1 0 0 25 (kSystem x0 a0_0 n0_0 a0_1 n0_1) hs0 (fun b1 w2 (hs3 : HS w0 F0 w2 F0 [(sb b1 (kSystem x0 a0_0 n0_0 a0_1 n0_1) 25)]) => ?_)
 refine V 2 4 (mc (.bool false) (.bool false)) ?_
 refine Nss (Rg [0] ?_)
 refine V 3 3 (mc (vi 0) (vi 0)) ?_
 refine Nss ?_
 refine Sq (Rg [0] ?_)
 refine V 4 3 (mc (vi 0) (vi 0)) ?_
 refine Nt ?_
 obtain ⟨o4, ho5, h6⟩ := bind_some h
 refine CWP.cut (fun f w => ∃ (s15 : (Int × Int)) (F2 : Mem), o4 = .done s15 ∧ HS w0 F0 w F2 [(sb b1 (kSystem x0 a0_0 n0_0 a0_1 n0_1) 25)] ∧ Mem.le F0 F2 ∧ f.d = [] ∧ f 1 = (.pointer (some ⟨b1, 0, none⟩)) ∧ f 3 = (vi s15.1)) ?_ ?_
 ·refine Bk ?_
  refine CWP.loop (by kernel_rfl) (fun m f w => ∃ (s7 : (Int × Int)) (F1 : Mem), iter (law03_few_L0 N x0) m s7 = some o4 ∧ HS w0 F0 w F1 [(sb b1 (kSystem x0 a0_0 n0_0 a0_1 n0_1) 25)] ∧ Mem.le F0 F1 ∧ f.d = [] ∧ f 1 = (.pointer (some ⟨b1, 0, none⟩)) ∧ f 3 = (vi s7.1) ∧ f 4 = (vi s7.2)) N ⟨(0, 0), F0, ho5, hs3, (Mem.le.refl _), rfl, rfl, rfl, rfl⟩ ?_
  rintro m22 f w8 ⟨s7, F1, hit23, hs9, le10, e11, e12, e13, e14⟩
  obtain ⟨m24, fl25, rfl, hb26, hnx27⟩ := iter_step hit23
  refine Sq ?_
  refine Sq (Rg [0, 1, 2, 3, 4] ?_)
  refine V 5 3 (mv 4 (vi s7.2) e14) ?_
  refine V 6 0 (fa 25 1 0 0 1 b1 0 0 e12) ?_
  refine V 7 22 (ld 22 6 b1 0 false 1 (.slice a0_0 x0.Tracks.length n0_0) (hs9.ownAt (k := 0) rfl)) ?_
  refine V 8 3 (ln 7 22 a0_0 x0.Tracks.length n0_0 54 4 64) ?_
  refine V 9 4 (run_lss (t := 3) (t' := 3) (x := (.tmp 5)) (y := (.tmp 8)) (k := .i64) (a := s7.2) (b := (x0.Tracks.length : Int)) rfl rfl) ?_
  refine Nt ?_
  refine CWP.cond (t := (decide (s7.2 < (x0.Tracks.length : Int)))) (by kernel_rfl) rfl (fun hb28 => ?_) (fun hb28 => ?_)
  ·have h29 := cond_t hb26 hb28
   refine Sc ?_
   refine thenQ_nrm ?_
   refine Sq ?_
   refine Bk ?_
   refine Sq (Rg [0, 1, 2, 3, 4, 5, 6, 7, 8, 9] ?_)
   refine V 12 3 (mv 3 (vi s7.1) e13) ?_
   refine V 13 0 (fa 25 1 0 0 1 b1 0 0 e12) ?_
   refine V 14 22 (ld 22 13 b1 0 false 1 (.slice a0_0 x0.Tracks.length n0_0) (hs9.ownAt (k := 0) rfl)) ?_
   refine V 15 3 (mv 4 (vi s7.2) e14) ?_
   obtain ⟨x30, hx31, h33⟩ := bind_some h29
   obtain ⟨hi32, hx31'⟩ := idx_spec hx31
   obtain ⟨b34, o35, C36, E37, fz38, rfl, hF40, hE41⟩ := SlA.open (SlA.mono hs0_0 le10) hx31'
   obtain ⟨ae42_2, ne42_2, ae42_3, ne42_3, hc43, hbe42_2, hse42_2, hbe42_3, hse42_3⟩ := hE41 _ _ hx31'
   refine V 16 0 (ix 22 14 15 b34 o35 54 4 64 hi32) ?_
   refine V 17 0 (fa 54 16 1 3 1 b34 (o35 + (s7.2 : Int).toNat * 4) ((o35 + (s7.2 : Int).toNat * 4) + 3)) ?_
   refine V 18 50 (lx 50 17 3 4 false 1 (.slice ae42_3 x30.Times.length ne42_3) (hs9.pers _ _ hF40) hc43) ?_
   refine V 19 3 (ln 18 50 ae42_3 x30.Times.length ne42_3 3 1 8) ?_
   refine V 20 3 (run_add (t := 3) (t' := 3) (x := (.tmp 12)) (y := (.tmp 19)) (k := .i64) (a := s7.1) (b := (x30.Times.length : Int)) rfl rfl) ?_
   refine V 3 3 (ma 20 (vi (W64 (s7.1 + (x30.Times.length : Int))))) ?_
   refine Nss (Rg [0, 1, 2, 3, 4, 5, 6, 7, 8] ?_)
   refine V 21 0 (fa 25 1 0 0 1 b1 0 0 e12) ?_
   refine V 22 22 (ld 22 21 b1 0 false 1 (.slice (some ⟨b34, o35, none⟩) x0.Tracks.length n0_0) (hs9.ownAt (k := 0) rfl)) ?_
   refine V 23 3 (mv 4 (vi s7.2) e14) ?_
   obtain ⟨x44, hx45, h47⟩ := bind_some h33
   obtain ⟨hi46, hx45'⟩ := idx_spec hx45
   obtain ⟨ae48_2, ne48_2, ae48_3, ne48_3, hc49, hbe48_2, hse48_2, hbe48_3, hse48_3⟩ := hE41 _ _ hx45'
   refine V 24 0 (ix 22 22 23 b34 o35 54 4 64 hi46) ?_
   refine V 25 0 (fa 54 24 0 0 3 b34 (o35 + (s7.2 : Int).toNat * 4) (o35 + (s7.2 : Int).toNat * 4)) ?_
   refine V 26 0 (fa 52 25 2 2 1 b34 (o35 + (s7.2 : Int).toNat * 4) ((o35 + (s7.2 : Int).toNat * 4) + 2)) ?_
   refine V 27 50 (lx 50 26 2 4 false 1 (.slice ae48_2 x44.Clock.Jumps.length ne48_2) (hs9.pers _ _ hF40) hc49) ?_
   refine V 28 3 (ln 27 50 ae48_2 x44.Clock.Jumps.length ne48_2 3 1 8) ?_
   refine V 29 4 (run_gtr (t := 3) (t' := 3) (x := (.tmp 28)) (y := (.const (vi 40))) (k := .i64) (a := (x44.Clock.Jumps.length : Int)) (b := 40) rfl rfl) ?_
   refine Nt ?_
   refine CWP.cond (t := (decide ((x44.Clock.Jumps.length : Int) > 40))) (by kernel_rfl) rfl (fun hb50 => ?_) (fun hb50 => ?_)
   ·have h51 := cond_t h47 hb50
    refine Sq (Rg [0] ?_)
    refine V 2 4 (mc (.bool false) (.bool false)) ?_
    refine Nt ?_
    refine CWP.ret (by kernel_rfl) ?_
    refine blockQ_ret ?_
    refine thenQ_ret ?_
    refine thenQ_ret ?_
    refine blockQ_ret ?_
    have hret := iter_ret h51 hnx27
    subst hret
    refine .inr ?_
    refine thenQ_ret ?_
    have hfin := some_inj h6
    subst hfin
    exact ⟨e11, (.bool false), res_of (l := [.tmp 2]) (by kernel_rfl) (vs := [(.bool false)]) ⟨rfl, trivial⟩, (.bool false), F1, rfl, hs9.clear, rfl⟩
   ·have h52 := cond_f h47 hb50
    refine Sc ?_
    refine blockQ_nrm ?_
    refine thenQ_nrm ?_
    refine Rg [0, 1, 2] ?_
    refine V 10 3 (mv 4 (vi s7.2) e14) ?_
    refine V 11 3 (run_add (t := 3) (t' := 3) (x := (.tmp 10)) (y := (.const (vi 1))) (k := .i64) (a := s7.2) (b := 1) rfl rfl) ?_
    refine V 4 3 (ma 11 (vi (W64 (s7.2 + 1)))) ?_
    refine RWP.nil ?_
    have hn53 := iter_next h52 hnx27
    exact ⟨m24, Nat.lt_succ_self _, ((W64 (s7.1 + (x30.Times.length : Int))), (W64 (s7.2 + 1))), F1, hn53, hs9, le10, e11, e12, rfl, rfl⟩
  ·have h54 := cond_f hb26 hb28
   refine CWP.exit (by kernel_rfl) ?_
   refine thenQ_ex ?_
   refine thenQ_ex ?_
   refine blockQ_hit rfl ?_
   have ho55 := iter_done h54 hnx27
   exact .inl ⟨rfl, (s7.1, s7.2), F1, ho55, hs9, le10, e11, e12, e13⟩
 ·rintro f w16 ⟨s15, F2, rfl, hs17, le18, e19, e20, e21⟩
  have h56 := k_done h6
  refine thenQ_nrm ?_
  refine Sq (Rg [0, 1, 2, 3, 4, 5, 6, 7, 8, 9, 10, 11, 12, 13, 14, 15, 16, 17, 18, 19, 20, 21, 22, 23, 24, 25, 26] ?_)
  refine RWP.cut (fun f w => ∃ (F3 : Mem), HS w0 F0 w F3 [] ∧ Mem.le F2 F3 ∧ f.d = [] ∧ f 2 = (.bool ((decide (s15.1 ≤ 40)) && ((decide ((x0.Tracks.length : Int) ≤ 100)) && ((decide ((x0.Ties.length : Int) ≤ 30)) || ((decide ((x0.Ties.length : Int) > 400)) && (decide ((x0.Ties.length : Int) ≤ 500)))))))) ?_ ?_
  ·refine V 30 3 (mv 3 (vi s15.1) e21) ?_
   refine V 31 4 (run_leq (t := 3) (t' := 3) (x := (.tmp 30)) (y := (.const (vi 40))) (k := .i64) (a := s15.1) (b := 40) rfl rfl) ?_
   refine V 32 4 (mv 31 (.bool (decide (s15.1 ≤ 40)))) ?_
   refine RWP.split (decide (s15.1 ≤ 40)) (fun hb62 => ?_) (fun hb62 => ?_)
   ·refine Vg 33 0 2 true 32 hb62 (fa 25 1 0 0 1 b1 0 0 e20) ?_
    refine Vg 34 22 2 true 32 hb62 (ld 22 33 b1 0 false 1 (.slice a0_0 x0.Tracks.length n0_0) (hs17.ownAt (k := 0) rfl)) ?_
    refine Vg 35 3 2 true 32 hb62 (ln 34 22 a0_0 x0.Tracks.length n0_0 54 4 64) ?_
    refine Vg 36 4 2 true 32 hb62 (run_leq (t := 3) (t' := 3) (x := (.tmp 35)) (y := (.const (vi 100))) (k := .i64) (a := (x0.Tracks.length : Int)) (b := 100) rfl rfl) ?_
    refine V 37 4 (p1 32 (.tmp 36) (.const (.bool false)) (.bool (decide ((x0.Tracks.length : Int) ≤ 100))) hb62) ?_
    refine V 38 4 (mv 37 (.bool (decide ((x0.Tracks.length : Int) ≤ 100)))) ?_
    refine RWP.split (decide ((x0.Tracks.length : Int) ≤ 100)) (fun hb63 => ?_) (fun hb63 => ?_)
    ·refine Vg 39 0 8 true 38 hb63 (fa 25 1 1 1 1 b1 0 1 e20) ?_
     refine Vg 40 23 8 true 38 hb63 (ld 23 39 b1 1 false 1 (.slice a0_1 x0.Ties.length n0_1) (hs17.ownAt (k := 0) rfl)) ?_
     refine Vg 41 3 8 true 38 hb63 (ln 40 23 a0_1 x0.Ties.length n0_1 46 4 32) ?_
     refine Vg 42 4 8 true 38 hb63 (run_leq (t := 3) (t' := 3) (x := (.tmp 41)) (y := (.const (vi 30))) (k := .i64) (a := (x0.Ties.length : Int)) (b := 30) rfl rfl) ?_
     refine Vg 43 4 8 true 38 hb63 (mv 42 (.bool (decide ((x0.Ties.length : Int) ≤ 30)))) ?_
     refine RWP.split (decide ((x0.Ties.length : Int) ≤ 30)) (fun hb64 => ?_) (fun hb64 => ?_)
     ·refine Sk [44, 45, 46, 47, 48] 13 false 43 hb64 ?_
      refine Su [49, 50, 51, 52] 18 true 48 ?_
      refine Sk [53] 13 false 43 hb64 ?_
      refine Vg 54 4 8 true 38 hb63 (p1 43 (.const (.bool true)) (.tmp 53) (.bool true) hb64) ?_
      refine V 55 4 (p1 38 (.tmp 54) (.const (.bool false)) (.bool true) hb63) ?_
      refine V 2 4 (ma 55 (.bool true)) ?_
      have hs65 : HS w0 F0 w16 F2 [] := hs17.drop 0
      exact RWP.nil ⟨rfl, F2, hs65, (Mem.le.refl _), e19, (congrArg Value.bool (and_t hb62 (and_t hb63 (or_t hb64 (rfl)))))⟩
     ·refine Vg 44 0 13 false 43 hb64 (fa 25 1 1 1 1 b1 0 1 e20) ?_
      refine Vg 45 23 13 false 43 hb64 (ld 23 44 b1 1 false 1 (.slice a0_1 x0.Ties.length n0_1) (hs17.ownAt (k := 0) rfl)) ?_
      refine Vg 46 3 13 false 43 hb64 (ln 45 23 a0_1 x0.Ties.length n0_1 46 4 32) ?_
      refine Vg 47 4 13 false 43 hb64 (run_gtr (t := 3) (t' := 3) (x := (.tmp 46)) (y := (.const (vi 400))) (k := .i64) (a := (x0.Ties.length : Int)) (b := 400) rfl rfl) ?_
      refine Vg 48 4 13 false 43 hb64 (mv 47 (.bool (decide ((x0.Ties.length : Int) > 400)))) ?_
      refine RWP.split (decide ((x0.Ties.length : Int) > 400)) (fun hb66 => ?_) (fun hb66 => ?_)
      ·refine Vg 49 0 18 true 48 hb66 (fa 25 1 1 1 1 b1 0 1 e20) ?_
       refine Vg 50 23 18 true 48 hb66 (ld 23 49 b1 1 false 1 (.slice a0_1 x0.Ties.length n0_1) (hs17.ownAt (k := 0) rfl)) ?_
       refine Vg 51 3 18 true 48 hb66 (ln 50 23 a0_1 x0.Ties.length n0_1 46 4 32) ?_
       refine Vg 52 4 18 true 48 hb66 (run_leq (t := 3) (t' := 3) (x := (.tmp 51)) (y := (.const (vi 500))) (k := .i64) (a := (x0.Ties.length : Int)) (b := 500) rfl rfl) ?_
       refine Vg 53 4 13 false 43 hb64 (p1 48 (.tmp 52) (.const (.bool false)) (.bool (decide ((x0.Ties.length : Int) ≤ 500))) hb66) ?_
       refine Vg 54 4 8 true 38 hb63 (p0 43 (.const (.bool true)) (.tmp 53) (.bool (decide ((x0.Ties.length : Int) ≤ 500))) hb64) ?_
       refine V 55 4 (p1 38 (.tmp 54) (.const (.bool false)) (.bool (decide ((x0.Ties.length : Int) ≤ 500))) hb63) ?_
       refine V 2 4 (ma 55 (.bool (decide ((x0.Ties.length : Int) ≤ 500)))) ?_
       have hs67 : HS w0 F0 w16 F2 [] := hs17.drop 0
       exact RWP.nil ⟨rfl, F2, hs67, (Mem.le.refl _), e19, (congrArg Value.bool (and_t hb62 (and_t hb63 (or_f hb64 (and_t hb66 (rfl))))))⟩
      ·refine Sk [49, 50, 51, 52] 18 true 48 hb66 ?_
       refine Vg 53 4 13 false 43 hb64 (p0 48 (.tmp 52) (.const (.bool false)) (.bool false) hb66) ?_
       refine Vg 54 4 8 true 38 hb63 (p0 43 (.const (.bool true)) (.tmp 53) (.bool false) hb64) ?_
       refine V 55 4 (p1 38 (.tmp 54) (.const (.bool false)) (.bool false) hb63) ?_
       refine V 2 4 (ma 55 (.bool false)) ?_
       have hs68 : HS w0 F0 w16 F2 [] := hs17.drop 0
       exact RWP.nil ⟨rfl, F2, hs68, (Mem.le.refl _), e19, (congrArg Value.bool (and_t hb62 (and_t hb63 (or_f hb64 (and_f hb66 (rfl))))))⟩
    ·refine Sk [39, 40, 41, 42, 43] 8 true 38 hb63 ?_
     refine Su [44, 45, 46, 47, 48] 13 false 43 ?_
     refine Su [49, 50, 51, 52] 18 true 48 ?_
     refine Su [53] 13 false 43 ?_
     refine Sk [54] 8 true 38 hb63 ?_
     refine V 55 4 (p0 38 (.tmp 54) (.const (.bool false)) (.bool false) hb63) ?_
     refine V 2 4 (ma 55 (.bool false)) ?_
     have hs69 : HS w0 F0 w16 F2 [] := hs17.drop 0
     exact RWP.nil ⟨rfl, F2, hs69, (Mem.le.refl _), e19, (congrArg Value.bool (and_t hb62 (and_f hb63 (rfl))))⟩
   ·refine Sk [33, 34, 35, 36] 2 true 32 hb62 ?_
    refine V 37 4 (p0 32 (.tmp 36) (.const (.bool false)) (.bool false) hb62) ?_
    refine V 38 4 (mv 37 (.bool false)) ?_
    refine Sk [39, 40, 41, 42, 43] 8 true 38 rfl ?_
    refine Su [44, 45, 46, 47, 48] 13 false 43 ?_
    refine Su [49, 50, 51, 52] 18 true 48 ?_
    refine Su [53] 13 false 43 ?_
    refine Sk [54] 8 true 38 rfl ?_
    refine V 55 4 (p0 38 (.tmp 54) (.const (.bool false)) (.bool false) rfl) ?_
    refine V 2 4 (ma 55 (.bool false)) ?_
    have hs70 : HS w0 F0 w16 F2 [] := hs17.drop 0
    exact RWP.nil ⟨rfl, F2, hs70, (Mem.le.refl _), e19, (congrArg Value.bool (and_f hb62 (rfl)))⟩
  ·rintro f w57 ⟨F3, hs58, le59, e60, e61⟩
   refine thenQ_nrm ?_
   refine CWP.ret (by kernel_rfl) ?_
   have hfin := some_inj h56
   subst hfin
   exact ⟨e60, (.bool ((decide (s15.1 ≤ 40)) && ((decide ((x0.Tracks.length : Int) ≤ 100)) && ((decide ((x0.Ties.length : Int) ≤ 30)) || ((decide ((x0.Ties.length : Int) > 400)) && (decide ((x0.Ties.length : Int) ≤ 500))))))), res_of (l := [.tmp 2]) (by kernel_rfl) (vs := [(.bool ((decide (s15.1 ≤ 40)) && ((decide ((x0.Tracks.length : Int) ≤ 100)) && ((decide ((x0.Ties.length : Int) ≤ 30)) || ((decide ((x0.Ties.length : Int) > 400)) && (decide ((x0.Ties.length : Int) ≤ 500)))))))]) ⟨e61, trivial⟩, (.bool ((decide (s15.1 ≤ 40)) && ((decide ((x0.Tracks.length : Int) ≤ 100)) && ((decide ((x0.Ties.length : Int) ≤ 30)) || ((decide ((x0.Ties.length : Int) > 400)) && (decide ((x0.Ties.length : Int) ≤ 500))))))), F3, rfl, hs58.clear, rfl⟩
end Go.Proofs.Ythbcnabeabcmlaa
namespace Go.Proofs.Ythbcnabeabcmlaa
set_option maxRecDepth 1000000 in
theorem awake_ok (m : Nat) : law03_awake (m + 100) = some true := by kernel_rfl
theorem awake_at {N : Nat} (h : 100 ≤ N) : law03_awake N = some true := by
 obtain ⟨m, rfl⟩ : ∃ m, N = m + 100 := ⟨N - 100, by omega⟩
 exact awake_ok m
theorem few_some {N : Nat} {s : System} (h : FitS N s) : ∃ b, law03_few N s = some b := by
 unfold law03_few
 have hn := h.n.1
 obtain ⟨o, ho, hR⟩ := iter_ex (body := law03_few_L0 N s) s.Tracks.length (fun i q => q.2 = (i : Int)) (fun o => ∀ q, o ≠ .next q) (by
  rintro i ⟨a, b⟩ hi hb
  simp only at hb
  subst hb
  unfold law03_few_L0
  simp only
  by_cases hlt : i < s.Tracks.length
  ·simp only [lt_t hlt, cond_true, idx_nat hlt, Option.bind_some]
   cases decide ((s.Tracks[i].Clock.Jumps.length : Int) > 40) with
   | true => exact .inr ⟨_, rfl, (fun _ h => by cases h), fun _ h => by cases h⟩
   | false => exact .inl ⟨_, rfl, by simp only; rw [W64_succ (by omega)], hlt⟩
  ·have : i = s.Tracks.length := by omega
   subst this
   simp only [lt_f, cond_false]
   exact .inr ⟨_, rfl, (fun _ h => by cases h), fun _ h => by cases h⟩) s.Tracks.length N 0 (0, 0) (by omega) rfl h.n.2
 rw [ho]
 cases o with
 | next q => exact absurd rfl (hR q)
 | done q => exact ⟨_, rfl⟩
 | ret r => exact ⟨_, rfl⟩
end Go.Proofs.Ythbcnabeabcmlaa
namespace Go.Proofs.Ythbcnabeabcmlaa
abbrev NN : Nat := 9223372036854775808
theorem fitL {α : Type} {l : List α} {Q : Prop} (h : l.length < 9223372036854775808 ∧ Q) : Fit NN l.length := ⟨h.1, h.1⟩
theorem fitT {t : Track} (q : qTrack t) : FitT NN t := ⟨fitL q.1.2.2, fitL q.2⟩
theorem fitS {s : System} (q : qSystem s) : FitS NN s := ⟨fitL q.1, fun t ht => fitT (q.1.2 t ht), fitL q.2.1⟩
end Go.Proofs.Ythbcnabeabcmlaa
namespace Go.Proofs.Ythbcnabeabcmlaa
open Go.Proofs
def clocks_Path_1 (N : Nat) (x0 : Ref) : Option Bool :=
 (((clocks_beginning N ).bind fun r14 => some ((x0.Log == r14.Log) && ((x0.Line == r14.Line) && true))).bind fun j9 => some j9)
theorem co_clocks_Path_1 : CallOk Try.prog 111 := fun _ _ => by kernel_rfl
set_option maxHeartbeats 4000000 in
set_option maxRecDepth 100000 in
theorem c_clocks_Path_1 (N : Nat) (w0 : World) (F0 : Mem) (hF : ∀ b o, F0 b = some o → w0.heap[b]? = some o) (x0 : Ref) (r : Bool) (h : clocks_Path_1 N x0 = some r) :
  Calls Try.prog 111 ([(.agg (kRef x0))] : List Value).toArray w0 (FRet w0 F0 fun F' v => v = (.bool r)) := by
 have hs0 := HS.start hF
 refine calls_of (n := 6) (c := bodyOf Try.f111) Try.func111 (by kernel_rfl) (by kernel_rfl) (by kernel_rfl) ?_
 refine Sq (Rg [0, 1] ?_)
 refine Bx 1 0 0 27 (kRef x0) hs0 (fun b1 w2 (hs3 : HS w0 F0 w2 F0 [(sb b1 (kRef x0) 27)]) => ?_)
 refine V 2 4 (mc (.bool false) (.bool false)) ?_
 refine Nss ?_
 obtain ⟨j9, hj12, h13⟩ := bind_some h
 refine CWP.regionD (by kernel_rfl) (by kernel_rfl) (by kernel_rfl) (by kernel_rfl) (z := 4) (F := F0) (Lc := [(sb b1 (kRef x0) 27)]) (Lz := []) (l := [false, false, false, false]) (fuel := 4) (by kernel_rfl) (by kernel_rfl) hs3 (by simp) (by simp) (fun f w => ∃ (F1 : Mem), HS w0 F0 w F1 [] ∧ Mem.le F0 F1 ∧ f.d = [] ∧ f 2 = (.bool j9)) (fun wd4 hw5 => ?_) ?_
 ·refine Dt 0 3 27 _ (fun _ hq => ld 27 1 b1 0 true 2 (.agg (kRef x0)) (hq.1.2 0 _ _ rfl)) ?_
  refine DWP.one (i := 1) (by kernel_rfl) ?_
  obtain ⟨r14, hr15, h16⟩ := bind_some hj12
  refine DStep.call (l' := [true, true, false, false]) (zd := true) (by kernel_rfl) (by kernel_rfl) (by kernel_rfl) (dst := (some 4)) (ty := 27) (g := none) (by kernel_rfl) rfl (f0 := (.func 108)) (aos := #[]) (ats := #[]) (fid := 108) (first := #[]) (cap := #[]) (args := []) rfl co_clocks_beginning (rfl) hw5 (c_clocks_beginning N wd4 F0 hw5.pers  _ hr15) ?_
  intro v17 F2 w18 hs19 le20 hp21
  obtain rfl := hp21
  refine Dt 2 5 4 (.bool ((x0.Log == r14.Log) && ((x0.Line == r14.Line) && true))) (fun _ hq => run_eqs (t := 27) (t' := 27) (x := (.tmp 3)) (y := (.tmp 4)) (xs := (kRef x0)) (ys := (kRef r14)) (b := ((x0.Log == r14.Log) && ((x0.Line == r14.Line) && true))) rfl rfl (by kernel_rfl) (by kernel_rfl)) ?_
  refine Dt 3 2 4 _ (fun _ hq => ma 5 (.bool ((x0.Log == r14.Log) && ((x0.Line == r14.Line) && true)))) ?_
  obtain rfl := some_inj h16
  have hs22 : HS w0 F0 w18 F2 [] := hs19.drop 0
  exact DWP.done (by kernel_rfl) ⟨F2, hs22, le20, rfl, rfl⟩
 ·rintro f w6 ⟨F1, hs7, le8, e10, e11⟩
  refine thenQ_nrm ?_
  refine CWP.ret (by kernel_rfl) ?_
  have hfin := some_inj h13
  subst hfin
  exact ⟨e10, (.bool j9), res_of (l := [.tmp 2]) (by kernel_rfl) (vs := [(.bool j9)]) ⟨e11, trivial⟩, (.bool j9), F1, rfl, hs7.clear, rfl⟩
end Go.Proofs.Ythbcnabeabcmlaa
namespace Go.Proofs.Ythbcnabeabcmlaa
open Go.Proofs
def clocks_Path (N : Nat) (x0 : System) (x1 : Ref) (x2 : Bool) : Option ((List Bound) × Int) :=
 ((clocks_asked N x0 ([x1])).bind fun r16 => (bif (r16 != 0) then some (([] : List Bound), r16) else ((clocks_bounds N x0).bind fun r27 => ((slices_Collect_api_Bound N r27).bind fun r35 => ((clocks_beginning N ).bind fun r43 => ((clocks_relax_ok N r35 r43 (!x2)).bind fun r51 => ((clocks_reached_back N r51 x1 (!x2) (fun y0 => clocks_Path_1 N y0)).bind fun r64 => ((bif x2 then ((slices_Reverse_api_Bound_api_Bound N r64).bind fun r88 => some r88) else some r64).bind fun j81 => some (j81, 0)))))))))
theorem co_clocks_Path : CallOk Try.prog 63 := fun _ _ => by kernel_rfl
set_option maxHeartbeats 4000000 in
set_option maxRecDepth 100000 in
theorem c_clocks_Path (N : Nat) (w0 : World) (F0 : Mem) (hF : ∀ b o, F0 b = some o → w0.heap[b]? = some o) (x0 : System) (a0_0 : Option Addr) (n0_0 : Nat) (hb0_0 : LC x0.Tracks.length n0_0) (hs0_0 : SlA tTrack F0 a0_0 x0.Tracks) (a0_1 : Option Addr) (n0_1 : Nat) (hb0_1 : LC x0.Ties.length n0_1) (hs0_1 : SlA tTie F0 a0_1 x0.Ties) (x1 : Ref) (x2 : Bool) (r : ((List Bound) × Int)) (h : clocks_Path N x0 x1 x2 = some r) :
  Calls Try.prog 63 ([(.agg (kSystem x0 a0_0 n0_0 a0_1 n0_1)), (.agg (kRef x1)), (.bool x2)] : List Value).toArray w0 (FRet w0 F0 fun F' v => ∃ (aq0_0 : Option Addr) (nq0_0 : Nat), v = (.tuple #[(.slice aq0_0 r.1.length nq0_0), (vi r.2)]) ∧ LC r.1.length nq0_0 ∧ SlA tBound F' aq0_0 r.1) := by
 have hs0 := HS.start hF
 refine calls_of (n := 34) (c := bodyOf Try.f63) Try.func63 (by kernel_rfl) (by kernel_rfl) (by kernel_rfl) ?_
 refine Sq (Rg [0, 1, 2, 3] ?_)
 refine Bx 3 0 0 25 (kSystem x0 a0_0 n0_0 a0_1 n0_1) hs0 (fun b1 w2 (hs3 : HS w0 F0 w2 F0 [(sb b1 (kSystem x0 a0_0 n0_0 a0_1 n0_1) 25)]) => ?_)
 refine Bx 4 0 1 27 (kRef x1) hs3 (fun b4 w5 (hs6 : HS w0 F0 w5 F0 [(sb b4 (kRef x1) 27), (sb b1 (kSystem x0 a0_0 n0_0 a0_1 n0_1) 25)]) => ?_)
 refine V 6 57 (mc (.slice none 0 0) (.slice none ([] : List Bound).length 0)) ?_
 refine V 7 30 (mc (vi 0) (vi 0)) ?_
 refine Nss ?_
 refine Sq (Rg [0, 1, 2, 3, 4] ?_)
 refine V 11 25 (ld 25 3 b1 0 true 3 (.agg (kSystem x0 a0_0 n0_0 a0_1 n0_1)) (hs6.ownAt (k := 1) rfl)) ?_
 refine V 12 27 (ld 27 4 b4 0 true 2 (.agg (kRef x1)) (hs6.ownAt (k := 0) rfl)) ?_
 refine RWP.buildSlice (dst := (some 13)) (ty := 109) (g := none) (by kernel_rfl) rfl (t := 109) (len := 1) (parts := #[(0, (.tmp 12))]) (vs := [(0, (.agg (kRef x1)))]) (rfl) (E := 27) (cs := [(vi x1.Log), (vi x1.Line)]) (by kernel_rfl) hs6 (fun b7 w8 (hs9 : HS w0 F0 w8 F0 [(some b7, .cells ([(vi x1.Log), (vi x1.Line)] : List Value).toArray 27 (0, 0)), (sb b4 (kRef x1) 27), (sb b1 (kSystem x0 a0_0 n0_0 a0_1 n0_1) 25)]) => ?_)
 have hr11 : RowR tRef 27 F0 (some ⟨b7, 0, none⟩) 1 [x1] (some b7, .cells ([(vi x1.Log), (vi x1.Line)] : List Value).toArray 27 (0, 0)) := RowR.lit ⟨rfl, rfl⟩ (by simp)
 have hb15 := RowR.bound hr11
 obtain ⟨F1, hs12, le13, hs14⟩ : ∃ Fq, HS w0 F0 w8 Fq [(sb b4 (kRef x1) 27), (sb b1 (kSystem x0 a0_0 n0_0 a0_1 n0_1) 25)] ∧ Mem.le F0 Fq ∧ SlA tRef Fq (some ⟨b7, 0, none⟩) [x1] := HS.freezeRow hs9 (k := 0) rfl hr11
 obtain ⟨r16, hr17, h18⟩ := bind_some h
 refine Cl 14 30 74 #[(.tmp 11), (.tmp 13)] #[25, 109] co_clocks_asked hs12 (c_clocks_asked N w8 F1 hs12.pers (x0) a0_0 n0_0 hb0_0 (SlA.mono hs0_0 le13) a0_1 n0_1 hb0_1 (SlA.mono hs0_1 le13) ([x1]) (some ⟨b7, 0, none⟩) 1 hb15 hs14 _ hr17) ?_
 intro v19 F2 w20 hs21 le22 hp23
 obtain rfl := hp23
 refine V 8 30 (ma 14 (vi r16)) ?_
 refine Nss (Rg [0, 1] ?_)
 refine V 15 30 (mv 8 (vi r16)) ?_
 refine V 16 4 (run_neq (t := 30) (t' := 30) (x := (.tmp 15)) (y := (.const (vi 0))) (k := .i64) (a := r16) (b := 0) rfl rfl) ?_
 refine Nt ?_
 refine CWP.cond (t := (r16 != 0)) (by kernel_rfl) rfl (fun hb24 => ?_) (fun hb24 => ?_)
 ·have h25 := cond_t h18 hb24
  refine Sq (Rg [0, 1, 2] ?_)
  refine V 17 30 (mv 8 (vi r16)) ?_
  refine V 6 57 (mc (.slice none 0 0) (.slice none ([] : List Bound).length 0)) ?_
  refine V 7 30 (ma 17 (vi r16)) ?_
  refine Nt ?_
  refine CWP.ret (by kernel_rfl) ?_
  refine thenQ_ret ?_
  have hfin := some_inj h25
  subst hfin
  exact ⟨rfl, (.tuple #[(.slice none ([] : List Bound).length 0), (vi r16)]), res_of (l := [.tmp 6, .tmp 7]) (by kernel_rfl) (vs := [(.slice none ([] : List Bound).length 0), (vi r16)]) ⟨rfl, ⟨rfl, trivial⟩⟩, (.tuple #[(.slice none ([] : List Bound).length 0), (vi r16)]), F2, rfl, hs21.clear, ⟨none, 0, rfl, LC.nil, (.inl rfl)⟩⟩
 ·have h26 := cond_f h18 hb24
  refine Sc ?_
  refine thenQ_nrm ?_
  refine Sq (Rg [0, 1, 2, 3, 4, 5, 6, 7, 8] ?_)
  refine V 18 25 (ld 25 3 b1 0 true 3 (.agg (kSystem x0 a0_0 n0_0 a0_1 n0_1)) (hs21.ownAt (k := 1) rfl)) ?_
  obtain ⟨r27, hr28, h29⟩ := bind_some h26
  refine Cl 19 105 76 #[(.tmp 18)] #[25] co_clocks_bounds hs21 (c_clocks_bounds N w20 F2 hs21.pers (x0) a0_0 n0_0 hb0_0 (SlA.mono hs0_0 (le13.trans le22)) a0_1 n0_1 hb0_1 (SlA.mono hs0_1 (le13.trans le22)) _ hr28) ?_
  intro v30 F3 w31 hs32 le33 hp34
  obtain ⟨ar27_0_0_0, nr27_0_0_0, ar27_0_0_1, nr27_0_0_1, br27_0_0, rfl, hbr27_0_0_0, hsr27_0_0_0, hbr27_0_0_1, hsr27_0_0_1, hFr27_0_0⟩ := hp34
  obtain ⟨r35, hr36, h37⟩ := bind_some h29
  refine Cl 20 57 75 #[(.tmp 19)] #[105] co_slices_Collect_api_Bound hs32 (c_slices_Collect_api_Bound N w31 F3 hs32.pers (r27) ar27_0_0_0 nr27_0_0_0 hbr27_0_0_0 hsr27_0_0_0 ar27_0_0_1 nr27_0_0_1 hbr27_0_0_1 hsr27_0_0_1 br27_0_0 hFr27_0_0 _ hr36) ?_
  intro v38 F4 w39 hs40 le41 hp42
  obtain ⟨ar35_0_0, nr35_0_0, rfl, hbr35_0_0, hsr35_0_0⟩ := hp42
  obtain ⟨r43, hr44, h45⟩ := bind_some h37
  refine Cl 21 27 108 #[] #[] co_clocks_beginning hs40 (c_clocks_beginning N w39 F4 hs40.pers  _ hr44) ?_
  intro v46 F5 w47 hs48 le49 hp50
  obtain rfl := hp50
  refine V 22 4 (mv 2 (.bool x2)) ?_
  refine V 23 4 (run_not (t := 4) (x := (.tmp 22)) (a := x2) rfl) ?_
  obtain ⟨r51, hr52, h53⟩ := bind_some h45
  refine Cl 24 95 77 #[(.tmp 20), (.tmp 21), (.tmp 23)] #[57, 27, 4] co_clocks_relax hs48 (c_clocks_relax_ok N w47 F5 hs48.pers (r35) ar35_0_0 nr35_0_0 hbr35_0_0 (SlA.mono hsr35_0_0 le49) (r43) ((!x2)) _ hr52) ?_
  intro v54 F6 w55 hs56 le57 hp58
  obtain ⟨or51_0_0, or51_0_1, rfl, hmr51_0_0, hmr51_0_1⟩ := hp58
  refine Al 9 0 95 #[(.map none), (.map none)] hs56 (fun b59 w60 (hs61 : HS w0 F0 w60 F6 [(sb b59 #[(.map none), (.map none)] 95), (sb b4 (kRef x1) 27), (sb b1 (kSystem x0 a0_0 n0_0 a0_1 n0_1) 25)]) => ?_)
  refine RWP.store (ty := 0) (g := none) (by kernel_rfl) rfl (x := (.tmp 9)) (y := (.tmp 24)) (t := 95) (gg := true) (s := 2) (v := (.agg #[(.map or51_0_0), (.map or51_0_1)])) (b := b59) (o := 0) (C := #[(.map none), (.map none)]) rfl rfl (by kernel_rfl) hs61 (k := 0) rfl rfl rfl rfl (C' := #[(.map or51_0_0), (.map or51_0_1)]) rfl (fun w62 (hs63 : HS w0 F0 w62 F6 [(sb b59 #[(.map or51_0_0), (.map or51_0_1)] 95), (sb b4 (kRef x1) 27), (sb b1 (kSystem x0 a0_0 n0_0 a0_1 n0_1) 25)]) => ?_)
  refine Nss (Rg [0, 1, 2, 3, 4, 5] ?_)
  refine V 25 95 (ld 95 9 b59 0 true 2 (.agg #[(.map or51_0_0), (.map or51_0_1)]) (hs63.ownAt (k := 0) rfl)) ?_
  refine V 26 27 (ld 27 4 b4 0 true 2 (.agg (kRef x1)) (hs63.ownAt (k := 1) rfl)) ?_
  refine V 27 4 (mv 2 (.bool x2)) ?_
  refine V 28 4 (run_not (t := 4) (x := (.tmp 27)) (a := x2) rfl) ?_
  obtain ⟨r64, hr65, h66⟩ := bind_some h53
  refine RWP.callO (dst := (some 29)) (ty := 57) (g := none) (by kernel_rfl) rfl (f0 := (.func 110)) (aos := #[(.tmp 25), (.tmp 26), (.tmp 28), (.func 111)]) (ats := #[95, 27, 4, 139]) (fid := 110) (first := #[]) (cap := #[]) (args := [(.agg #[(.map or51_0_0), (.map or51_0_1)]), (.agg (kRef x1)), (.bool (!x2)), (.func (.func 111) #[] #[])]) rfl co_clocks_reached_back (rfl) hs63 (c_clocks_reached_back N w62 F6 hs63.pers (r51) or51_0_0 hmr51_0_0 or51_0_1 hmr51_0_1 (x1) ((!x2)) 111 [] [] (fun y0 => clocks_Path_1 N y0) co_clocks_Path_1 (fun w1 F1 y0 r le1 pe1 hr1 => c_clocks_Path_1 N w1 F1 pe1  y0  r hr1) _ hr65) ?_
  rintro _ F7 w68 _ hs69 le70 ⟨a72, n73, e74, rfl, rfl, hr75⟩
  have hs77 : HS w0 F0 w68 F7 [e74, (sb b59 #[(.map or51_0_0), (.map or51_0_1)] 95), (sb b4 (kRef x1) 27), (sb b1 (kSystem x0 a0_0 n0_0 a0_1 n0_1) 25)] := hs69
  refine V 10 57 (ma 29 (.slice a72 r64.length n73)) ?_
  refine Nss ?_
  refine Sq (Rg [0] ?_)
  refine V 30 4 (mv 2 (.bool x2)) ?_
  refine Nt ?_
  obtain ⟨j81, hj84, h85⟩ := bind_some h66
  refine CWP.cut (fun f w => ∃ (F8 : Mem) (ej81_0 : Option Nat × Obj), HS w0 F0 w F8 [ej81_0] ∧ Mem.le F7 F8 ∧ f.d = [] ∧ f 10 = (.slice a72 j81.length n73) ∧ RowR tBound 103 F8 a72 n73 j81 ej81_0) ?_ ?_
  ·refine CWP.cond (t := x2) (by kernel_rfl) rfl (fun hb86 => ?_) (fun hb86 => ?_)
   ·have h87 := cond_t hj84 hb86
    refine Rg [0, 1] ?_
    refine V 31 57 (mv 10 (.slice a72 r64.length n73)) ?_
    obtain ⟨r88, hr89, h90⟩ := bind_some h87
    refine RWP.callS (dst := (some 32)) (ty := 0) (g := none) (by kernel_rfl) rfl (f0 := (.func 112)) (aos := #[(.tmp 31)]) (ats := #[57]) (fid := 112) (first := #[]) (cap := #[]) (args := [(.slice a72 r64.length n73)]) rfl co_slices_Reverse_api_Bound_api_Bound (rfl) (c_slices_Reverse_api_Bound_api_Bound N (Lf := [(sb b59 #[(.map or51_0_0), (.map or51_0_1)] 95), (sb b4 (kRef x1) 27), (sb b1 (kSystem x0 a0_0 n0_0 a0_1 n0_1) 25)]) r64 a72 n73 e74 hr75 hs77  _ hr89) ?_
    rintro _ w92 ⟨F9, e91, rfl, hs93, le94, hr95⟩
    refine ⟨_, rfl, ?_⟩
    have hs96 : HS w0 F0 w92 F9 [e91, (sb b59 #[(.map or51_0_0), (.map or51_0_1)] 95), (sb b4 (kRef x1) 27), (sb b1 (kSystem x0 a0_0 n0_0 a0_1 n0_1) 25)] := hs93
    refine RWP.nil ?_
    obtain rfl := some_inj h90
    have hs97 : HS w0 F0 w92 F9 [e91, (sb b4 (kRef x1) 27), (sb b1 (kSystem x0 a0_0 n0_0 a0_1 n0_1) 25)] := hs96.drop 1
    have hs98 : HS w0 F0 w92 F9 [e91, (sb b1 (kSystem x0 a0_0 n0_0 a0_1 n0_1) 25)] := hs97.drop 1
    have hs99 : HS w0 F0 w92 F9 [e91] := hs98.drop 1
    exact .inl ⟨rfl, F9, e91, hs99, le94, rfl, (len_eq rfl (ml_slices_Reverse_api_Bound_api_Bound hr89)), hr95⟩
   ·have h100 := cond_f hj84 hb86
    refine Sc ?_
    obtain rfl := some_inj h100
    have hs101 : HS w0 F0 w68 F7 [e74, (sb b4 (kRef x1) 27), (sb b1 (kSystem x0 a0_0 n0_0 a0_1 n0_1) 25)] := hs77.drop 1
    have hs102 : HS w0 F0 w68 F7 [e74, (sb b1 (kSystem x0 a0_0 n0_0 a0_1 n0_1) 25)] := hs101.drop 1
    have hs103 : HS w0 F0 w68 F7 [e74] := hs102.drop 1
    exact .inl ⟨rfl, F7, e74, hs103, (Mem.le.refl _), rfl, rfl, hr75⟩
  ·rintro f w78 ⟨F8, ej81_0, hs79, le80, e82, e83, hrj81_0⟩
   refine thenQ_nrm ?_
   refine Sq (Rg [0, 1, 2] ?_)
   refine V 33 57 (mv 10 (.slice a72 j81.length n73) e83) ?_
   refine V 6 57 (ma 33 (.slice a72 j81.length n73)) ?_
   refine V 7 30 (mc (vi 0) (vi 0)) ?_
   refine Nt ?_
   refine CWP.ret (by kernel_rfl) ?_
   have hb107 := RowR.bound hrj81_0
   obtain ⟨F10, hs104, le105, hs106⟩ : ∃ Fq, HS w0 F0 w78 Fq [] ∧ Mem.le F8 Fq ∧ SlA tBound Fq a72 j81 := HS.freezeRow hs79 (k := 0) rfl hrj81_0
   have hfin := some_inj h85
   subst hfin
   exact ⟨e82, (.tuple #[(.slice a72 j81.length n73), (vi 0)]), res_of (l := [.tmp 6, .tmp 7]) (by kernel_rfl) (vs := [(.slice a72 j81.length n73), (vi 0)]) ⟨rfl, ⟨rfl, trivial⟩⟩, (.tuple #[(.slice a72 j81.length n73), (vi 0)]), F10, rfl, hs104.clear, ⟨a72, n73, rfl, hb107, hs106⟩⟩
end Go.Proofs.Ythbcnabeabcmlaa
namespace Go.Proofs.Ythbcnabeabcmlaa
open Go.Proofs
def law03_ClocksPaths (N : Nat) (x0 : System) (x1 : Ref) (x2 : Bool) (x3 : (List Bound)) (x4 : (List (List Int))) : Option Bool :=
 ((law03_awake N ).bind fun r7 => (((law03_few N x0).bind fun r29 => (bif (!r29) then some true else (bif (decide ((x4.length : Int) > 100)) then some true else some (decide ((x3.length : Int) > 200))))).bind fun j18 => (bif j18 then some r7 else ((clocks_Path N x0 x1 x2).bind fun r46 => ((clocks_Interval N x0 x1).bind fun r54 => ((clocks_Keeps N x0 x4).bind fun r67 => ((clocks_ValidPath N x0 x1 x2 x3).bind fun r75 => (bif ((r75.2 == 0) && ((r67.2 == 0) && r67.1)) then ((bif (decide (x1.Log < 0)) then some true else (bif (decide (x1.Log ≥ (x4.length : Int))) then some true else (bif (decide (x1.Line < 0)) then some true else ((idx x4 x1.Log).bind fun x133 => some (decide (x1.Line ≥ (x133.length : Int))))))).bind fun j108 => (bif j108 then some false else (((idx x4 x1.Log).bind fun x170 => ((idx x170 x1.Line).bind fun x184 => some x184)).bind fun j155 => (bif (bif x2 then ((decide (j155 > r75.1)) || ((!x2) && (decide (j155 < r75.1)))) else ((!x2) && (decide (j155 < r75.1)))) then some false else (bif ((r46.2 != 0) || (r54.2 != 0)) then some (r7 && (r46.2 == r54.2)) else ((clocks_ValidPath N x0 x1 x2 r46.1).bind fun r251 => (bif x2 then some (r7 && ((r251.2 == 0) && ((r251.1 == r54.1.Hi) && ((r75.2 != 0) || (decide (r75.1 ≥ r54.1.Hi)))))) else some (r7 && ((r251.2 == 0) && ((r251.1 == r54.1.Lo) && ((r75.2 != 0) || (decide (r75.1 ≤ r54.1.Lo))))))))))))) else (bif ((r46.2 != 0) || (r54.2 != 0)) then some (r7 && (r46.2 == r54.2)) else ((clocks_ValidPath N x0 x1 x2 r46.1).bind fun r342 => (bif x2 then some (r7 && ((r342.2 == 0) && ((r342.1 == r54.1.Hi) && ((r75.2 != 0) || (decide (r75.1 ≥ r54.1.Hi)))))) else some (r7 && ((r342.2 == 0) && ((r342.1 == r54.1.Lo) && ((r75.2 != 0) || (decide (r75.1 ≤ r54.1.Lo)))))))))))))))))
set_option maxHeartbeats 4000000 in
set_option maxRecDepth 100000 in
theorem c_law03_ClocksPaths (N : Nat) (w0 : World) (F0 : Mem) (hF : ∀ b o, F0 b = some o → w0.heap[b]? = some o) (x0 : System) (a0_0 : Option Addr) (n0_0 : Nat) (hb0_0 : LC x0.Tracks.length n0_0) (hs0_0 : SlA tTrack F0 a0_0 x0.Tracks) (a0_1 : Option Addr) (n0_1 : Nat) (hb0_1 : LC x0.Ties.length n0_1) (hs0_1 : SlA tTie F0 a0_1 x0.Ties) (x1 : Ref) (x2 : Bool) (x3 : (List Bound)) (a3_0 : Option Addr) (n3_0 : Nat) (hb3_0 : LC x3.length n3_0) (hs3_0 : SlA tBound F0 a3_0 x3) (x4 : (List (List Int))) (a4_0 : Option Addr) (n4_0 : Nat) (hb4_0 : LC x4.length n4_0) (hs4_0 : SlA (tSl tInt) F0 a4_0 x4) (r : Bool) (h : law03_ClocksPaths N x0 x1 x2 x3 x4 = some r) :
  Calls Try.prog 14 ([(.agg (kSystem x0 a0_0 n0_0 a0_1 n0_1)), (.agg (kRef x1)), (.bool x2), (.slice a3_0 x3.length n3_0), (.slice a4_0 x4.length n4_0)] : List Value).toArray w0 (FRet w0 F0 fun F' v => v = (.bool r)) := by
 have hs0 := HS.start hF
 refine calls_of (n := 187) (c := bodyOf Try.f14) Try.func14 (by kernel_rfl) (by kernel_rfl) (by kernel_rfl) ?_
 refine Sq (Rg [0, 1, 2] ?_)
 refine Bx 5 0 0 25 (kSystem x0 a0_0 n0_0 a0_1 n0_1) hs0 (fun b1 w2 (hs3 : HS w0 F0 w2 F0 [(sb b1 (kSystem x0 a0_0 n0_0 a0_1 n0_1) 25)]) => ?_)
 refine Bx 6 0 1 27 (kRef x1) hs3 (fun b4 w5 (hs6 : HS w0 F0 w5 F0 [(sb b4 (kRef x1) 27), (sb b1 (kSystem x0 a0_0 n0_0 a0_1 n0_1) 25)]) => ?_)
 refine V 10 4 (mc (.bool false) (.bool false)) ?_
 refine Nss (Rg [0, 1] ?_)
 obtain ⟨r7, hr8, h9⟩ := bind_some h
 refine Cl 23 4 15 #[] #[] co_law03_awake hs6 (c_law03_awake N w5 F0 hs6.pers  _ hr8) ?_
 intro v10 F1 w11 hs12 le13 hp14
 obtain rfl := hp14
 refine V 11 4 (ma 23 (.bool r7)) ?_
 refine Nss ?_
 refine Sq (Rg [0, 1, 2, 3, 4, 5, 6, 7, 8, 9, 10, 11, 12] ?_)
 obtain ⟨j18, hj27, h28⟩ := bind_some h9
 refine RWP.cut (fun f w => ∃ (F2 : Mem), HS w0 F0 w F2 [(sb b4 (kRef x1) 27), (sb b1 (kSystem x0 a0_0 n0_0 a0_1 n0_1) 25)] ∧ Mem.le F1 F2 ∧ f.d = [] ∧ f 2 = (.bool x2) ∧ f 3 = (.slice a3_0 x3.length n3_0) ∧ f 4 = (.slice a4_0 x4.length n4_0) ∧ f 5 = (.pointer (some ⟨b1, 0, none⟩)) ∧ f 6 = (.pointer (some ⟨b4, 0, none⟩)) ∧ f 11 = (.bool r7) ∧ f 36 = (.bool j18)) ?_ ?_
 ·refine V 24 25 (ld 25 5 b1 0 true 3 (.agg (kSystem x0 a0_0 n0_0 a0_1 n0_1)) (hs12.ownAt (k := 1) rfl)) ?_
  obtain ⟨r29, hr30, h31⟩ := bind_some hj27
  refine Cl 25 4 16 #[(.tmp 24)] #[25] co_law03_few hs12 (c_law03_few N w11 F1 hs12.pers (x0) a0_0 n0_0 hb0_0 (SlA.mono hs0_0 le13) a0_1 n0_1 hb0_1 (SlA.mono hs0_1 le13) _ hr30) ?_
  intro v32 F3 w33 hs34 le35 hp36
  obtain rfl := hp36
  refine V 26 4 (run_not (t := 4) (x := (.tmp 25)) (a := r29) rfl) ?_
  refine V 27 4 (mv 26 (.bool (!r29))) ?_
  refine RWP.split (!r29) (fun hb37 => ?_) (fun hb37 => ?_)
  ·have h38 := cond_t h31 hb37
   refine Sk [28, 29, 30] 3 false 27 hb37 ?_
   refine V 31 4 (p1 27 (.const (.bool true)) (.tmp 30) (.bool true) hb37) ?_
   refine V 32 4 (mv 31 (.bool true)) ?_
   refine Sk [33, 34, 35] 8 false 32 rfl ?_
   refine V 36 4 (p1 32 (.const (.bool true)) (.tmp 35) (.bool true) rfl) ?_
   obtain rfl := some_inj h38
   exact RWP.nil ⟨rfl, F3, hs34, le35, rfl, rfl, rfl, rfl, rfl, rfl, rfl, rfl⟩
  ·have h39 := cond_f h31 hb37
   refine Vg 28 71 3 false 27 hb37 (mv 4 (.slice a4_0 x4.length n4_0)) ?_
   refine Vg 29 3 3 false 27 hb37 (ln 28 71 a4_0 x4.length n4_0 50 1 24) ?_
   refine Vg 30 4 3 false 27 hb37 (run_gtr (t := 3) (t' := 3) (x := (.tmp 29)) (y := (.const (vi 100))) (k := .i64) (a := (x4.length : Int)) (b := 100) rfl rfl) ?_
   refine V 31 4 (p0 27 (.const (.bool true)) (.tmp 30) (.bool (decide ((x4.length : Int) > 100))) hb37) ?_
   refine V 32 4 (mv 31 (.bool (decide ((x4.length : Int) > 100)))) ?_
   refine RWP.split (decide ((x4.length : Int) > 100)) (fun hb40 => ?_) (fun hb40 => ?_)
   ·have h41 := cond_t h39 hb40
    refine Sk [33, 34, 35] 8 false 32 hb40 ?_
    refine V 36 4 (p1 32 (.const (.bool true)) (.tmp 35) (.bool true) hb40) ?_
    obtain rfl := some_inj h41
    exact RWP.nil ⟨rfl, F3, hs34, le35, rfl, rfl, rfl, rfl, rfl, rfl, rfl, rfl⟩
   ·have h42 := cond_f h39 hb40
    refine Vg 33 57 8 false 32 hb40 (mv 3 (.slice a3_0 x3.length n3_0)) ?_
    refine Vg 34 3 8 false 32 hb40 (ln 33 57 a3_0 x3.length n3_0 103 7 56) ?_
    refine Vg 35 4 8 false 32 hb40 (run_gtr (t := 3) (t' := 3) (x := (.tmp 34)) (y := (.const (vi 200))) (k := .i64) (a := (x3.length : Int)) (b := 200) rfl rfl) ?_
    refine V 36 4 (p0 32 (.const (.bool true)) (.tmp 35) (.bool (decide ((x3.length : Int) > 200))) hb40) ?_
    obtain rfl := some_inj h42
    exact RWP.nil ⟨rfl, F3, hs34, le35, rfl, rfl, rfl, rfl, rfl, rfl, rfl, rfl⟩
 ·rintro f w15 ⟨F2, hs16, le17, e19, e20, e21, e22, e23, e24, e25, e26⟩
  refine thenQ_nrm ?_
  refine CWP.cond (t := j18) (by kernel_rfl) e26 (fun hb43 => ?_) (fun hb43 => ?_)
  ·have h44 := cond_t h28 hb43
   refine Sq (Rg [0, 1] ?_)
   refine V 37 4 (mv 11 (.bool r7) e25) ?_
   refine V 10 4 (ma 37 (.bool r7)) ?_
   refine Nt ?_
   refine CWP.ret (by kernel_rfl) ?_
   refine thenQ_ret ?_
   have hfin := some_inj h44
   subst hfin
   exact ⟨e19, (.bool r7), res_of (l := [.tmp 10]) (by kernel_rfl) (vs := [(.bool r7)]) ⟨rfl, trivial⟩, (.bool r7), F2, rfl, hs16.clear, rfl⟩
  ·have h45 := cond_f h28 hb43
   refine Sc ?_
   refine thenQ_nrm ?_
   refine Sq (Rg [0, 1, 2, 3, 4, 5, 6, 7, 8] ?_)
   refine V 39 25 (ld 25 5 b1 0 true 3 (.agg (kSystem x0 a0_0 n0_0 a0_1 n0_1)) (hs16.ownAt (k := 1) rfl) e23) ?_
   refine V 40 27 (ld 27 6 b4 0 true 2 (.agg (kRef x1)) (hs16.ownAt (k := 0) rfl) e24) ?_
   refine V 41 4 (mv 2 (.bool x2) e20) ?_
   obtain ⟨r46, hr47, h48⟩ := bind_some h45
   refine Cl 42 58 63 #[(.tmp 39), (.tmp 40), (.tmp 41)] #[25, 27, 4] co_clocks_Path hs16 (c_clocks_Path N w15 F2 hs16.pers (x0) a0_0 n0_0 hb0_0 (SlA.mono hs0_0 (le13.trans le17)) a0_1 n0_1 hb0_1 (SlA.mono hs0_1 (le13.trans le17)) (x1) (x2) _ hr47) ?_
   intro v49 F4 w50 hs51 le52 hp53
   obtain ⟨ar46_0_0, nr46_0_0, rfl, hbr46_0_0, hsr46_0_0⟩ := hp53
   refine V 38 58 (mv 42 (.tuple #[(.slice ar46_0_0 r46.1.length nr46_0_0), (vi r46.2)])) ?_
   refine V 43 57 (ex 38 0 (.slice ar46_0_0 r46.1.length nr46_0_0) (vs := #[(.slice ar46_0_0 r46.1.length nr46_0_0), (vi r46.2)])) ?_
   refine V 44 30 (ex 38 1 (vi r46.2) (vs := #[(.slice ar46_0_0 r46.1.length nr46_0_0), (vi r46.2)])) ?_
   refine V 12 57 (ma 43 (.slice ar46_0_0 r46.1.length nr46_0_0)) ?_
   refine V 13 30 (ma 44 (vi r46.2)) ?_
   refine Nss (Rg [0, 1, 2, 3, 4, 5, 6, 7, 8] ?_)
   refine V 46 25 (ld 25 5 b1 0 true 3 (.agg (kSystem x0 a0_0 n0_0 a0_1 n0_1)) (hs51.ownAt (k := 1) rfl) e23) ?_
   refine V 47 27 (ld 27 6 b4 0 true 2 (.agg (kRef x1)) (hs51.ownAt (k := 0) rfl) e24) ?_
   obtain ⟨r54, hr55, h56⟩ := bind_some h48
   refine Cl 48 39 21 #[(.tmp 46), (.tmp 47)] #[25, 27] co_clocks_Interval hs51 (c_clocks_Interval N w50 F4 hs51.pers (x0) a0_0 n0_0 hb0_0 (SlA.mono hs0_0 ((le13.trans le17).trans le52)) a0_1 n0_1 hb0_1 (SlA.mono hs0_1 ((le13.trans le17).trans le52)) (x1) _ hr55) ?_
   intro v57 F5 w58 hs59 le60 hp61
   obtain rfl := hp61
   refine V 45 39 (mv 48 (.tuple #[(.agg (kSpan r54.1)), (vi r54.2)])) ?_
   refine V 49 38 (ex 45 0 (.agg (kSpan r54.1)) (vs := #[(.agg (kSpan r54.1)), (vi r54.2)])) ?_
   refine V 50 30 (ex 45 1 (vi r54.2) (vs := #[(.agg (kSpan r54.1)), (vi r54.2)])) ?_
   refine Al 14 0 38 #[(vi 0), (vi 0)] hs59 (fun b62 w63 (hs64 : HS w0 F0 w63 F5 [(sb b62 #[(vi 0), (vi 0)] 38), (sb b4 (kRef x1) 27), (sb b1 (kSystem x0 a0_0 n0_0 a0_1 n0_1) 25)]) => ?_)
   refine RWP.store (ty := 0) (g := none) (by kernel_rfl) rfl (x := (.tmp 14)) (y := (.tmp 49)) (t := 38) (gg := true) (s := 2) (v := (.agg (kSpan r54.1))) (b := b62) (o := 0) (C := #[(vi 0), (vi 0)]) rfl rfl (by kernel_rfl) hs64 (k := 0) rfl rfl rfl rfl (C' := (kSpan r54.1)) rfl (fun w65 (hs66 : HS w0 F0 w65 F5 [(sb b62 (kSpan r54.1) 38), (sb b4 (kRef x1) 27), (sb b1 (kSystem x0 a0_0 n0_0 a0_1 n0_1) 25)]) => ?_)
   refine V 15 30 (ma 50 (vi r54.2)) ?_
   refine Nss (Rg [0, 1, 2, 3, 4, 5, 6, 7] ?_)
   refine V 52 25 (ld 25 5 b1 0 true 3 (.agg (kSystem x0 a0_0 n0_0 a0_1 n0_1)) (hs66.ownAt (k := 2) rfl) e23) ?_
   refine V 53 71 (mv 4 (.slice a4_0 x4.length n4_0) e22) ?_
   obtain ⟨r67, hr68, h69⟩ := bind_some h56
   refine Cl 54 43 55 #[(.tmp 52), (.tmp 53)] #[25, 71] co_clocks_Keeps hs66 (c_clocks_Keeps N w65 F5 hs66.pers (x0) a0_0 n0_0 hb0_0 (SlA.mono hs0_0 (((le13.trans le17).trans le52).trans le60)) a0_1 n0_1 hb0_1 (SlA.mono hs0_1 (((le13.trans le17).trans le52).trans le60)) (x4) a4_0 n4_0 hb4_0 (SlA.mono hs4_0 (((le13.trans le17).trans le52).trans le60)) _ hr68) ?_
   intro v70 F6 w71 hs72 le73 hp74
   obtain rfl := hp74
   refine V 51 43 (mv 54 (.tuple #[(.bool r67.1), (vi r67.2)])) ?_
   refine V 55 4 (ex 51 0 (.bool r67.1) (vs := #[(.bool r67.1), (vi r67.2)])) ?_
   refine V 56 30 (ex 51 1 (vi r67.2) (vs := #[(.bool r67.1), (vi r67.2)])) ?_
   refine V 16 4 (ma 55 (.bool r67.1)) ?_
   refine V 17 30 (ma 56 (vi r67.2)) ?_
   refine Nss (Rg [0, 1, 2, 3, 4, 5, 6, 7, 8, 9] ?_)
   refine V 58 25 (ld 25 5 b1 0 true 3 (.agg (kSystem x0 a0_0 n0_0 a0_1 n0_1)) (hs72.ownAt (k := 2) rfl) e23) ?_
   refine V 59 27 (ld 27 6 b4 0 true 2 (.agg (kRef x1)) (hs72.ownAt (k := 1) rfl) e24) ?_
   refine V 60 4 (mv 2 (.bool x2) e20) ?_
   refine V 61 57 (mv 3 (.slice a3_0 x3.length n3_0) e21) ?_
   obtain ⟨r75, hr76, h77⟩ := bind_some h69
   refine Cl 62 55 61 #[(.tmp 58), (.tmp 59), (.tmp 60), (.tmp 61)] #[25, 27, 4, 57] co_clocks_ValidPath hs72 (c_clocks_ValidPath N w71 F6 hs72.pers (x0) a0_0 n0_0 hb0_0 (SlA.mono hs0_0 ((((le13.trans le17).trans le52).trans le60).trans le73)) a0_1 n0_1 hb0_1 (SlA.mono hs0_1 ((((le13.trans le17).trans le52).trans le60).trans le73)) (x1) (x2) (x3) a3_0 n3_0 hb3_0 (SlA.mono hs3_0 ((((le13.trans le17).trans le52).trans le60).trans le73)) _ hr76) ?_
   intro v78 F7 w79 hs80 le81 hp82
   obtain rfl := hp82
   refine V 57 55 (mv 62 (.tuple #[(vi r75.1), (vi r75.2)])) ?_
   refine V 63 3 (ex 57 0 (vi r75.1) (vs := #[(vi r75.1), (vi r75.2)])) ?_
   refine V 64 30 (ex 57 1 (vi r75.2) (vs := #[(vi r75.1), (vi r75.2)])) ?_
   refine V 18 3 (ma 63 (vi r75.1)) ?_
   refine V 19 30 (ma 64 (vi r75.2)) ?_
   refine Nss ?_
   refine Sq (Rg [0, 1, 2, 3, 4, 5, 6, 7, 8] ?_)
   refine RWP.cut (fun f w => ∃ (F8 : Mem), HS w0 F0 w F8 [(sb b62 (kSpan r54.1) 38), (sb b4 (kRef x1) 27), (sb b1 (kSystem x0 a0_0 n0_0 a0_1 n0_1) 25)] ∧ Mem.le F7 F8 ∧ f.d = [] ∧ f 2 = (.bool x2) ∧ f 4 = (.slice a4_0 x4.length n4_0) ∧ f 5 = (.pointer (some ⟨b1, 0, none⟩)) ∧ f 6 = (.pointer (some ⟨b4, 0, none⟩)) ∧ f 11 = (.bool r7) ∧ f 12 = (.slice ar46_0_0 r46.1.length nr46_0_0) ∧ f 13 = (vi r46.2) ∧ f 14 = (.pointer (some ⟨b62, 0, none⟩)) ∧ f 15 = (vi r54.2) ∧ f 18 = (vi r75.1) ∧ f 19 = (vi r75.2) ∧ f 73 = (.bool ((r75.2 == 0) && ((r67.2 == 0) && r67.1)))) ?_ ?_
   ·refine V 65 30 (mv 19 (vi r75.2)) ?_
    refine V 66 4 (run_eql (t := 30) (t' := 30) (x := (.tmp 65)) (y := (.const (vi 0))) (k := .i64) (a := r75.2) (b := 0) rfl rfl) ?_
    refine V 67 4 (mv 66 (.bool (r75.2 == 0))) ?_
    refine RWP.split (r75.2 == 0) (fun hb99 => ?_) (fun hb99 => ?_)
    ·refine Vg 68 30 2 true 67 hb99 (mv 17 (vi r67.2)) ?_
     refine Vg 69 4 2 true 67 hb99 (run_eql (t := 30) (t' := 30) (x := (.tmp 68)) (y := (.const (vi 0))) (k := .i64) (a := r67.2) (b := 0) rfl rfl) ?_
     refine V 70 4 (p1 67 (.tmp 69) (.const (.bool false)) (.bool (r67.2 == 0)) hb99) ?_
     refine V 71 4 (mv 70 (.bool (r67.2 == 0))) ?_
     refine RWP.split (r67.2 == 0) (fun hb100 => ?_) (fun hb100 => ?_)
     ·refine Vg 72 4 6 true 71 hb100 (mv 16 (.bool r67.1)) ?_
      refine V 73 4 (p1 71 (.tmp 72) (.const (.bool false)) (.bool r67.1) hb100) ?_
      exact RWP.nil ⟨rfl, F7, hs80, (Mem.le.refl _), e19, e20, e22, e23, e24, e25, rfl, rfl, rfl, rfl, rfl, rfl, (congrArg Value.bool (and_t hb99 (and_t hb100 (rfl))))⟩
     ·refine Sk [72] 6 true 71 hb100 ?_
      refine V 73 4 (p0 71 (.tmp 72) (.const (.bool false)) (.bool false) hb100) ?_
      exact RWP.nil ⟨rfl, F7, hs80, (Mem.le.refl _), e19, e20, e22, e23, e24, e25, rfl, rfl, rfl, rfl, rfl, rfl, (congrArg Value.bool (and_t hb99 (and_f hb100 (rfl))))⟩
    ·refine Sk [68, 69] 2 true 67 hb99 ?_
     refine V 70 4 (p0 67 (.tmp 69) (.const (.bool false)) (.bool false) hb99) ?_
     refine V 71 4 (mv 70 (.bool false)) ?_
     refine Sk [72] 6 true 71 rfl ?_
     refine V 73 4 (p0 71 (.tmp 72) (.const (.bool false)) (.bool false) rfl) ?_
     exact RWP.nil ⟨rfl, F7, hs80, (Mem.le.refl _), e19, e20, e22, e23, e24, e25, rfl, rfl, rfl, rfl, rfl, rfl, (congrArg Value.bool (and_f hb99 (rfl)))⟩
   ·rintro f w83 ⟨F8, hs84, le85, e86, e87, e88, e89, e90, e91, e92, e93, e94, e95, e96, e97, e98⟩
    refine thenQ_nrm ?_
    refine CWP.cond (t := ((r75.2 == 0) && ((r67.2 == 0) && r67.1))) (by kernel_rfl) e98 (fun hb101 => ?_) (fun hb101 => ?_)
    ·have h102 := cond_t h77 hb101
     refine Sq ?_
     refine Sq ?_
     obtain ⟨j108, hj122, h123⟩ := bind_some h102
     refine CWP.regionD (by kernel_rfl) (by kernel_rfl) (by kernel_rfl) (by kernel_rfl) (z := 26) (F := F8) (Lc := [(sb b62 (kSpan r54.1) 38), (sb b4 (kRef x1) 27), (sb b1 (kSystem x0 a0_0 n0_0 a0_1 n0_1) 25)]) (Lz := []) (l := [false, false, false, false, false, false, false, false, false, false, false, false, false, false, false, false, false, false, false, false, false, false, false, false, false, false]) (fuel := 26) (by kernel_rfl) (by kernel_rfl) hs84 (by simp) (by simp) (fun f w => ∃ (F9 : Mem), HS w0 F0 w F9 [(sb b62 (kSpan r54.1) 38), (sb b4 (kRef x1) 27), (sb b1 (kSystem x0 a0_0 n0_0 a0_1 n0_1) 25)] ∧ Mem.le F8 F9 ∧ f.d = [] ∧ f 2 = (.bool x2) ∧ f 4 = (.slice a4_0 x4.length n4_0) ∧ f 5 = (.pointer (some ⟨b1, 0, none⟩)) ∧ f 6 = (.pointer (some ⟨b4, 0, none⟩)) ∧ f 11 = (.bool r7) ∧ f 12 = (.slice ar46_0_0 r46.1.length nr46_0_0) ∧ f 13 = (vi r46.2) ∧ f 14 = (.pointer (some ⟨b62, 0, none⟩)) ∧ f 15 = (vi r54.2) ∧ f 18 = (vi r75.1) ∧ f 19 = (vi r75.2) ∧ f 99 = (.bool j108)) (fun wd103 hw104 => ?_) ?_
     ·refine Dtl 0 74 0 (.pointer (some ⟨b4, 0, none⟩)) [tt, ff, ff, ff, ff, ff, ff, ff, ff, ff, ff, ff, ff, ff, ff, ff, ff, ff, ff, ff, ff, ff, ff, ff, ff, ff] (fun _ hq => fa 27 6 0 0 1 b4 0 0 e90) ?_
      refine Dtl 1 75 3 _ [tt, tt, ff, ff, ff, ff, ff, ff, ff, ff, ff, ff, ff, ff, ff, ff, ff, ff, ff, ff, ff, ff, ff, ff, ff, ff] (fun _ hq => ld 3 74 b4 0 false 1 (vi x1.Log) (hq.1.2 1 _ _ rfl)) ?_
      refine Dtl 2 76 4 (.bool (decide (x1.Log < 0))) [tt, tt, tt, ff, ff, ff, ff, ff, ff, ff, ff, ff, ff, ff, ff, ff, ff, ff, ff, ff, ff, ff, ff, ff, ff, ff] (fun _ hq => run_lss (t := 3) (t' := 3) (x := (.tmp 75)) (y := (.const (vi 0))) (k := .i64) (a := x1.Log) (b := 0) rfl rfl) ?_
      refine Dtl 3 77 4 _ [tt, tt, tt, tt, ff, ff, ff, ff, ff, ff, ff, ff, ff, ff, ff, ff, ff, ff, ff, ff, ff, ff, ff, ff, ff, ff] (fun _ hq => mv 76 (.bool (decide (x1.Log < 0)))) ?_
      refine DWP.split (decide (x1.Log < 0)) (fun hb124 => ?_) (fun hb124 => ?_)
      ·have h125 := cond_t hj122 hb124
       refine Dkl [(4, 78), (5, 79), (6, 80), (7, 81), (8, 82)] 3 false 77 hb124 [tt, tt, tt, tt, tt, tt, tt, tt, tt, ff, ff, ff, ff, ff, ff, ff, ff, ff, ff, ff, ff, ff, ff, ff, ff, ff] ?_
       refine Dtl 9 83 4 _ [tt, tt, tt, tt, tt, tt, tt, tt, tt, tt, ff, ff, ff, ff, ff, ff, ff, ff, ff, ff, ff, ff, ff, ff, ff, ff] (fun _ hq => p1 77 (.const (.bool true)) (.tmp 82) (.bool true) hb124) ?_
       refine Dtl 10 84 4 _ [tt, tt, tt, tt, tt, tt, tt, tt, tt, tt, tt, ff, ff, ff, ff, ff, ff, ff, ff, ff, ff, ff, ff, ff, ff, ff] (fun _ hq => mv 83 (.bool true)) ?_
       refine Dkl [(11, 85), (12, 86), (13, 87)] 10 false 84 rfl [tt, tt, tt, tt, tt, tt, tt, tt, tt, tt, tt, tt, tt, tt, ff, ff, ff, ff, ff, ff, ff, ff, ff, ff, ff, ff] ?_
       refine Dtl 14 88 4 _ [tt, tt, tt, tt, tt, tt, tt, tt, tt, tt, tt, tt, tt, tt, tt, ff, ff, ff, ff, ff, ff, ff, ff, ff, ff, ff] (fun _ hq => p1 84 (.const (.bool true)) (.tmp 87) (.bool true) rfl) ?_
       refine Dtl 15 89 4 _ [tt, tt, tt, tt, tt, tt, tt, tt, tt, tt, tt, tt, tt, tt, tt, tt, ff, ff, ff, ff, ff, ff, ff, ff, ff, ff] (fun _ hq => mv 88 (.bool true)) ?_
       refine Dkl [(16, 90), (17, 91), (18, 92), (19, 93), (20, 94), (21, 95)] 15 false 89 rfl [tt, tt, tt, tt, tt, tt, tt, tt, tt, tt, tt, tt, tt, tt, tt, tt, tt, tt, tt, tt, tt, tt, ff, ff, ff, ff] ?_
       refine Dkl [(22, 96), (23, 97), (24, 98)] 15 false 89 rfl [tt, tt, tt, tt, tt, tt, tt, tt, tt, tt, tt, tt, tt, tt, tt, tt, tt, tt, tt, tt, tt, tt, tt, tt, tt, ff] ?_
       refine Dtl 25 99 4 _ [tt, tt, tt, tt, tt, tt, tt, tt, tt, tt, tt, tt, tt, tt, tt, tt, tt, tt, tt, tt, tt, tt, tt, tt, tt, tt] (fun _ hq => p1 89 (.const (.bool true)) (.tmp 98) (.bool true) rfl) ?_
       obtain rfl := some_inj h125
       exact DWP.done (by kernel_rfl) ⟨F8, hw104, (Mem.le.refl _), e86, e87, e88, e89, e90, e91, e92, e93, e94, e95, e96, e97, rfl⟩
      ·have h126 := cond_f hj122 hb124
       refine Dgl 4 78 0 (.pointer (some ⟨b4, 0, none⟩)) [tt, tt, tt, tt, tt, ff, ff, ff, ff, ff, ff, ff, ff, ff, ff, ff, ff, ff, ff, ff, ff, ff, ff, ff, ff, ff] 3 false 77 hb124 (fun _ hq => fa 27 6 0 0 1 b4 0 0 e90) ?_
       refine Dgl 5 79 3 _ [tt, tt, tt, tt, tt, tt, ff, ff, ff, ff, ff, ff, ff, ff, ff, ff, ff, ff, ff, ff, ff, ff, ff, ff, ff, ff] 3 false 77 hb124 (fun _ hq => ld 3 78 b4 0 false 1 (vi x1.Log) (hq.1.2 1 _ _ rfl)) ?_
       refine Dgl 6 80 71 _ [tt, tt, tt, tt, tt, tt, tt, ff, ff, ff, ff, ff, ff, ff, ff, ff, ff, ff, ff, ff, ff, ff, ff, ff, ff, ff] 3 false 77 hb124 (fun _ hq => mv 4 (.slice a4_0 x4.length n4_0) e88) ?_
       refine Dgl 7 81 3 (vi (x4.length : Int)) [tt, tt, tt, tt, tt, tt, tt, tt, ff, ff, ff, ff, ff, ff, ff, ff, ff, ff, ff, ff, ff, ff, ff, ff, ff, ff] 3 false 77 hb124 (fun _ hq => ln 80 71 a4_0 x4.length n4_0 50 1 24) ?_
       refine Dgl 8 82 4 (.bool (decide (x1.Log ≥ (x4.length : Int)))) [tt, tt, tt, tt, tt, tt, tt, tt, tt, ff, ff, ff, ff, ff, ff, ff, ff, ff, ff, ff, ff, ff, ff, ff, ff, ff] 3 false 77 hb124 (fun _ hq => run_geq (t := 3) (t' := 3) (x := (.tmp 79)) (y := (.tmp 81)) (k := .i64) (a := x1.Log) (b := (x4.length : Int)) rfl rfl) ?_
       refine Dtl 9 83 4 _ [tt, tt, tt, tt, tt, tt, tt, tt, tt, tt, ff, ff, ff, ff, ff, ff, ff, ff, ff, ff, ff, ff, ff, ff, ff, ff] (fun _ hq => p0 77 (.const (.bool true)) (.tmp 82) (.bool (decide (x1.Log ≥ (x4.length : Int)))) hb124) ?_
       refine Dtl 10 84 4 _ [tt, tt, tt, tt, tt, tt, tt, tt, tt, tt, tt, ff, ff, ff, ff, ff, ff, ff, ff, ff, ff, ff, ff, ff, ff, ff] (fun _ hq => mv 83 (.bool (decide (x1.Log ≥ (x4.length : Int))))) ?_
       refine DWP.split (decide (x1.Log ≥ (x4.length : Int))) (fun hb127 => ?_) (fun hb127 => ?_)
       ·have h128 := cond_t h126 hb127
        refine Dkl [(11, 85), (12, 86), (13, 87)] 10 false 84 hb127 [tt, tt, tt, tt, tt, tt, tt, tt, tt, tt, tt, tt, tt, tt, ff, ff, ff, ff, ff, ff, ff, ff, ff, ff, ff, ff] ?_
        refine Dtl 14 88 4 _ [tt, tt, tt, tt, tt, tt, tt, tt, tt, tt, tt, tt, tt, tt, tt, ff, ff, ff, ff, ff, ff, ff, ff, ff, ff, ff] (fun _ hq => p1 84 (.const (.bool true)) (.tmp 87) (.bool true) hb127) ?_
        refine Dtl 15 89 4 _ [tt, tt, tt, tt, tt, tt, tt, tt, tt, tt, tt, tt, tt, tt, tt, tt, ff, ff, ff, ff, ff, ff, ff, ff, ff, ff] (fun _ hq => mv 88 (.bool true)) ?_
        refine Dkl [(16, 90), (17, 91), (18, 92), (19, 93), (20, 94), (21, 95)] 15 false 89 rfl [tt, tt, tt, tt, tt, tt, tt, tt, tt, tt, tt, tt, tt, tt, tt, tt, tt, tt, tt, tt, tt, tt, ff, ff, ff, ff] ?_
        refine Dkl [(22, 96), (23, 97), (24, 98)] 15 false 89 rfl [tt, tt, tt, tt, tt, tt, tt, tt, tt, tt, tt, tt, tt, tt, tt, tt, tt, tt, tt, tt, tt, tt, tt, tt, tt, ff] ?_
        refine Dtl 25 99 4 _ [tt, tt, tt, tt, tt, tt, tt, tt, tt, tt, tt, tt, tt, tt, tt, tt, tt, tt, tt, tt, tt, tt, tt, tt, tt, tt] (fun _ hq => p1 89 (.const (.bool true)) (.tmp 98) (.bool true) rfl) ?_
        obtain rfl := some_inj h128
        exact DWP.done (by kernel_rfl) ⟨F8, hw104, (Mem.le.refl _), e86, e87, e88, e89, e90, e91, e92, e93, e94, e95, e96, e97, rfl⟩
       ·have h129 := cond_f h126 hb127
        refine Dgl 11 85 0 (.pointer (some ⟨b4, 1, none⟩)) [tt, tt, tt, tt, tt, tt, tt, tt, tt, tt, tt, tt, ff, ff, ff, ff, ff, ff, ff, ff, ff, ff, ff, ff, ff, ff] 10 false 84 hb127 (fun _ hq => fa 27 6 1 1 1 b4 0 1 e90) ?_
        refine Dgl 12 86 3 _ [tt, tt, tt, tt, tt, tt, tt, tt, tt, tt, tt, tt, tt, ff, ff, ff, ff, ff, ff, ff, ff, ff, ff, ff, ff, ff] 10 false 84 hb127 (fun _ hq => ld 3 85 b4 1 false 1 (vi x1.Line) (hq.1.2 1 _ _ rfl)) ?_
        refine Dgl 13 87 4 (.bool (decide (x1.Line < 0))) [tt, tt, tt, tt, tt, tt, tt, tt, tt, tt, tt, tt, tt, tt, ff, ff, ff, ff, ff, ff, ff, ff, ff, ff, ff, ff] 10 false 84 hb127 (fun _ hq => run_lss (t := 3) (t' := 3) (x := (.tmp 86)) (y := (.const (vi 0))) (k := .i64) (a := x1.Line) (b := 0) rfl rfl) ?_
        refine Dtl 14 88 4 _ [tt, tt, tt, tt, tt, tt, tt, tt, tt, tt, tt, tt, tt, tt, tt, ff, ff, ff, ff, ff, ff, ff, ff, ff, ff, ff] (fun _ hq => p0 84 (.const (.bool true)) (.tmp 87) (.bool (decide (x1.Line < 0))) hb127) ?_
        refine Dtl 15 89 4 _ [tt, tt, tt, tt, tt, tt, tt, tt, tt, tt, tt, tt, tt, tt, tt, tt, ff, ff, ff, ff, ff, ff, ff, ff, ff, ff] (fun _ hq => mv 88 (.bool (decide (x1.Line < 0)))) ?_
        refine DWP.split (decide (x1.Line < 0)) (fun hb130 => ?_) (fun hb130 => ?_)
        ·have h131 := cond_t h129 hb130
         refine Dkl [(16, 90), (17, 91), (18, 92), (19, 93), (20, 94), (21, 95)] 15 false 89 hb130 [tt, tt, tt, tt, tt, tt, tt, tt, tt, tt, tt, tt, tt, tt, tt, tt, tt, tt, tt, tt, tt, tt, ff, ff, ff, ff] ?_
         refine Dkl [(22, 96), (23, 97), (24, 98)] 15 false 89 hb130 [tt, tt, tt, tt, tt, tt, tt, tt, tt, tt, tt, tt, tt, tt, tt, tt, tt, tt, tt, tt, tt, tt, tt, tt, tt, ff] ?_
         refine Dtl 25 99 4 _ [tt, tt, tt, tt, tt, tt, tt, tt, tt, tt, tt, tt, tt, tt, tt, tt, tt, tt, tt, tt, tt, tt, tt, tt, tt, tt] (fun _ hq => p1 89 (.const (.bool true)) (.tmp 98) (.bool true) hb130) ?_
         obtain rfl := some_inj h131
         exact DWP.done (by kernel_rfl) ⟨F8, hw104, (Mem.le.refl _), e86, e87, e88, e89, e90, e91, e92, e93, e94, e95, e96, e97, rfl⟩
        ·have h132 := cond_f h129 hb130
         refine Dgl 16 90 0 (.pointer (some ⟨b4, 1, none⟩)) [tt, tt, tt, tt, tt, tt, tt, tt, tt, tt, tt, tt, tt, tt, tt, tt, tt, ff, ff, ff, ff, ff, ff, ff, ff, ff] 15 false 89 hb130 (fun _ hq => fa 27 6 1 1 1 b4 0 1 e90) ?_
         refine Dgl 17 91 3 _ [tt, tt, tt, tt, tt, tt, tt, tt, tt, tt, tt, tt, tt, tt, tt, tt, tt, tt, ff, ff, ff, ff, ff, ff, ff, ff] 15 false 89 hb130 (fun _ hq => ld 3 90 b4 1 false 1 (vi x1.Line) (hq.1.2 1 _ _ rfl)) ?_
         refine Dgl 18 92 71 _ [tt, tt, tt, tt, tt, tt, tt, tt, tt, tt, tt, tt, tt, tt, tt, tt, tt, tt, tt, ff, ff, ff, ff, ff, ff, ff] 15 false 89 hb130 (fun _ hq => mv 4 (.slice a4_0 x4.length n4_0) e88) ?_
         refine Dgl 19 93 0 (.pointer (some ⟨b4, 0, none⟩)) [tt, tt, tt, tt, tt, tt, tt, tt, tt, tt, tt, tt, tt, tt, tt, tt, tt, tt, tt, tt, ff, ff, ff, ff, ff, ff] 15 false 89 hb130 (fun _ hq => fa 27 6 0 0 1 b4 0 0 e90) ?_
         refine Dgl 20 94 3 _ [tt, tt, tt, tt, tt, tt, tt, tt, tt, tt, tt, tt, tt, tt, tt, tt, tt, tt, tt, tt, tt, ff, ff, ff, ff, ff] 15 false 89 hb130 (fun _ hq => ld 3 93 b4 0 false 1 (vi x1.Log) (hq.1.2 1 _ _ rfl)) ?_
         obtain ⟨x133, hx134, h136⟩ := bind_some h132
         obtain ⟨hi135, hx134'⟩ := idx_spec hx134
         obtain ⟨b137, o138, C139, E140, fz141, rfl, hF143, hE144⟩ := SlA.open (SlA.mono hs4_0 ((((((le13.trans le17).trans le52).trans le60).trans le73).trans le81).trans le85)) hx134'
         obtain ⟨ae145_0, ne145_0, hc146, hbe145_0, hse145_0⟩ := hE144 _ _ hx134'
         refine Dgl 21 95 0 (.pointer (some ⟨b137, (o138 + (x1.Log : Int).toNat * 1), none⟩)) [tt, tt, tt, tt, tt, tt, tt, tt, tt, tt, tt, tt, tt, tt, tt, tt, tt, tt, tt, tt, tt, tt, ff, ff, ff, ff] 15 false 89 hb130 (fun _ hq => ix 71 92 94 b137 o138 50 1 24 hi135) ?_
         refine Dgl 22 96 50 _ [tt, tt, tt, tt, tt, tt, tt, tt, tt, tt, tt, tt, tt, tt, tt, tt, tt, tt, tt, tt, tt, tt, tt, ff, ff, ff] 15 false 89 hb130 (fun _ hq => lx 50 95 0 1 false 1 (.slice ae145_0 x133.length ne145_0) (hq.1.1 _ _ hF143) hc146) ?_
         refine Dgl 23 97 3 (vi (x133.length : Int)) [tt, tt, tt, tt, tt, tt, tt, tt, tt, tt, tt, tt, tt, tt, tt, tt, tt, tt, tt, tt, tt, tt, tt, tt, ff, ff] 15 false 89 hb130 (fun _ hq => ln 96 50 ae145_0 x133.length ne145_0 3 1 8) ?_
         refine Dgl 24 98 4 (.bool (decide (x1.Line ≥ (x133.length : Int)))) [tt, tt, tt, tt, tt, tt, tt, tt, tt, tt, tt, tt, tt, tt, tt, tt, tt, tt, tt, tt, tt, tt, tt, tt, tt, ff] 15 false 89 hb130 (fun _ hq => run_geq (t := 3) (t' := 3) (x := (.tmp 91)) (y := (.tmp 97)) (k := .i64) (a := x1.Line) (b := (x133.length : Int)) rfl rfl) ?_
         refine Dtl 25 99 4 _ [tt, tt, tt, tt, tt, tt, tt, tt, tt, tt, tt, tt, tt, tt, tt, tt, tt, tt, tt, tt, tt, tt, tt, tt, tt, tt] (fun _ hq => p0 89 (.const (.bool true)) (.tmp 98) (.bool (decide (x1.Line ≥ (x133.length : Int)))) hb130) ?_
         obtain rfl := some_inj h136
         exact DWP.done (by kernel_rfl) ⟨F8, hw104, (Mem.le.refl _), e86, e87, e88, e89, e90, e91, e92, e93, e94, e95, e96, e97, rfl⟩
     ·rintro f w105 ⟨F9, hs106, le107, e109, e110, e111, e112, e113, e114, e115, e116, e117, e118, e119, e120, e121⟩
      refine thenQ_nrm ?_
      refine CWP.cond (t := j108) (by kernel_rfl) e121 (fun hb147 => ?_) (fun hb147 => ?_)
      ·have h148 := cond_t h123 hb147
       refine Sq (Rg [0] ?_)
       refine V 10 4 (mc (.bool false) (.bool false)) ?_
       refine Nt ?_
       refine CWP.ret (by kernel_rfl) ?_
       refine thenQ_ret ?_
       refine thenQ_ret ?_
       have hfin := some_inj h148
       subst hfin
       exact ⟨e109, (.bool false), res_of (l := [.tmp 10]) (by kernel_rfl) (vs := [(.bool false)]) ⟨rfl, trivial⟩, (.bool false), F9, rfl, hs106.clear, rfl⟩
      ·have h149 := cond_f h123 hb147
       refine Sc ?_
       refine thenQ_nrm ?_
       refine Sq ?_
       obtain ⟨j155, hj168, h169⟩ := bind_some h149
       refine CWP.regionD (by kernel_rfl) (by kernel_rfl) (by kernel_rfl) (by kernel_rfl) (z := 10) (F := F9) (Lc := [(sb b62 (kSpan r54.1) 38), (sb b4 (kRef x1) 27), (sb b1 (kSystem x0 a0_0 n0_0 a0_1 n0_1) 25)]) (Lz := []) (l := [false, false, false, false, false, false, false, false, false, false]) (fuel := 10) (by kernel_rfl) (by kernel_rfl) hs106 (by simp) (by simp) (fun f w => ∃ (F10 : Mem), HS w0 F0 w F10 [(sb b62 (kSpan r54.1) 38), (sb b4 (kRef x1) 27), (sb b1 (kSystem x0 a0_0 n0_0 a0_1 n0_1) 25)] ∧ Mem.le F9 F10 ∧ f.d = [] ∧ f 2 = (.bool x2) ∧ f 5 = (.pointer (some ⟨b1, 0, none⟩)) ∧ f 6 = (.pointer (some ⟨b4, 0, none⟩)) ∧ f 11 = (.bool r7) ∧ f 12 = (.slice ar46_0_0 r46.1.length nr46_0_0) ∧ f 13 = (vi r46.2) ∧ f 14 = (.pointer (some ⟨b62, 0, none⟩)) ∧ f 15 = (vi r54.2) ∧ f 18 = (vi r75.1) ∧ f 19 = (vi r75.2) ∧ f 20 = (vi j155)) (fun wd150 hw151 => ?_) ?_
       ·refine Dt 0 100 71 _ (fun _ hq => mv 4 (.slice a4_0 x4.length n4_0) e111) ?_
        refine Dt 1 101 0 (.pointer (some ⟨b4, 0, none⟩)) (fun _ hq => fa 27 6 0 0 1 b4 0 0 e113) ?_
        refine Dt 2 102 3 _ (fun _ hq => ld 3 101 b4 0 false 1 (vi x1.Log) (hq.1.2 1 _ _ rfl)) ?_
        obtain ⟨x170, hx171, h173⟩ := bind_some hj168
        obtain ⟨hi172, hx171'⟩ := idx_spec hx171
        obtain ⟨b174, o175, C176, E177, fz178, rfl, hF180, hE181⟩ := SlA.open (SlA.mono hs4_0 (((((((le13.trans le17).trans le52).trans le60).trans le73).trans le81).trans le85).trans le107)) hx171'
        obtain ⟨ae182_0, ne182_0, hc183, hbe182_0, hse182_0⟩ := hE181 _ _ hx171'
        refine Dt 3 103 0 (.pointer (some ⟨b174, (o175 + (x1.Log : Int).toNat * 1), none⟩)) (fun _ hq => ix 71 100 102 b174 o175 50 1 24 hi172) ?_
        refine Dt 4 104 50 _ (fun _ hq => lx 50 103 0 1 false 1 (.slice ae182_0 x170.length ne182_0) (hq.1.1 _ _ hF180) hc183) ?_
        refine Dt 5 105 0 (.pointer (some ⟨b4, 1, none⟩)) (fun _ hq => fa 27 6 1 1 1 b4 0 1 e113) ?_
        refine Dt 6 106 3 _ (fun _ hq => ld 3 105 b4 1 false 1 (vi x1.Line) (hq.1.2 1 _ _ rfl)) ?_
        obtain ⟨x184, hx185, h187⟩ := bind_some h173
        obtain ⟨hi186, hx185'⟩ := idx_spec hx185
        obtain ⟨b188, o189, C190, E191, fz192, rfl, hF194, hE195⟩ := SlA.open hse182_0 hx185'
        have hc197 := hE195 _ _ hx185'
        refine Dt 7 107 0 (.pointer (some ⟨b188, (o189 + (x1.Line : Int).toNat * 1), none⟩)) (fun _ hq => ix 50 104 106 b188 o189 3 1 8 hi186) ?_
        refine Dt 8 108 3 _ (fun _ hq => lx 3 107 0 1 false 1 (vi x184) (hq.1.1 _ _ hF194) hc197) ?_
        refine Dt 9 20 3 _ (fun _ hq => ma 108 (vi x184)) ?_
        obtain rfl := some_inj h187
        exact DWP.done (by kernel_rfl) ⟨F9, hw151, (Mem.le.refl _), e109, e110, e112, e113, e114, e115, e116, e117, e118, e119, e120, rfl⟩
       ·rintro f w152 ⟨F10, hs153, le154, e156, e157, e158, e159, e160, e161, e162, e163, e164, e165, e166, e167⟩
        refine thenQ_nrm ?_
        refine Sq (Rg [0, 1, 2, 3, 4, 5, 6, 7, 8, 9, 10, 11, 12, 13, 14] ?_)
        refine RWP.cut (fun f w => ∃ (F11 : Mem), HS w0 F0 w F11 [(sb b62 (kSpan r54.1) 38), (sb b4 (kRef x1) 27), (sb b1 (kSystem x0 a0_0 n0_0 a0_1 n0_1) 25)] ∧ Mem.le F10 F11 ∧ f.d = [] ∧ f 2 = (.bool x2) ∧ f 5 = (.pointer (some ⟨b1, 0, none⟩)) ∧ f 6 = (.pointer (some ⟨b4, 0, none⟩)) ∧ f 11 = (.bool r7) ∧ f 12 = (.slice ar46_0_0 r46.1.length nr46_0_0) ∧ f 13 = (vi r46.2) ∧ f 14 = (.pointer (some ⟨b62, 0, none⟩)) ∧ f 15 = (vi r54.2) ∧ f 18 = (vi r75.1) ∧ f 19 = (vi r75.2) ∧ f 123 = (.bool (bif x2 then ((decide (j155 > r75.1)) || ((!x2) && (decide (j155 < r75.1)))) else ((!x2) && (decide (j155 < r75.1)))))) ?_ ?_
        ·refine V 109 4 (mv 2 (.bool x2) e157) ?_
         refine V 110 4 (mv 109 (.bool x2)) ?_
         refine RWP.split x2 (fun hb213 => ?_) (fun hb213 => ?_)
         ·refine Vg 111 3 1 true 110 hb213 (mv 20 (vi j155) e167) ?_
          refine Vg 112 3 1 true 110 hb213 (mv 18 (vi r75.1) e165) ?_
          refine Vg 113 4 1 true 110 hb213 (run_gtr (t := 3) (t' := 3) (x := (.tmp 111)) (y := (.tmp 112)) (k := .i64) (a := j155) (b := r75.1) rfl rfl) ?_
          refine V 114 4 (p1 110 (.tmp 113) (.const (.bool false)) (.bool (decide (j155 > r75.1))) hb213) ?_
          refine V 115 4 (mv 114 (.bool (decide (j155 > r75.1)))) ?_
          refine RWP.split (decide (j155 > r75.1)) (fun hb214 => ?_) (fun hb214 => ?_)
          ·refine Sk [116, 117, 118] 6 false 115 hb214 ?_
           refine Su [119, 120, 121] 9 true 118 ?_
           refine Sk [122] 6 false 115 hb214 ?_
           refine V 123 4 (p1 115 (.const (.bool true)) (.tmp 122) (.bool true) hb214) ?_
           exact RWP.nil ⟨rfl, F10, hs153, (Mem.le.refl _), e156, e157, e158, e159, e160, e161, e162, e163, e164, e165, e166, (congrArg Value.bool (bif_t hb213 (or_t hb214 (rfl))))⟩
          ·refine Vg 116 4 6 false 115 hb214 (mv 2 (.bool x2) e157) ?_
           refine Vg 117 4 6 false 115 hb214 (run_not (t := 4) (x := (.tmp 116)) (a := x2) rfl) ?_
           refine Vg 118 4 6 false 115 hb214 (mv 117 (.bool (!x2))) ?_
           refine RWP.split (!x2) (fun hb215 => ?_) (fun hb215 => ?_)
           ·refine Vg 119 3 9 true 118 hb215 (mv 20 (vi j155) e167) ?_
            refine Vg 120 3 9 true 118 hb215 (mv 18 (vi r75.1) e165) ?_
            refine Vg 121 4 9 true 118 hb215 (run_lss (t := 3) (t' := 3) (x := (.tmp 119)) (y := (.tmp 120)) (k := .i64) (a := j155) (b := r75.1) rfl rfl) ?_
            refine Vg 122 4 6 false 115 hb214 (p1 118 (.tmp 121) (.const (.bool false)) (.bool (decide (j155 < r75.1))) hb215) ?_
            refine V 123 4 (p0 115 (.const (.bool true)) (.tmp 122) (.bool (decide (j155 < r75.1))) hb214) ?_
            exact RWP.nil ⟨rfl, F10, hs153, (Mem.le.refl _), e156, e157, e158, e159, e160, e161, e162, e163, e164, e165, e166, (congrArg Value.bool (bif_t hb213 (or_f hb214 (and_t hb215 (rfl)))))⟩
           ·refine Sk [119, 120, 121] 9 true 118 hb215 ?_
            refine Vg 122 4 6 false 115 hb214 (p0 118 (.tmp 121) (.const (.bool false)) (.bool false) hb215) ?_
            refine V 123 4 (p0 115 (.const (.bool true)) (.tmp 122) (.bool false) hb214) ?_
            exact RWP.nil ⟨rfl, F10, hs153, (Mem.le.refl _), e156, e157, e158, e159, e160, e161, e162, e163, e164, e165, e166, (congrArg Value.bool (bif_t hb213 (or_f hb214 (and_f hb215 (rfl)))))⟩
         ·refine Sk [111, 112, 113] 1 true 110 hb213 ?_
          refine V 114 4 (p0 110 (.tmp 113) (.const (.bool false)) (.bool false) hb213) ?_
          refine V 115 4 (mv 114 (.bool false)) ?_
          refine Vg 116 4 6 false 115 rfl (mv 2 (.bool x2) e157) ?_
          refine Vg 117 4 6 false 115 rfl (run_not (t := 4) (x := (.tmp 116)) (a := x2) rfl) ?_
          refine Vg 118 4 6 false 115 rfl (mv 117 (.bool (!x2))) ?_
          refine RWP.split (!x2) (fun hb216 => ?_) (fun hb216 => ?_)
          ·refine Vg 119 3 9 true 118 hb216 (mv 20 (vi j155) e167) ?_
           refine Vg 120 3 9 true 118 hb216 (mv 18 (vi r75.1) e165) ?_
           refine Vg 121 4 9 true 118 hb216 (run_lss (t := 3) (t' := 3) (x := (.tmp 119)) (y := (.tmp 120)) (k := .i64) (a := j155) (b := r75.1) rfl rfl) ?_
           refine Vg 122 4 6 false 115 rfl (p1 118 (.tmp 121) (.const (.bool false)) (.bool (decide (j155 < r75.1))) hb216) ?_
           refine V 123 4 (p0 115 (.const (.bool true)) (.tmp 122) (.bool (decide (j155 < r75.1))) rfl) ?_
           exact RWP.nil ⟨rfl, F10, hs153, (Mem.le.refl _), e156, e157, e158, e159, e160, e161, e162, e163, e164, e165, e166, (congrArg Value.bool (bif_f hb213 (and_t hb216 (rfl))))⟩
          ·refine Sk [119, 120, 121] 9 true 118 hb216 ?_
           refine Vg 122 4 6 false 115 rfl (p0 118 (.tmp 121) (.const (.bool false)) (.bool false) hb216) ?_
           refine V 123 4 (p0 115 (.const (.bool true)) (.tmp 122) (.bool false) rfl) ?_
           exact RWP.nil ⟨rfl, F10, hs153, (Mem.le.refl _), e156, e157, e158, e159, e160, e161, e162, e163, e164, e165, e166, (congrArg Value.bool (bif_f hb213 (and_f hb216 (rfl))))⟩
        ·rintro f w198 ⟨F11, hs199, le200, e201, e202, e203, e204, e205, e206, e207, e208, e209, e210, e211, e212⟩
         refine thenQ_nrm ?_
         refine CWP.cond (t := (bif x2 then ((decide (j155 > r75.1)) || ((!x2) && (decide (j155 < r75.1)))) else ((!x2) && (decide (j155 < r75.1))))) (by kernel_rfl) e212 (fun hb217 => ?_) (fun hb217 => ?_)
         ·have h218 := cond_t h169 hb217
          refine Sq (Rg [0] ?_)
          refine V 10 4 (mc (.bool false) (.bool false)) ?_
          refine Nt ?_
          refine CWP.ret (by kernel_rfl) ?_
          refine thenQ_ret ?_
          have hfin := some_inj h218
          subst hfin
          exact ⟨e201, (.bool false), res_of (l := [.tmp 10]) (by kernel_rfl) (vs := [(.bool false)]) ⟨rfl, trivial⟩, (.bool false), F11, rfl, hs199.clear, rfl⟩
         ·have h219 := cond_f h169 hb217
          refine Sc ?_
          refine thenQ_nrm ?_
          refine Sq ?_
          refine Sq (Rg [0, 1, 2, 3, 4, 5] ?_)
          refine RWP.cut (fun f w => ∃ (F12 : Mem), HS w0 F0 w F12 [(sb b62 (kSpan r54.1) 38), (sb b4 (kRef x1) 27), (sb b1 (kSystem x0 a0_0 n0_0 a0_1 n0_1) 25)] ∧ Mem.le F11 F12 ∧ f.d = [] ∧ f 2 = (.bool x2) ∧ f 5 = (.pointer (some ⟨b1, 0, none⟩)) ∧ f 6 = (.pointer (some ⟨b4, 0, none⟩)) ∧ f 11 = (.bool r7) ∧ f 12 = (.slice ar46_0_0 r46.1.length nr46_0_0) ∧ f 13 = (vi r46.2) ∧ f 14 = (.pointer (some ⟨b62, 0, none⟩)) ∧ f 15 = (vi r54.2) ∧ f 18 = (vi r75.1) ∧ f 19 = (vi r75.2) ∧ f 129 = (.bool ((r46.2 != 0) || (r54.2 != 0)))) ?_ ?_
          ·refine V 124 30 (mv 13 (vi r46.2) e207) ?_
           refine V 125 4 (run_neq (t := 30) (t' := 30) (x := (.tmp 124)) (y := (.const (vi 0))) (k := .i64) (a := r46.2) (b := 0) rfl rfl) ?_
           refine V 126 4 (mv 125 (.bool (r46.2 != 0))) ?_
           refine RWP.split (r46.2 != 0) (fun hb235 => ?_) (fun hb235 => ?_)
           ·refine Sk [127, 128] 2 false 126 hb235 ?_
            refine V 129 4 (p1 126 (.const (.bool true)) (.tmp 128) (.bool true) hb235) ?_
            exact RWP.nil ⟨rfl, F11, hs199, (Mem.le.refl _), e201, e202, e203, e204, e205, e206, e207, e208, e209, e210, e211, (congrArg Value.bool (or_t hb235 (rfl)))⟩
           ·refine Vg 127 30 2 false 126 hb235 (mv 15 (vi r54.2) e209) ?_
            refine Vg 128 4 2 false 126 hb235 (run_neq (t := 30) (t' := 30) (x := (.tmp 127)) (y := (.const (vi 0))) (k := .i64) (a := r54.2) (b := 0) rfl rfl) ?_
            refine V 129 4 (p0 126 (.const (.bool true)) (.tmp 128) (.bool (r54.2 != 0)) hb235) ?_
            exact RWP.nil ⟨rfl, F11, hs199, (Mem.le.refl _), e201, e202, e203, e204, e205, e206, e207, e208, e209, e210, e211, (congrArg Value.bool (or_f hb235 (rfl)))⟩
          ·rintro f w220 ⟨F12, hs221, le222, e223, e224, e225, e226, e227, e228, e229, e230, e231, e232, e233, e234⟩
           refine thenQ_nrm ?_
           refine CWP.cond (t := ((r46.2 != 0) || (r54.2 != 0))) (by kernel_rfl) e234 (fun hb236 => ?_) (fun hb236 => ?_)
           ·have h237 := cond_t h219 hb236
            refine Sq (Rg [0, 1, 2, 3, 4, 5, 6] ?_)
            refine RWP.cut (fun f w => ∃ (F13 : Mem), HS w0 F0 w F13 [] ∧ Mem.le F12 F13 ∧ f.d = [] ∧ f 10 = (.bool (r7 && (r46.2 == r54.2)))) ?_ ?_
            ·refine V 130 4 (mv 11 (.bool r7) e227) ?_
             refine V 131 4 (mv 130 (.bool r7)) ?_
             refine RWP.split r7 (fun hb243 => ?_) (fun hb243 => ?_)
             ·refine Vg 132 30 1 true 131 hb243 (mv 13 (vi r46.2) e229) ?_
              refine Vg 133 30 1 true 131 hb243 (mv 15 (vi r54.2) e231) ?_
              refine Vg 134 4 1 true 131 hb243 (run_eql (t := 30) (t' := 30) (x := (.tmp 132)) (y := (.tmp 133)) (k := .i64) (a := r46.2) (b := r54.2) rfl rfl) ?_
              refine V 135 4 (p1 131 (.tmp 134) (.const (.bool false)) (.bool (r46.2 == r54.2)) hb243) ?_
              refine V 10 4 (ma 135 (.bool (r46.2 == r54.2))) ?_
              have hs244 : HS w0 F0 w220 F12 [(sb b4 (kRef x1) 27), (sb b1 (kSystem x0 a0_0 n0_0 a0_1 n0_1) 25)] := hs221.drop 0
              have hs245 : HS w0 F0 w220 F12 [(sb b1 (kSystem x0 a0_0 n0_0 a0_1 n0_1) 25)] := hs244.drop 0
              have hs246 : HS w0 F0 w220 F12 [] := hs245.drop 0
              exact RWP.nil ⟨rfl, F12, hs246, (Mem.le.refl _), e223, (congrArg Value.bool (and_t hb243 (rfl)))⟩
             ·refine Sk [132, 133, 134] 1 true 131 hb243 ?_
              refine V 135 4 (p0 131 (.tmp 134) (.const (.bool false)) (.bool false) hb243) ?_
              refine V 10 4 (ma 135 (.bool false)) ?_
              have hs247 : HS w0 F0 w220 F12 [(sb b4 (kRef x1) 27), (sb b1 (kSystem x0 a0_0 n0_0 a0_1 n0_1) 25)] := hs221.drop 0
              have hs248 : HS w0 F0 w220 F12 [(sb b1 (kSystem x0 a0_0 n0_0 a0_1 n0_1) 25)] := hs247.drop 0
              have hs249 : HS w0 F0 w220 F12 [] := hs248.drop 0
              exact RWP.nil ⟨rfl, F12, hs249, (Mem.le.refl _), e223, (congrArg Value.bool (and_f hb243 (rfl)))⟩
            ·rintro f w238 ⟨F13, hs239, le240, e241, e242⟩
             refine thenQ_nrm ?_
             refine CWP.ret (by kernel_rfl) ?_
             refine thenQ_ret ?_
             have hfin := some_inj h237
             subst hfin
             exact ⟨e241, (.bool (r7 && (r46.2 == r54.2))), res_of (l := [.tmp 10]) (by kernel_rfl) (vs := [(.bool (r7 && (r46.2 == r54.2)))]) ⟨e242, trivial⟩, (.bool (r7 && (r46.2 == r54.2))), F13, rfl, hs239.clear, rfl⟩
           ·have h250 := cond_f h219 hb236
            refine Sc ?_
            refine thenQ_nrm ?_
            refine Sq (Rg [0, 1, 2, 3, 4, 5, 6, 7, 8, 9] ?_)
            refine V 137 25 (ld 25 5 b1 0 true 3 (.agg (kSystem x0 a0_0 n0_0 a0_1 n0_1)) (hs221.ownAt (k := 2) rfl) e225) ?_
            refine V 138 27 (ld 27 6 b4 0 true 2 (.agg (kRef x1)) (hs221.ownAt (k := 1) rfl) e226) ?_
            refine V 139 4 (mv 2 (.bool x2) e224) ?_
            refine V 140 57 (mv 12 (.slice ar46_0_0 r46.1.length nr46_0_0) e228) ?_
            obtain ⟨r251, hr252, h253⟩ := bind_some h250
            refine Cl 141 55 61 #[(.tmp 137), (.tmp 138), (.tmp 139), (.tmp 140)] #[25, 27, 4, 57] co_clocks_ValidPath hs221 (c_clocks_ValidPath N w220 F12 hs221.pers (x0) a0_0 n0_0 hb0_0 (SlA.mono hs0_0 ((((((((((le13.trans le17).trans le52).trans le60).trans le73).trans le81).trans le85).trans le107).trans le154).trans le200).trans le222)) a0_1 n0_1 hb0_1 (SlA.mono hs0_1 ((((((((((le13.trans le17).trans le52).trans le60).trans le73).trans le81).trans le85).trans le107).trans le154).trans le200).trans le222)) (x1) (x2) (r46.1) ar46_0_0 nr46_0_0 hbr46_0_0 (SlA.mono hsr46_0_0 (((((((le60.trans le73).trans le81).trans le85).trans le107).trans le154).trans le200).trans le222)) _ hr252) ?_
            intro v254 F14 w255 hs256 le257 hp258
            obtain rfl := hp258
            refine V 136 55 (mv 141 (.tuple #[(vi r251.1), (vi r251.2)])) ?_
            refine V 142 3 (ex 136 0 (vi r251.1) (vs := #[(vi r251.1), (vi r251.2)])) ?_
            refine V 143 30 (ex 136 1 (vi r251.2) (vs := #[(vi r251.1), (vi r251.2)])) ?_
            refine V 21 3 (ma 142 (vi r251.1)) ?_
            refine V 22 30 (ma 143 (vi r251.2)) ?_
            refine Nss ?_
            refine Sq (Rg [0] ?_)
            refine V 144 4 (mv 2 (.bool x2) e224) ?_
            refine Nt ?_
            refine CWP.cond (t := x2) (by kernel_rfl) rfl (fun hb259 => ?_) (fun hb259 => ?_)
            ·have h260 := cond_t h253 hb259
             refine Sq (Rg [0, 1, 2, 3, 4, 5, 6, 7, 8, 9, 10, 11, 12, 13, 14, 15, 16, 17, 18, 19, 20, 21] ?_)
             refine RWP.cut (fun f w => ∃ (F15 : Mem), HS w0 F0 w F15 [] ∧ Mem.le F14 F15 ∧ f.d = [] ∧ f 10 = (.bool (r7 && ((r251.2 == 0) && ((r251.1 == r54.1.Hi) && ((r75.2 != 0) || (decide (r75.1 ≥ r54.1.Hi)))))))) ?_ ?_
             ·refine V 145 4 (mv 11 (.bool r7) e227) ?_
              refine V 146 4 (mv 145 (.bool r7)) ?_
              refine RWP.split r7 (fun hb266 => ?_) (fun hb266 => ?_)
              ·refine Vg 147 30 1 true 146 hb266 (mv 22 (vi r251.2)) ?_
               refine Vg 148 4 1 true 146 hb266 (run_eql (t := 30) (t' := 30) (x := (.tmp 147)) (y := (.const (vi 0))) (k := .i64) (a := r251.2) (b := 0) rfl rfl) ?_
               refine V 149 4 (p1 146 (.tmp 148) (.const (.bool false)) (.bool (r251.2 == 0)) hb266) ?_
               refine V 150 4 (mv 149 (.bool (r251.2 == 0))) ?_
               refine RWP.split (r251.2 == 0) (fun hb267 => ?_) (fun hb267 => ?_)
               ·refine Vg 151 3 5 true 150 hb267 (mv 21 (vi r251.1)) ?_
                refine Vg 152 0 5 true 150 hb267 (fa 38 14 1 1 1 b62 0 1 e230) ?_
                refine Vg 153 3 5 true 150 hb267 (ld 3 152 b62 1 false 1 (vi r54.1.Hi) (hs256.ownAt (k := 0) rfl)) ?_
                refine Vg 154 4 5 true 150 hb267 (run_eql (t := 3) (t' := 3) (x := (.tmp 151)) (y := (.tmp 153)) (k := .i64) (a := r251.1) (b := r54.1.Hi) rfl rfl) ?_
                refine V 155 4 (p1 150 (.tmp 154) (.const (.bool false)) (.bool (r251.1 == r54.1.Hi)) hb267) ?_
                refine V 156 4 (mv 155 (.bool (r251.1 == r54.1.Hi))) ?_
                refine RWP.split (r251.1 == r54.1.Hi) (fun hb268 => ?_) (fun hb268 => ?_)
                ·refine Vg 157 30 11 true 156 hb268 (mv 19 (vi r75.2) e233) ?_
                 refine Vg 158 4 11 true 156 hb268 (run_neq (t := 30) (t' := 30) (x := (.tmp 157)) (y := (.const (vi 0))) (k := .i64) (a := r75.2) (b := 0) rfl rfl) ?_
                 refine Vg 159 4 11 true 156 hb268 (mv 158 (.bool (r75.2 != 0))) ?_
                 refine RWP.split (r75.2 != 0) (fun hb269 => ?_) (fun hb269 => ?_)
                 ·refine Sk [160, 161, 162, 163] 14 false 159 hb269 ?_
                  refine Vg 164 4 11 true 156 hb268 (p1 159 (.const (.bool true)) (.tmp 163) (.bool true) hb269) ?_
                  refine V 165 4 (p1 156 (.tmp 164) (.const (.bool false)) (.bool true) hb268) ?_
                  refine V 10 4 (ma 165 (.bool true)) ?_
                  have hs270 : HS w0 F0 w255 F14 [(sb b4 (kRef x1) 27), (sb b1 (kSystem x0 a0_0 n0_0 a0_1 n0_1) 25)] := hs256.drop 0
                  have hs271 : HS w0 F0 w255 F14 [(sb b1 (kSystem x0 a0_0 n0_0 a0_1 n0_1) 25)] := hs270.drop 0
                  have hs272 : HS w0 F0 w255 F14 [] := hs271.drop 0
                  exact RWP.nil ⟨rfl, F14, hs272, (Mem.le.refl _), e223, (congrArg Value.bool (and_t hb266 (and_t hb267 (and_t hb268 (or_t hb269 (rfl))))))⟩
                 ·refine Vg 160 3 14 false 159 hb269 (mv 18 (vi r75.1) e232) ?_
                  refine Vg 161 0 14 false 159 hb269 (fa 38 14 1 1 1 b62 0 1 e230) ?_
                  refine Vg 162 3 14 false 159 hb269 (ld 3 161 b62 1 false 1 (vi r54.1.Hi) (hs256.ownAt (k := 0) rfl)) ?_
                  refine Vg 163 4 14 false 159 hb269 (run_geq (t := 3) (t' := 3) (x := (.tmp 160)) (y := (.tmp 162)) (k := .i64) (a := r75.1) (b := r54.1.Hi) rfl rfl) ?_
                  refine Vg 164 4 11 true 156 hb268 (p0 159 (.const (.bool true)) (.tmp 163) (.bool (decide (r75.1 ≥ r54.1.Hi))) hb269) ?_
                  refine V 165 4 (p1 156 (.tmp 164) (.const (.bool false)) (.bool (decide (r75.1 ≥ r54.1.Hi))) hb268) ?_
                  refine V 10 4 (ma 165 (.bool (decide (r75.1 ≥ r54.1.Hi)))) ?_
                  have hs273 : HS w0 F0 w255 F14 [(sb b4 (kRef x1) 27), (sb b1 (kSystem x0 a0_0 n0_0 a0_1 n0_1) 25)] := hs256.drop 0
                  have hs274 : HS w0 F0 w255 F14 [(sb b1 (kSystem x0 a0_0 n0_0 a0_1 n0_1) 25)] := hs273.drop 0
                  have hs275 : HS w0 F0 w255 F14 [] := hs274.drop 0
                  exact RWP.nil ⟨rfl, F14, hs275, (Mem.le.refl _), e223, (congrArg Value.bool (and_t hb266 (and_t hb267 (and_t hb268 (or_f hb269 (rfl))))))⟩
                ·refine Sk [157, 158, 159] 11 true 156 hb268 ?_
                 refine Su [160, 161, 162, 163] 14 false 159 ?_
                 refine Sk [164] 11 true 156 hb268 ?_
                 refine V 165 4 (p0 156 (.tmp 164) (.const (.bool false)) (.bool false) hb268) ?_
                 refine V 10 4 (ma 165 (.bool false)) ?_
                 have hs276 : HS w0 F0 w255 F14 [(sb b4 (kRef x1) 27), (sb b1 (kSystem x0 a0_0 n0_0 a0_1 n0_1) 25)] := hs256.drop 0
                 have hs277 : HS w0 F0 w255 F14 [(sb b1 (kSystem x0 a0_0 n0_0 a0_1 n0_1) 25)] := hs276.drop 0
                 have hs278 : HS w0 F0 w255 F14 [] := hs277.drop 0
                 exact RWP.nil ⟨rfl, F14, hs278, (Mem.le.refl _), e223, (congrArg Value.bool (and_t hb266 (and_t hb267 (and_f hb268 (rfl)))))⟩
               ·refine Sk [151, 152, 153, 154] 5 true 150 hb267 ?_
                refine V 155 4 (p0 150 (.tmp 154) (.const (.bool false)) (.bool false) hb267) ?_
                refine V 156 4 (mv 155 (.bool false)) ?_
                refine Sk [157, 158, 159] 11 true 156 rfl ?_
                refine Su [160, 161, 162, 163] 14 false 159 ?_
                refine Sk [164] 11 true 156 rfl ?_
                refine V 165 4 (p0 156 (.tmp 164) (.const (.bool false)) (.bool false) rfl) ?_
                refine V 10 4 (ma 165 (.bool false)) ?_
                have hs279 : HS w0 F0 w255 F14 [(sb b4 (kRef x1) 27), (sb b1 (kSystem x0 a0_0 n0_0 a0_1 n0_1) 25)] := hs256.drop 0
                have hs280 : HS w0 F0 w255 F14 [(sb b1 (kSystem x0 a0_0 n0_0 a0_1 n0_1) 25)] := hs279.drop 0
                have hs281 : HS w0 F0 w255 F14 [] := hs280.drop 0
                exact RWP.nil ⟨rfl, F14, hs281, (Mem.le.refl _), e223, (congrArg Value.bool (and_t hb266 (and_f hb267 (rfl))))⟩
              ·refine Sk [147, 148] 1 true 146 hb266 ?_
               refine V 149 4 (p0 146 (.tmp 148) (.const (.bool false)) (.bool false) hb266) ?_
               refine V 150 4 (mv 149 (.bool false)) ?_
               refine Sk [151, 152, 153, 154] 5 true 150 rfl ?_
               refine V 155 4 (p0 150 (.tmp 154) (.const (.bool false)) (.bool false) rfl) ?_
               refine V 156 4 (mv 155 (.bool false)) ?_
               refine Sk [157, 158, 159] 11 true 156 rfl ?_
               refine Su [160, 161, 162, 163] 14 false 159 ?_
               refine Sk [164] 11 true 156 rfl ?_
               refine V 165 4 (p0 156 (.tmp 164) (.const (.bool false)) (.bool false) rfl) ?_
               refine V 10 4 (ma 165 (.bool false)) ?_
               have hs282 : HS w0 F0 w255 F14 [(sb b4 (kRef x1) 27), (sb b1 (kSystem x0 a0_0 n0_0 a0_1 n0_1) 25)] := hs256.drop 0
               have hs283 : HS w0 F0 w255 F14 [(sb b1 (kSystem x0 a0_0 n0_0 a0_1 n0_1) 25)] := hs282.drop 0
               have hs284 : HS w0 F0 w255 F14 [] := hs283.drop 0
               exact RWP.nil ⟨rfl, F14, hs284, (Mem.le.refl _), e223, (congrArg Value.bool (and_f hb266 (rfl)))⟩
             ·rintro f w261 ⟨F15, hs262, le263, e264, e265⟩
              refine thenQ_nrm ?_
              refine CWP.ret (by kernel_rfl) ?_
              refine thenQ_ret ?_
              have hfin := some_inj h260
              subst hfin
              exact ⟨e264, (.bool (r7 && ((r251.2 == 0) && ((r251.1 == r54.1.Hi) && ((r75.2 != 0) || (decide (r75.1 ≥ r54.1.Hi))))))), res_of (l := [.tmp 10]) (by kernel_rfl) (vs := [(.bool (r7 && ((r251.2 == 0) && ((r251.1 == r54.1.Hi) && ((r75.2 != 0) || (decide (r75.1 ≥ r54.1.Hi)))))))]) ⟨e265, trivial⟩, (.bool (r7 && ((r251.2 == 0) && ((r251.1 == r54.1.Hi) && ((r75.2 != 0) || (decide (r75.1 ≥ r54.1.Hi))))))), F15, rfl, hs262.clear, rfl⟩
            ·have h285 := cond_f h253 hb259
             refine Sc ?_
             refine thenQ_nrm ?_
             refine Sq (Rg [0, 1, 2, 3, 4, 5, 6, 7, 8, 9, 10, 11, 12, 13, 14, 15, 16, 17, 18, 19, 20, 21] ?_)
             refine RWP.cut (fun f w => ∃ (F16 : Mem), HS w0 F0 w F16 [] ∧ Mem.le F14 F16 ∧ f.d = [] ∧ f 10 = (.bool (r7 && ((r251.2 == 0) && ((r251.1 == r54.1.Lo) && ((r75.2 != 0) || (decide (r75.1 ≤ r54.1.Lo)))))))) ?_ ?_
             ·refine V 166 4 (mv 11 (.bool r7) e227) ?_
              refine V 167 4 (mv 166 (.bool r7)) ?_
              refine RWP.split r7 (fun hb291 => ?_) (fun hb291 => ?_)
              ·refine Vg 168 30 1 true 167 hb291 (mv 22 (vi r251.2)) ?_
               refine Vg 169 4 1 true 167 hb291 (run_eql (t := 30) (t' := 30) (x := (.tmp 168)) (y := (.const (vi 0))) (k := .i64) (a := r251.2) (b := 0) rfl rfl) ?_
               refine V 170 4 (p1 167 (.tmp 169) (.const (.bool false)) (.bool (r251.2 == 0)) hb291) ?_
               refine V 171 4 (mv 170 (.bool (r251.2 == 0))) ?_
               refine RWP.split (r251.2 == 0) (fun hb292 => ?_) (fun hb292 => ?_)
               ·refine Vg 172 3 5 true 171 hb292 (mv 21 (vi r251.1)) ?_
                refine Vg 173 0 5 true 171 hb292 (fa 38 14 0 0 1 b62 0 0 e230) ?_
                refine Vg 174 3 5 true 171 hb292 (ld 3 173 b62 0 false 1 (vi r54.1.Lo) (hs256.ownAt (k := 0) rfl)) ?_
                refine Vg 175 4 5 true 171 hb292 (run_eql (t := 3) (t' := 3) (x := (.tmp 172)) (y := (.tmp 174)) (k := .i64) (a := r251.1) (b := r54.1.Lo) rfl rfl) ?_
                refine V 176 4 (p1 171 (.tmp 175) (.const (.bool false)) (.bool (r251.1 == r54.1.Lo)) hb292) ?_
                refine V 177 4 (mv 176 (.bool (r251.1 == r54.1.Lo))) ?_
                refine RWP.split (r251.1 == r54.1.Lo) (fun hb293 => ?_) (fun hb293 => ?_)
                ·refine Vg 178 30 11 true 177 hb293 (mv 19 (vi r75.2) e233) ?_
                 refine Vg 179 4 11 true 177 hb293 (run_neq (t := 30) (t' := 30) (x := (.tmp 178)) (y := (.const (vi 0))) (k := .i64) (a := r75.2) (b := 0) rfl rfl) ?_
                 refine Vg 180 4 11 true 177 hb293 (mv 179 (.bool (r75.2 != 0))) ?_
                 refine RWP.split (r75.2 != 0) (fun hb294 => ?_) (fun hb294 => ?_)
                 ·refine Sk [181, 182, 183, 184] 14 false 180 hb294 ?_
                  refine Vg 185 4 11 true 177 hb293 (p1 180 (.const (.bool true)) (.tmp 184) (.bool true) hb294) ?_
                  refine V 186 4 (p1 177 (.tmp 185) (.const (.bool false)) (.bool true) hb293) ?_
                  refine V 10 4 (ma 186 (.bool true)) ?_
                  have hs295 : HS w0 F0 w255 F14 [(sb b4 (kRef x1) 27), (sb b1 (kSystem x0 a0_0 n0_0 a0_1 n0_1) 25)] := hs256.drop 0
                  have hs296 : HS w0 F0 w255 F14 [(sb b1 (kSystem x0 a0_0 n0_0 a0_1 n0_1) 25)] := hs295.drop 0
                  have hs297 : HS w0 F0 w255 F14 [] := hs296.drop 0
                  exact RWP.nil ⟨rfl, F14, hs297, (Mem.le.refl _), e223, (congrArg Value.bool (and_t hb291 (and_t hb292 (and_t hb293 (or_t hb294 (rfl))))))⟩
                 ·refine Vg 181 3 14 false 180 hb294 (mv 18 (vi r75.1) e232) ?_
                  refine Vg 182 0 14 false 180 hb294 (fa 38 14 0 0 1 b62 0 0 e230) ?_
                  refine Vg 183 3 14 false 180 hb294 (ld 3 182 b62 0 false 1 (vi r54.1.Lo) (hs256.ownAt (k := 0) rfl)) ?_
                  refine Vg 184 4 14 false 180 hb294 (run_leq (t := 3) (t' := 3) (x := (.tmp 181)) (y := (.tmp 183)) (k := .i64) (a := r75.1) (b := r54.1.Lo) rfl rfl) ?_
                  refine Vg 185 4 11 true 177 hb293 (p0 180 (.const (.bool true)) (.tmp 184) (.bool (decide (r75.1 ≤ r54.1.Lo))) hb294) ?_
                  refine V 186 4 (p1 177 (.tmp 185) (.const (.bool false)) (.bool (decide (r75.1 ≤ r54.1.Lo))) hb293) ?_
                  refine V 10 4 (ma 186 (.bool (decide (r75.1 ≤ r54.1.Lo)))) ?_
                  have hs298 : HS w0 F0 w255 F14 [(sb b4 (kRef x1) 27), (sb b1 (kSystem x0 a0_0 n0_0 a0_1 n0_1) 25)] := hs256.drop 0
                  have hs299 : HS w0 F0 w255 F14 [(sb b1 (kSystem x0 a0_0 n0_0 a0_1 n0_1) 25)] := hs298.drop 0
                  have hs300 : HS w0 F0 w255 F14 [] := hs299.drop 0
                  exact RWP.nil ⟨rfl, F14, hs300, (Mem.le.refl _), e223, (congrArg Value.bool (and_t hb291 (and_t hb292 (and_t hb293 (or_f hb294 (rfl))))))⟩
                ·refine Sk [178, 179, 180] 11 true 177 hb293 ?_
                 refine Su [181, 182, 183, 184] 14 false 180 ?_
                 refine Sk [185] 11 true 177 hb293 ?_
                 refine V 186 4 (p0 177 (.tmp 185) (.const (.bool false)) (.bool false) hb293) ?_
                 refine V 10 4 (ma 186 (.bool false)) ?_
                 have hs301 : HS w0 F0 w255 F14 [(sb b4 (kRef x1) 27), (sb b1 (kSystem x0 a0_0 n0_0 a0_1 n0_1) 25)] := hs256.drop 0
                 have hs302 : HS w0 F0 w255 F14 [(sb b1 (kSystem x0 a0_0 n0_0 a0_1 n0_1) 25)] := hs301.drop 0
                 have hs303 : HS w0 F0 w255 F14 [] := hs302.drop 0
                 exact RWP.nil ⟨rfl, F14, hs303, (Mem.le.refl _), e223, (congrArg Value.bool (and_t hb291 (and_t hb292 (and_f hb293 (rfl)))))⟩
               ·refine Sk [172, 173, 174, 175] 5 true 171 hb292 ?_
                refine V 176 4 (p0 171 (.tmp 175) (.const (.bool false)) (.bool false) hb292) ?_
                refine V 177 4 (mv 176 (.bool false)) ?_
                refine Sk [178, 179, 180] 11 true 177 rfl ?_
                refine Su [181, 182, 183, 184] 14 false 180 ?_
                refine Sk [185] 11 true 177 rfl ?_
                refine V 186 4 (p0 177 (.tmp 185) (.const (.bool false)) (.bool false) rfl) ?_
                refine V 10 4 (ma 186 (.bool false)) ?_
                have hs304 : HS w0 F0 w255 F14 [(sb b4 (kRef x1) 27), (sb b1 (kSystem x0 a0_0 n0_0 a0_1 n0_1) 25)] := hs256.drop 0
                have hs305 : HS w0 F0 w255 F14 [(sb b1 (kSystem x0 a0_0 n0_0 a0_1 n0_1) 25)] := hs304.drop 0
                have hs306 : HS w0 F0 w255 F14 [] := hs305.drop 0
                exact RWP.nil ⟨rfl, F14, hs306, (Mem.le.refl _), e223, (congrArg Value.bool (and_t hb291 (and_f hb292 (rfl))))⟩
              ·refine Sk [168, 169] 1 true 167 hb291 ?_
               refine V 170 4 (p0 167 (.tmp 169) (.const (.bool false)) (.bool false) hb291) ?_
               refine V 171 4 (mv 170 (.bool false)) ?_
               refine Sk [172, 173, 174, 175] 5 true 171 rfl ?_
               refine V 176 4 (p0 171 (.tmp 175) (.const (.bool false)) (.bool false) rfl) ?_
               refine V 177 4 (mv 176 (.bool false)) ?_
               refine Sk [178, 179, 180] 11 true 177 rfl ?_
               refine Su [181, 182, 183, 184] 14 false 180 ?_
               refine Sk [185] 11 true 177 rfl ?_
               refine V 186 4 (p0 177 (.tmp 185) (.const (.bool false)) (.bool false) rfl) ?_
               refine V 10 4 (ma 186 (.bool false)) ?_
               have hs307 : HS w0 F0 w255 F14 [(sb b4 (kRef x1) 27), (sb b1 (kSystem x0 a0_0 n0_0 a0_1 n0_1) 25)] := hs256.drop 0
               have hs308 : HS w0 F0 w255 F14 [(sb b1 (kSystem x0 a0_0 n0_0 a0_1 n0_1) 25)] := hs307.drop 0
               have hs309 : HS w0 F0 w255 F14 [] := hs308.drop 0
               exact RWP.nil ⟨rfl, F14, hs309, (Mem.le.refl _), e223, (congrArg Value.bool (and_f hb291 (rfl)))⟩
             ·rintro f w286 ⟨F16, hs287, le288, e289, e290⟩
              refine thenQ_nrm ?_
              refine CWP.ret (by kernel_rfl) ?_
              have hfin := some_inj h285
              subst hfin
              exact ⟨e289, (.bool (r7 && ((r251.2 == 0) && ((r251.1 == r54.1.Lo) && ((r75.2 != 0) || (decide (r75.1 ≤ r54.1.Lo))))))), res_of (l := [.tmp 10]) (by kernel_rfl) (vs := [(.bool (r7 && ((r251.2 == 0) && ((r251.1 == r54.1.Lo) && ((r75.2 != 0) || (decide (r75.1 ≤ r54.1.Lo)))))))]) ⟨e290, trivial⟩, (.bool (r7 && ((r251.2 == 0) && ((r251.1 == r54.1.Lo) && ((r75.2 != 0) || (decide (r75.1 ≤ r54.1.Lo))))))), F16, rfl, hs287.clear, rfl⟩
    ·have h310 := cond_f h77 hb101
     refine Sc ?_
     refine thenQ_nrm ?_
     refine Sq ?_
     refine Sq (Rg [0, 1, 2, 3, 4, 5] ?_)
     refine RWP.cut (fun f w => ∃ (F17 : Mem), HS w0 F0 w F17 [(sb b62 (kSpan r54.1) 38), (sb b4 (kRef x1) 27), (sb b1 (kSystem x0 a0_0 n0_0 a0_1 n0_1) 25)] ∧ Mem.le F8 F17 ∧ f.d = [] ∧ f 2 = (.bool x2) ∧ f 5 = (.pointer (some ⟨b1, 0, none⟩)) ∧ f 6 = (.pointer (some ⟨b4, 0, none⟩)) ∧ f 11 = (.bool r7) ∧ f 12 = (.slice ar46_0_0 r46.1.length nr46_0_0) ∧ f 13 = (vi r46.2) ∧ f 14 = (.pointer (some ⟨b62, 0, none⟩)) ∧ f 15 = (vi r54.2) ∧ f 18 = (vi r75.1) ∧ f 19 = (vi r75.2) ∧ f 129 = (.bool ((r46.2 != 0) || (r54.2 != 0)))) ?_ ?_
     ·refine V 124 30 (mv 13 (vi r46.2) e93) ?_
      refine V 125 4 (run_neq (t := 30) (t' := 30) (x := (.tmp 124)) (y := (.const (vi 0))) (k := .i64) (a := r46.2) (b := 0) rfl rfl) ?_
      refine V 126 4 (mv 125 (.bool (r46.2 != 0))) ?_
      refine RWP.split (r46.2 != 0) (fun hb326 => ?_) (fun hb326 => ?_)
      ·refine Sk [127, 128] 2 false 126 hb326 ?_
       refine V 129 4 (p1 126 (.const (.bool true)) (.tmp 128) (.bool true) hb326) ?_
       exact RWP.nil ⟨rfl, F8, hs84, (Mem.le.refl _), e86, e87, e89, e90, e91, e92, e93, e94, e95, e96, e97, (congrArg Value.bool (or_t hb326 (rfl)))⟩
      ·refine Vg 127 30 2 false 126 hb326 (mv 15 (vi r54.2) e95) ?_
       refine Vg 128 4 2 false 126 hb326 (run_neq (t := 30) (t' := 30) (x := (.tmp 127)) (y := (.const (vi 0))) (k := .i64) (a := r54.2) (b := 0) rfl rfl) ?_
       refine V 129 4 (p0 126 (.const (.bool true)) (.tmp 128) (.bool (r54.2 != 0)) hb326) ?_
       exact RWP.nil ⟨rfl, F8, hs84, (Mem.le.refl _), e86, e87, e89, e90, e91, e92, e93, e94, e95, e96, e97, (congrArg Value.bool (or_f hb326 (rfl)))⟩
     ·rintro f w311 ⟨F17, hs312, le313, e314, e315, e316, e317, e318, e319, e320, e321, e322, e323, e324, e325⟩
      refine thenQ_nrm ?_
      refine CWP.cond (t := ((r46.2 != 0) || (r54.2 != 0))) (by kernel_rfl) e325 (fun hb327 => ?_) (fun hb327 => ?_)
      ·have h328 := cond_t h310 hb327
       refine Sq (Rg [0, 1, 2, 3, 4, 5, 6] ?_)
       refine RWP.cut (fun f w => ∃ (F18 : Mem), HS w0 F0 w F18 [] ∧ Mem.le F17 F18 ∧ f.d = [] ∧ f 10 = (.bool (r7 && (r46.2 == r54.2)))) ?_ ?_
       ·refine V 130 4 (mv 11 (.bool r7) e318) ?_
        refine V 131 4 (mv 130 (.bool r7)) ?_
        refine RWP.split r7 (fun hb334 => ?_) (fun hb334 => ?_)
        ·refine Vg 132 30 1 true 131 hb334 (mv 13 (vi r46.2) e320) ?_
         refine Vg 133 30 1 true 131 hb334 (mv 15 (vi r54.2) e322) ?_
         refine Vg 134 4 1 true 131 hb334 (run_eql (t := 30) (t' := 30) (x := (.tmp 132)) (y := (.tmp 133)) (k := .i64) (a := r46.2) (b := r54.2) rfl rfl) ?_
         refine V 135 4 (p1 131 (.tmp 134) (.const (.bool false)) (.bool (r46.2 == r54.2)) hb334) ?_
         refine V 10 4 (ma 135 (.bool (r46.2 == r54.2))) ?_
         have hs335 : HS w0 F0 w311 F17 [(sb b4 (kRef x1) 27), (sb b1 (kSystem x0 a0_0 n0_0 a0_1 n0_1) 25)] := hs312.drop 0
         have hs336 : HS w0 F0 w311 F17 [(sb b1 (kSystem x0 a0_0 n0_0 a0_1 n0_1) 25)] := hs335.drop 0
         have hs337 : HS w0 F0 w311 F17 [] := hs336.drop 0
         exact RWP.nil ⟨rfl, F17, hs337, (Mem.le.refl _), e314, (congrArg Value.bool (and_t hb334 (rfl)))⟩
        ·refine Sk [132, 133, 134] 1 true 131 hb334 ?_
         refine V 135 4 (p0 131 (.tmp 134) (.const (.bool false)) (.bool false) hb334) ?_
         refine V 10 4 (ma 135 (.bool false)) ?_
         have hs338 : HS w0 F0 w311 F17 [(sb b4 (kRef x1) 27), (sb b1 (kSystem x0 a0_0 n0_0 a0_1 n0_1) 25)] := hs312.drop 0
         have hs339 : HS w0 F0 w311 F17 [(sb b1 (kSystem x0 a0_0 n0_0 a0_1 n0_1) 25)] := hs338.drop 0
         have hs340 : HS w0 F0 w311 F17 [] := hs339.drop 0
         exact RWP.nil ⟨rfl, F17, hs340, (Mem.le.refl _), e314, (congrArg Value.bool (and_f hb334 (rfl)))⟩
       ·rintro f w329 ⟨F18, hs330, le331, e332, e333⟩
        refine thenQ_nrm ?_
        refine CWP.ret (by kernel_rfl) ?_
        refine thenQ_ret ?_
        have hfin := some_inj h328
        subst hfin
        exact ⟨e332, (.bool (r7 && (r46.2 == r54.2))), res_of (l := [.tmp 10]) (by kernel_rfl) (vs := [(.bool (r7 && (r46.2 == r54.2)))]) ⟨e333, trivial⟩, (.bool (r7 && (r46.2 == r54.2))), F18, rfl, hs330.clear, rfl⟩
      ·have h341 := cond_f h310 hb327
       refine Sc ?_
       refine thenQ_nrm ?_
       refine Sq (Rg [0, 1, 2, 3, 4, 5, 6, 7, 8, 9] ?_)
       refine V 137 25 (ld 25 5 b1 0 true 3 (.agg (kSystem x0 a0_0 n0_0 a0_1 n0_1)) (hs312.ownAt (k := 2) rfl) e316) ?_
       refine V 138 27 (ld 27 6 b4 0 true 2 (.agg (kRef x1)) (hs312.ownAt (k := 1) rfl) e317) ?_
       refine V 139 4 (mv 2 (.bool x2) e315) ?_
       refine V 140 57 (mv 12 (.slice ar46_0_0 r46.1.length nr46_0_0) e319) ?_
       obtain ⟨r342, hr343, h344⟩ := bind_some h341
       refine Cl 141 55 61 #[(.tmp 137), (.tmp 138), (.tmp 139), (.tmp 140)] #[25, 27, 4, 57] co_clocks_ValidPath hs312 (c_clocks_ValidPath N w311 F17 hs312.pers (x0) a0_0 n0_0 hb0_0 (SlA.mono hs0_0 (((((((le13.trans le17).trans le52).trans le60).trans le73).trans le81).trans le85).trans le313)) a0_1 n0_1 hb0_1 (SlA.mono hs0_1 (((((((le13.trans le17).trans le52).trans le60).trans le73).trans le81).trans le85).trans le313)) (x1) (x2) (r46.1) ar46_0_0 nr46_0_0 hbr46_0_0 (SlA.mono hsr46_0_0 ((((le60.trans le73).trans le81).trans le85).trans le313)) _ hr343) ?_
       intro v345 F19 w346 hs347 le348 hp349
       obtain rfl := hp349
       refine V 136 55 (mv 141 (.tuple #[(vi r342.1), (vi r342.2)])) ?_
       refine V 142 3 (ex 136 0 (vi r342.1) (vs := #[(vi r342.1), (vi r342.2)])) ?_
       refine V 143 30 (ex 136 1 (vi r342.2) (vs := #[(vi r342.1), (vi r342.2)])) ?_
       refine V 21 3 (ma 142 (vi r342.1)) ?_
       refine V 22 30 (ma 143 (vi r342.2)) ?_
       refine Nss ?_
       refine Sq (Rg [0] ?_)
       refine V 144 4 (mv 2 (.bool x2) e315) ?_
       refine Nt ?_
       refine CWP.cond (t := x2) (by kernel_rfl) rfl (fun hb350 => ?_) (fun hb350 => ?_)
       ·have h351 := cond_t h344 hb350
        refine Sq (Rg [0, 1, 2, 3, 4, 5, 6, 7, 8, 9, 10, 11, 12, 13, 14, 15, 16, 17, 18, 19, 20, 21] ?_)
        refine RWP.cut (fun f w => ∃ (F20 : Mem), HS w0 F0 w F20 [] ∧ Mem.le F19 F20 ∧ f.d = [] ∧ f 10 = (.bool (r7 && ((r342.2 == 0) && ((r342.1 == r54.1.Hi) && ((r75.2 != 0) || (decide (r75.1 ≥ r54.1.Hi)))))))) ?_ ?_
        ·refine V 145 4 (mv 11 (.bool r7) e318) ?_
         refine V 146 4 (mv 145 (.bool r7)) ?_
         refine RWP.split r7 (fun hb357 => ?_) (fun hb357 => ?_)
         ·refine Vg 147 30 1 true 146 hb357 (mv 22 (vi r342.2)) ?_
          refine Vg 148 4 1 true 146 hb357 (run_eql (t := 30) (t' := 30) (x := (.tmp 147)) (y := (.const (vi 0))) (k := .i64) (a := r342.2) (b := 0) rfl rfl) ?_
          refine V 149 4 (p1 146 (.tmp 148) (.const (.bool false)) (.bool (r342.2 == 0)) hb357) ?_
          refine V 150 4 (mv 149 (.bool (r342.2 == 0))) ?_
          refine RWP.split (r342.2 == 0) (fun hb358 => ?_) (fun hb358 => ?_)
          ·refine Vg 151 3 5 true 150 hb358 (mv 21 (vi r342.1)) ?_
           refine Vg 152 0 5 true 150 hb358 (fa 38 14 1 1 1 b62 0 1 e321) ?_
           refine Vg 153 3 5 true 150 hb358 (ld 3 152 b62 1 false 1 (vi r54.1.Hi) (hs347.ownAt (k := 0) rfl)) ?_
           refine Vg 154 4 5 true 150 hb358 (run_eql (t := 3) (t' := 3) (x := (.tmp 151)) (y := (.tmp 153)) (k := .i64) (a := r342.1) (b := r54.1.Hi) rfl rfl) ?_
           refine V 155 4 (p1 150 (.tmp 154) (.const (.bool false)) (.bool (r342.1 == r54.1.Hi)) hb358) ?_
           refine V 156 4 (mv 155 (.bool (r342.1 == r54.1.Hi))) ?_
           refine RWP.split (r342.1 == r54.1.Hi) (fun hb359 => ?_) (fun hb359 => ?_)
           ·refine Vg 157 30 11 true 156 hb359 (mv 19 (vi r75.2) e324) ?_
            refine Vg 158 4 11 true 156 hb359 (run_neq (t := 30) (t' := 30) (x := (.tmp 157)) (y := (.const (vi 0))) (k := .i64) (a := r75.2) (b := 0) rfl rfl) ?_
            refine Vg 159 4 11 true 156 hb359 (mv 158 (.bool (r75.2 != 0))) ?_
            refine RWP.split (r75.2 != 0) (fun hb360 => ?_) (fun hb360 => ?_)
            ·refine Sk [160, 161, 162, 163] 14 false 159 hb360 ?_
             refine Vg 164 4 11 true 156 hb359 (p1 159 (.const (.bool true)) (.tmp 163) (.bool true) hb360) ?_
             refine V 165 4 (p1 156 (.tmp 164) (.const (.bool false)) (.bool true) hb359) ?_
             refine V 10 4 (ma 165 (.bool true)) ?_
             have hs361 : HS w0 F0 w346 F19 [(sb b4 (kRef x1) 27), (sb b1 (kSystem x0 a0_0 n0_0 a0_1 n0_1) 25)] := hs347.drop 0
             have hs362 : HS w0 F0 w346 F19 [(sb b1 (kSystem x0 a0_0 n0_0 a0_1 n0_1) 25)] := hs361.drop 0
             have hs363 : HS w0 F0 w346 F19 [] := hs362.drop 0
             exact RWP.nil ⟨rfl, F19, hs363, (Mem.le.refl _), e314, (congrArg Value.bool (and_t hb357 (and_t hb358 (and_t hb359 (or_t hb360 (rfl))))))⟩
            ·refine Vg 160 3 14 false 159 hb360 (mv 18 (vi r75.1) e323) ?_
             refine Vg 161 0 14 false 159 hb360 (fa 38 14 1 1 1 b62 0 1 e321) ?_
             refine Vg 162 3 14 false 159 hb360 (ld 3 161 b62 1 false 1 (vi r54.1.Hi) (hs347.ownAt (k := 0) rfl)) ?_
             refine Vg 163 4 14 false 159 hb360 (run_geq (t := 3) (t' := 3) (x := (.tmp 160)) (y := (.tmp 162)) (k := .i64) (a := r75.1) (b := r54.1.Hi) rfl rfl) ?_
             refine Vg 164 4 11 true 156 hb359 (p0 159 (.const (.bool true)) (.tmp 163) (.bool (decide (r75.1 ≥ r54.1.Hi))) hb360) ?_
             refine V 165 4 (p1 156 (.tmp 164) (.const (.bool false)) (.bool (decide (r75.1 ≥ r54.1.Hi))) hb359) ?_
             refine V 10 4 (ma 165 (.bool (decide (r75.1 ≥ r54.1.Hi)))) ?_
             have hs364 : HS w0 F0 w346 F19 [(sb b4 (kRef x1) 27), (sb b1 (kSystem x0 a0_0 n0_0 a0_1 n0_1) 25)] := hs347.drop 0
             have hs365 : HS w0 F0 w346 F19 [(sb b1 (kSystem x0 a0_0 n0_0 a0_1 n0_1) 25)] := hs364.drop 0
             have hs366 : HS w0 F0 w346 F19 [] := hs365.drop 0
             exact RWP.nil ⟨rfl, F19, hs366, (Mem.le.refl _), e314, (congrArg Value.bool (and_t hb357 (and_t hb358 (and_t hb359 (or_f hb360 (rfl))))))⟩
           ·refine Sk [157, 158, 159] 11 true 156 hb359 ?_
            refine Su [160, 161, 162, 163] 14 false 159 ?_
            refine Sk [164] 11 true 156 hb359 ?_
            refine V 165 4 (p0 156 (.tmp 164) (.const (.bool false)) (.bool false) hb359) ?_
            refine V 10 4 (ma 165 (.bool false)) ?_
            have hs367 : HS w0 F0 w346 F19 [(sb b4 (kRef x1) 27), (sb b1 (kSystem x0 a0_0 n0_0 a0_1 n0_1) 25)] := hs347.drop 0
            have hs368 : HS w0 F0 w346 F19 [(sb b1 (kSystem x0 a0_0 n0_0 a0_1 n0_1) 25)] := hs367.drop 0
            have hs369 : HS w0 F0 w346 F19 [] := hs368.drop 0
            exact RWP.nil ⟨rfl, F19, hs369, (Mem.le.refl _), e314, (congrArg Value.bool (and_t hb357 (and_t hb358 (and_f hb359 (rfl)))))⟩
          ·refine Sk [151, 152, 153, 154] 5 true 150 hb358 ?_
           refine V 155 4 (p0 150 (.tmp 154) (.const (.bool false)) (.bool false) hb358) ?_
           refine V 156 4 (mv 155 (.bool false)) ?_
           refine Sk [157, 158, 159] 11 true 156 rfl ?_
           refine Su [160, 161, 162, 163] 14 false 159 ?_
           refine Sk [164] 11 true 156 rfl ?_
           refine V 165 4 (p0 156 (.tmp 164) (.const (.bool false)) (.bool false) rfl) ?_
           refine V 10 4 (ma 165 (.bool false)) ?_
           have hs370 : HS w0 F0 w346 F19 [(sb b4 (kRef x1) 27), (sb b1 (kSystem x0 a0_0 n0_0 a0_1 n0_1) 25)] := hs347.drop 0
           have hs371 : HS w0 F0 w346 F19 [(sb b1 (kSystem x0 a0_0 n0_0 a0_1 n0_1) 25)] := hs370.drop 0
           have hs372 : HS w0 F0 w346 F19 [] := hs371.drop 0
           exact RWP.nil ⟨rfl, F19, hs372, (Mem.le.refl _), e314, (congrArg Value.bool (and_t hb357 (and_f hb358 (rfl))))⟩
         ·refine Sk [147, 148] 1 true 146 hb357 ?_
          refine V 149 4 (p0 146 (.tmp 148) (.const (.bool false)) (.bool false) hb357) ?_
          refine V 150 4 (mv 149 (.bool false)) ?_
          refine Sk [151, 152, 153, 154] 5 true 150 rfl ?_
          refine V 155 4 (p0 150 (.tmp 154) (.const (.bool false)) (.bool false) rfl) ?_
          refine V 156 4 (mv 155 (.bool false)) ?_
          refine Sk [157, 158, 159] 11 true 156 rfl ?_
          refine Su [160, 161, 162, 163] 14 false 159 ?_
          refine Sk [164] 11 true 156 rfl ?_
          refine V 165 4 (p0 156 (.tmp 164) (.const (.bool false)) (.bool false) rfl) ?_
          refine V 10 4 (ma 165 (.bool false)) ?_
          have hs373 : HS w0 F0 w346 F19 [(sb b4 (kRef x1) 27), (sb b1 (kSystem x0 a0_0 n0_0 a0_1 n0_1) 25)] := hs347.drop 0
          have hs374 : HS w0 F0 w346 F19 [(sb b1 (kSystem x0 a0_0 n0_0 a0_1 n0_1) 25)] := hs373.drop 0
          have hs375 : HS w0 F0 w346 F19 [] := hs374.drop 0
          exact RWP.nil ⟨rfl, F19, hs375, (Mem.le.refl _), e314, (congrArg Value.bool (and_f hb357 (rfl)))⟩
        ·rintro f w352 ⟨F20, hs353, le354, e355, e356⟩
         refine thenQ_nrm ?_
         refine CWP.ret (by kernel_rfl) ?_
         refine thenQ_ret ?_
         have hfin := some_inj h351
         subst hfin
         exact ⟨e355, (.bool (r7 && ((r342.2 == 0) && ((r342.1 == r54.1.Hi) && ((r75.2 != 0) || (decide (r75.1 ≥ r54.1.Hi))))))), res_of (l := [.tmp 10]) (by kernel_rfl) (vs := [(.bool (r7 && ((r342.2 == 0) && ((r342.1 == r54.1.Hi) && ((r75.2 != 0) || (decide (r75.1 ≥ r54.1.Hi)))))))]) ⟨e356, trivial⟩, (.bool (r7 && ((r342.2 == 0) && ((r342.1 == r54.1.Hi) && ((r75.2 != 0) || (decide (r75.1 ≥ r54.1.Hi))))))), F20, rfl, hs353.clear, rfl⟩
       ·have h376 := cond_f h344 hb350
        refine Sc ?_
        refine thenQ_nrm ?_
        refine Sq (Rg [0, 1, 2, 3, 4, 5, 6, 7, 8, 9, 10, 11, 12, 13, 14, 15, 16, 17, 18, 19, 20, 21] ?_)
        refine RWP.cut (fun f w => ∃ (F21 : Mem), HS w0 F0 w F21 [] ∧ Mem.le F19 F21 ∧ f.d = [] ∧ f 10 = (.bool (r7 && ((r342.2 == 0) && ((r342.1 == r54.1.Lo) && ((r75.2 != 0) || (decide (r75.1 ≤ r54.1.Lo)))))))) ?_ ?_
        ·refine V 166 4 (mv 11 (.bool r7) e318) ?_
         refine V 167 4 (mv 166 (.bool r7)) ?_
         refine RWP.split r7 (fun hb382 => ?_) (fun hb382 => ?_)
         ·refine Vg 168 30 1 true 167 hb382 (mv 22 (vi r342.2)) ?_
          refine Vg 169 4 1 true 167 hb382 (run_eql (t := 30) (t' := 30) (x := (.tmp 168)) (y := (.const (vi 0))) (k := .i64) (a := r342.2) (b := 0) rfl rfl) ?_
          refine V 170 4 (p1 167 (.tmp 169) (.const (.bool false)) (.bool (r342.2 == 0)) hb382) ?_
          refine V 171 4 (mv 170 (.bool (r342.2 == 0))) ?_
          refine RWP.split (r342.2 == 0) (fun hb383 => ?_) (fun hb383 => ?_)
          ·refine Vg 172 3 5 true 171 hb383 (mv 21 (vi r342.1)) ?_
           refine Vg 173 0 5 true 171 hb383 (fa 38 14 0 0 1 b62 0 0 e321) ?_
           refine Vg 174 3 5 true 171 hb383 (ld 3 173 b62 0 false 1 (vi r54.1.Lo) (hs347.ownAt (k := 0) rfl)) ?_
           refine Vg 175 4 5 true 171 hb383 (run_eql (t := 3) (t' := 3) (x := (.tmp 172)) (y := (.tmp 174)) (k := .i64) (a := r342.1) (b := r54.1.Lo) rfl rfl) ?_
           refine V 176 4 (p1 171 (.tmp 175) (.const (.bool false)) (.bool (r342.1 == r54.1.Lo)) hb383) ?_
           refine V 177 4 (mv 176 (.bool (r342.1 == r54.1.Lo))) ?_
           refine RWP.split (r342.1 == r54.1.Lo) (fun hb384 => ?_) (fun hb384 => ?_)
           ·refine Vg 178 30 11 true 177 hb384 (mv 19 (vi r75.2) e324) ?_
            refine Vg 179 4 11 true 177 hb384 (run_neq (t := 30) (t' := 30) (x := (.tmp 178)) (y := (.const (vi 0))) (k := .i64) (a := r75.2) (b := 0) rfl rfl) ?_
            refine Vg 180 4 11 true 177 hb384 (mv 179 (.bool (r75.2 != 0))) ?_
            refine RWP.split (r75.2 != 0) (fun hb385 => ?_) (fun hb385 => ?_)
            ·refine Sk [181, 182, 183, 184] 14 false 180 hb385 ?_
             refine Vg 185 4 11 true 177 hb384 (p1 180 (.const (.bool true)) (.tmp 184) (.bool true) hb385) ?_
             refine V 186 4 (p1 177 (.tmp 185) (.const (.bool false)) (.bool true) hb384) ?_
             refine V 10 4 (ma 186 (.bool true)) ?_
             have hs386 : HS w0 F0 w346 F19 [(sb b4 (kRef x1) 27), (sb b1 (kSystem x0 a0_0 n0_0 a0_1 n0_1) 25)] := hs347.drop 0
             have hs387 : HS w0 F0 w346 F19 [(sb b1 (kSystem x0 a0_0 n0_0 a0_1 n0_1) 25)] := hs386.drop 0
             have hs388 : HS w0 F0 w346 F19 [] := hs387.drop 0
             exact RWP.nil ⟨rfl, F19, hs388, (Mem.le.refl _), e314, (congrArg Value.bool (and_t hb382 (and_t hb383 (and_t hb384 (or_t hb385 (rfl))))))⟩
            ·refine Vg 181 3 14 false 180 hb385 (mv 18 (vi r75.1) e323) ?_
             refine Vg 182 0 14 false 180 hb385 (fa 38 14 0 0 1 b62 0 0 e321) ?_
             refine Vg 183 3 14 false 180 hb385 (ld 3 182 b62 0 false 1 (vi r54.1.Lo) (hs347.ownAt (k := 0) rfl)) ?_
             refine Vg 184 4 14 false 180 hb385 (run_leq (t := 3) (t' := 3) (x := (.tmp 181)) (y := (.tmp 183)) (k := .i64) (a := r75.1) (b := r54.1.Lo) rfl rfl) ?_
             refine Vg 185 4 11 true 177 hb384 (p0 180 (.const (.bool true)) (.tmp 184) (.bool (decide (r75.1 ≤ r54.1.Lo))) hb385) ?_
             refine V 186 4 (p1 177 (.tmp 185) (.const (.bool false)) (.bool (decide (r75.1 ≤ r54.1.Lo))) hb384) ?_
             refine V 10 4 (ma 186 (.bool (decide (r75.1 ≤ r54.1.Lo)))) ?_
             have hs389 : HS w0 F0 w346 F19 [(sb b4 (kRef x1) 27), (sb b1 (kSystem x0 a0_0 n0_0 a0_1 n0_1) 25)] := hs347.drop 0
             have hs390 : HS w0 F0 w346 F19 [(sb b1 (kSystem x0 a0_0 n0_0 a0_1 n0_1) 25)] := hs389.drop 0
             have hs391 : HS w0 F0 w346 F19 [] := hs390.drop 0
             exact RWP.nil ⟨rfl, F19, hs391, (Mem.le.refl _), e314, (congrArg Value.bool (and_t hb382 (and_t hb383 (and_t hb384 (or_f hb385 (rfl))))))⟩
           ·refine Sk [178, 179, 180] 11 true 177 hb384 ?_
            refine Su [181, 182, 183, 184] 14 false 180 ?_
            refine Sk [185] 11 true 177 hb384 ?_
            refine V 186 4 (p0 177 (.tmp 185) (.const (.bool false)) (.bool false) hb384) ?_
            refine V 10 4 (ma 186 (.bool false)) ?_
            have hs392 : HS w0 F0 w346 F19 [(sb b4 (kRef x1) 27), (sb b1 (kSystem x0 a0_0 n0_0 a0_1 n0_1) 25)] := hs347.drop 0
            have hs393 : HS w0 F0 w346 F19 [(sb b1 (kSystem x0 a0_0 n0_0 a0_1 n0_1) 25)] := hs392.drop 0
            have hs394 : HS w0 F0 w346 F19 [] := hs393.drop 0
            exact RWP.nil ⟨rfl, F19, hs394, (Mem.le.refl _), e314, (congrArg Value.bool (and_t hb382 (and_t hb383 (and_f hb384 (rfl)))))⟩
          ·refine Sk [172, 173, 174, 175] 5 true 171 hb383 ?_
           refine V 176 4 (p0 171 (.tmp 175) (.const (.bool false)) (.bool false) hb383) ?_
           refine V 177 4 (mv 176 (.bool false)) ?_
           refine Sk [178, 179, 180] 11 true 177 rfl ?_
           refine Su [181, 182, 183, 184] 14 false 180 ?_
           refine Sk [185] 11 true 177 rfl ?_
           refine V 186 4 (p0 177 (.tmp 185) (.const (.bool false)) (.bool false) rfl) ?_
           refine V 10 4 (ma 186 (.bool false)) ?_
           have hs395 : HS w0 F0 w346 F19 [(sb b4 (kRef x1) 27), (sb b1 (kSystem x0 a0_0 n0_0 a0_1 n0_1) 25)] := hs347.drop 0
           have hs396 : HS w0 F0 w346 F19 [(sb b1 (kSystem x0 a0_0 n0_0 a0_1 n0_1) 25)] := hs395.drop 0
           have hs397 : HS w0 F0 w346 F19 [] := hs396.drop 0
           exact RWP.nil ⟨rfl, F19, hs397, (Mem.le.refl _), e314, (congrArg Value.bool (and_t hb382 (and_f hb383 (rfl))))⟩
         ·refine Sk [168, 169] 1 true 167 hb382 ?_
          refine V 170 4 (p0 167 (.tmp 169) (.const (.bool false)) (.bool false) hb382) ?_
          refine V 171 4 (mv 170 (.bool false)) ?_
          refine Sk [172, 173, 174, 175] 5 true 171 rfl ?_
          refine V 176 4 (p0 171 (.tmp 175) (.const (.bool false)) (.bool false) rfl) ?_
          refine V 177 4 (mv 176 (.bool false)) ?_
          refine Sk [178, 179, 180] 11 true 177 rfl ?_
          refine Su [181, 182, 183, 184] 14 false 180 ?_
          refine Sk [185] 11 true 177 rfl ?_
          refine V 186 4 (p0 177 (.tmp 185) (.const (.bool false)) (.bool false) rfl) ?_
          refine V 10 4 (ma 186 (.bool false)) ?_
          have hs398 : HS w0 F0 w346 F19 [(sb b4 (kRef x1) 27), (sb b1 (kSystem x0 a0_0 n0_0 a0_1 n0_1) 25)] := hs347.drop 0
          have hs399 : HS w0 F0 w346 F19 [(sb b1 (kSystem x0 a0_0 n0_0 a0_1 n0_1) 25)] := hs398.drop 0
          have hs400 : HS w0 F0 w346 F19 [] := hs399.drop 0
          exact RWP.nil ⟨rfl, F19, hs400, (Mem.le.refl _), e314, (congrArg Value.bool (and_f hb382 (rfl)))⟩
        ·rintro f w377 ⟨F21, hs378, le379, e380, e381⟩
         refine thenQ_nrm ?_
         refine CWP.ret (by kernel_rfl) ?_
         have hfin := some_inj h376
         subst hfin
         exact ⟨e380, (.bool (r7 && ((r342.2 == 0) && ((r342.1 == r54.1.Lo) && ((r75.2 != 0) || (decide (r75.1 ≤ r54.1.Lo))))))), res_of (l := [.tmp 10]) (by kernel_rfl) (vs := [(.bool (r7 && ((r342.2 == 0) && ((r342.1 == r54.1.Lo) && ((r75.2 != 0) || (decide (r75.1 ≤ r54.1.Lo)))))))]) ⟨e381, trivial⟩, (.bool (r7 && ((r342.2 == 0) && ((r342.1 == r54.1.Lo) && ((r75.2 != 0) || (decide (r75.1 ≤ r54.1.Lo))))))), F21, rfl, hs378.clear, rfl⟩
end Go.Proofs.Ythbcnabeabcmlaa
namespace Go.Proofs.Ythbcnabeabcmlaa
open BF
section
variable {N : Nat} {s : System}
theorem Path_c (hN : 1000000 ≤ N) (hf : FitS N s) (r : Ref) (late : Bool) : (ask s [r] ≠ 0 ∧ clocks_Path N s r late = some ([], ask s [r])) ∨
  (ask s [r] = 0 ∧ ∃ c, clocks_Path N s r late = some (c, 0) ∧ c ≠ [] ∧ c.length ≤ 25601 ∧ IsChain (bnds s) c (bif late then beg else r) (bif late then r else beg) (bif late then dd s beg r else dd s r beg)) := by
 unfold clocks_Path
 rw [asked_c hN hf (l := [r]) ⟨by simp, by simp; omega⟩, Option.bind_some]
 by_cases h : ask s [r] = 0
 ·right
  refine ⟨h, ?_⟩
  obtain ⟨h0, hr, hc⟩ := ask_zero h
  have hr := hr r (by simp)
  rw [h]
  simp only [bne_self_eq_false, cond_false, clocks_bounds, Option.bind_some, collect_c hf h0, clocks_beginning]
  rw [show ({ Log := -1, Line := 0 } : Ref) = beg from rfl]
  obtain ⟨x, h1, h2⟩ := relax_ok hN h0 hc beg (!late)
  unfold clocks_relax_ok
  rw [h1]
  simp only [Option.bind_some]
  have hval := h2.val h0 hc (nd_beg s) (x := r) (.inr hr)
  have hat : mget x.at_ r = some (bif !late then dd s r beg else dd s beg r) := by
   rw [h2.at]
   cases late with
   | true => exact dd_spec h0 hc (nd_beg s) (.inr hr)
   | false => exact dd_spec h0 hc (.inr hr) (nd_beg s)
  obtain ⟨⟨k, pre, ts, rd, now, hI⟩, hcl⟩ := h2
  obtain ⟨p, p1, p2, p3, p4⟩ := hI.home d0 hcl (nodes := nodesOf s) (fun e he => by
   cases late with
   | true => exact mem_nodes.2 (bnd_ends h0 he).2
   | false => exact mem_nodes.2 (bnd_ends h0 he).1) (x := r) hat
  have hrb : r ≠ beg := fun he => by rw [he, has_beg] at hr; cases hr
  have hp : 1 ≤ p := by
   rcases Nat.eq_zero_or_pos p with h | h
   ·subst h; exact absurd p2 hrb
   ·exact h
  have hnl := nodes_len h0
  rw [back_eq (q := p) (uB := fun y => decide (y = beg)) (fun y => by
   unfold clocks_Path_1 clocks_beginning
   rw [Option.bind_some, Option.bind_some]
   rw [show ((y.Log == -1) && ((y.Line == 0) && true)) = refB y beg from rfl, refB_eq]) hp (fun i _ hlt => by simpa using (p3 i hlt).1) (by simpa using p2) (by omega) (by omega)]
  have hch := back_chain (tu := !late) (l := bnds s) (by_ := x.by_) (at_ := x.at_) (fun y e he => by
   obtain ⟨e1, e2, _⟩ := hI.par y e he
   exact ⟨e1, e2⟩) p r (fun i hi => (p3 i hi).2)
  rw [p2, p4] at hch
  refine ⟨turnL (!late) (backL (!late) x.by_ x.at_ p r), ?_, ?_, ?_, ?_⟩
  ·cases late with
   | true =>
    simp only [Option.bind_some, cond_true]
    rw [rev_eq (by rw [backL_len]; omega) (by rw [backL_len]; omega)]
    rfl
   | false => rfl
  ·intro he
   have := congrArg List.length he
   unfold turnL at this
   cases late <;> simp [backL_len] at this <;> omega
  ·unfold turnL
   cases late <;> simp [backL_len] <;> omega
  ·cases late <;> exact hch
 ·left
  have e : (ask s [r] != 0) = true := by simpa using h
  rw [e]; exact ⟨h, rfl⟩
theorem path_facts {r : Ref} {late : Bool} {c : List Bound} (hv : (vPath s r late c).2 = 0) : vCheck s = 0 ∧ vHas s r = true ∧ ∃ n, WK s (bif late then beg else r) (bif late then r else beg) n ∧ (vPath s r late c).1 = bif late then n else -n := by
 unfold vPath at hv ⊢
 by_cases h : vCheck s = 0
 ·rw [if_neg (by omega)] at hv ⊢
  cases hr : vHas s r with
  | false => rw [hr, if_pos rfl] at hv; cases hv
  | true =>
   rw [hr, if_neg (by simp)] at hv
   rw [if_neg (by simp)]
   by_cases hc : (vChain (bnds s) c && (decide ((firstB c).From = bif late then beg else r) && decide ((lastB c).To = bif late then r else beg))) = true
   ·rw [if_pos hc]
    simp only [Bool.and_eq_true, decide_eq_true_eq] at hc
    obtain ⟨h1, h2, h3⟩ := hc
    obtain ⟨m1, m2, m3⟩ := vChain_mem h1
    have hs := wsum_eq (bnd_most h) m1 m3
    have hw := chain_walk (chain_of h1)
    rw [h2, h3] at hw
    refine ⟨h, rfl, sumB c, hw, ?_⟩
    cases late with
    | true => exact hs.1
    | false => simp only [cond_false]; rw [W64_id (by omega) (by omega)]; omega
   ·rw [if_neg hc] at hv; cases hv
 ·rw [if_pos h] at hv; exact absurd hv h
theorem path_ok {r : Ref} {late : Bool} {c : List Bound} {n : Int} (h : vCheck s = 0) (hr : vHas s r = true) (hc : IsChain (bnds s) c (bif late then beg else r) (bif late then r else beg) n) (hne : c ≠ []) (hlen : c.length ≤ 30000) : vPath s r late c = (bif late then n else -n, 0) := by
 obtain ⟨e1, e2, e3⟩ := of_chain hc hne hlen
 have hs := wsum_eq (bnd_most h) hc.sub hlen
 have hsum := hc.sum
 unfold vPath
 rw [if_neg (by omega), if_neg (by rw [hr]; simp), e1, e2, e3]
 simp only [decide_true, Bool.and_self, if_true]
 cases late with
 | true => simp only [cond_true]; rw [hs.1, hsum]
 | false => simp only [cond_false]; rw [hs.1, hsum, W64_id (by omega) (by omega)]; simp
theorem paths_true (hN : 1000000 ≤ N) (hf : FitS N s) (r : Ref) (late : Bool) {x : List Bound} (hx : Fit N x.length) (l : List (List Int)) : law03_ClocksPaths N s r late x l = some true := by
 unfold law03_ClocksPaths
 obtain ⟨fw, hfw⟩ := few_some hf
 rw [awake_at (by omega), hfw]
 simp only [Option.bind_some, Keeps_c hN hf, Interval_c hN hf, ValidPath_c hf r late hx, keeps_code, int_code]
 cases fw with
 | false => rfl
 | true =>
  simp only [Bool.not_true, cond_false]
  cases decide ((l.length : Int) > 100) with
  | true => rfl
  | false =>
   simp only [cond_false, Option.bind_some]
   cases decide ((x.length : Int) > 200) with
   | true => rfl
   | false =>
    simp only [cond_false]
    obtain ⟨c, pc, hp, hrest⟩ : ∃ c pc, clocks_Path N s r late = some (c, pc) ∧ (bif ((pc != 0) || (ask s [r] != 0)) then some (true && (pc == ask s [r])) else ((clocks_ValidPath N s r late c).bind fun r251 => (bif late then some (true && ((r251.2 == 0) && ((r251.1 == (vInterval s r).1.Hi) && (((vPath s r late x).2 != 0) || (decide ((vPath s r late x).1 ≥ (vInterval s r).1.Hi)))))) else some (true && ((r251.2 == 0) && ((r251.1 == (vInterval s r).1.Lo) && (((vPath s r late x).2 != 0) || (decide ((vPath s r late x).1 ≤ (vInterval s r).1.Lo)))))))))  = some true := by
     rcases Path_c hN hf r late with ⟨h, h1⟩ | ⟨h, c, h1, h2, h3, h4⟩
     ·refine ⟨_, _, h1, ?_⟩
      have e : (ask s [r] != 0) = true := by simpa using h
      rw [e]; simp
     ·refine ⟨_, _, h1, ?_⟩
      obtain ⟨h0, hr, hc⟩ := ask_zero h
      have hr := hr r (by simp)
      have nr : Nd s r := .inr hr
      rw [h, ValidPath_c hf r late (c := c) ⟨by omega, by omega⟩, path_ok h0 hr h4 h2 (by omega), int_val h]
      have key : (vPath s r late x).2 = 0 → (bif late then (vPath s r late x).1 ≥ dd s beg r else (vPath s r late x).1 ≤ -dd s r beg) := by
       intro hv
       obtain ⟨_, _, n, hw, hn⟩ := path_facts hv
       rw [hn]
       cases late with
       | true => exact (dd_spec h0 hc (nd_beg s) nr).2 _ hw
       | false => have := (dd_spec h0 hc nr (nd_beg s)).2 _ hw; simp only [cond_false]; omega
      unfold spanAt
      cases late with
      | true =>
       by_cases hv : (vPath s r true x).2 = 0
       ·have := key hv
        simp only [cond_true] at this
        simp [hv, this]
       ·simp [hv]
      | false =>
       by_cases hv : (vPath s r false x).2 = 0
       ·have := key hv
        simp only [cond_false] at this
        simp [hv, this]
       ·simp [hv]
    rw [hp]
    simp only [Option.bind_some]
    by_cases ht : (vPath s r late x).2 = 0 ∧ vCheck s = 0 ∧ (vKeeps s l).1 = true
    ·obtain ⟨t1, t2, t3⟩ := ht
     obtain ⟨h0, hr, n, hw, hn⟩ := path_facts t1
     have e : (((vPath s r late x).2 == 0) && ((vCheck s == 0) && (vKeeps s l).1)) = true := by simp [t1, t2, t3]
     rw [e, cond_true]
     have hk := keeps_walk h0 t3 hw
     have hform : vForm s l = true := by
      unfold vKeeps at t3
      rw [if_neg (by omega)] at t3
      simp only [Bool.and_eq_true] at t3
      exact t3.1
     obtain ⟨i, t, j, rfl, hti, hj⟩ := li_has hr
     obtain ⟨row, r1, r2, r3⟩ := form_at hform hti
     have hil := lt_of_get' r1
     have hmi : mAt l (li i j) = row[j] := by
      unfold mAt
      rw [if_neg (by intro h; have : (i : Int) = -1 := congrArg Ref.Log h; omega)]
      have hd : l.getD i [] = row := by rw [List.getD_eq_getElem?_getD, r1]; rfl
      simp only [li, Int.toNat_natCast, hd]
      rw [getD_at (show j < row.length by omega)]
     have hmb : mAt l beg = 0 := by unfold mAt; rw [if_pos rfl]
     have g1 : decide ((li i j).Log < 0) = false := by simp [li]
     have g2 : decide ((li i j).Log ≥ (l.length : Int)) = false := by simp [li]; omega
     have g3 : decide ((li i j).Line < 0) = false := by simp [li]
     have g4 : decide ((li i j).Line ≥ (row.length : Int)) = false := by simp [li]; omega
     have g5 : idx l (li i j).Log = some row := by simp only [li, idx_nat']; exact r1
     have g6 : idx row (li i j).Line = some row[j] := by simp only [li]; exact idx_nat (by omega)
     rw [g1, g2, g3, g5]
     simp only [cond_false, Option.bind_some, g4, g6]
     have g7 : (bif late then ((decide (row[j] > (vPath s (li i j) late x).1)) || ((!late) && (decide (row[j] < (vPath s (li i j) late x).1)))) else ((!late) && (decide (row[j] < (vPath s (li i j) late x).1)))) = false := by
      rw [hn]
      cases late with
      | true => simp only [cond_true] at hk ⊢; rw [hmi, hmb] at hk; simp; omega
      | false => simp only [cond_false] at hk ⊢; rw [hmi, hmb] at hk; simp; omega
     rw [g7, cond_false]
     exact hrest
    ·have e : (((vPath s r late x).2 == 0) && ((vCheck s == 0) && (vKeeps s l).1)) = false := by
      cases he : (((vPath s r late x).2 == 0) && ((vCheck s == 0) && (vKeeps s l).1)) with
      | false => rfl
      | true =>
       simp only [Bool.and_eq_true, beq_iff_eq] at he
       exact absurd ⟨he.1, he.2.1, he.2.2⟩ ht
     rw [e, cond_false]
     exact hrest
end
theorem paths_row (s : System) (r : Ref) (late : Bool) (x : List Bound) (l : List (List Int)) (q : qSystem s) (_ : qRef r) (_ : True) (p : x.length < 9223372036854775808 ∧ ∀ b, b ∈ x → qBound b) (_ : l.length < 9223372036854775808 ∧ ∀ x, x ∈ l → (fun l : List Int => l.length < 9223372036854775808 ∧ ∀ x, x ∈ l → rI x) x) :
  law03_ClocksPaths NN s r late x l = some true := paths_true (by decide) (fitS q) r late (fitL p) l
end Go.Proofs.Ythbcnabeabcmlaa
namespace Go.Proofs.Ythbcnabeabcmlaa
open Go.ChangeShapes Go.WideShapes Go.ChangeAt Go.RowKit
set_option maxRecDepth 100000 in
theorem lifted_clocksPaths (os : Os) (started : os.Started) (H : Type) (enc : TypeId × Value → H) :
  ReturnsInHanded {} Try.checked os 14 .any (Rows.clocksPathsSpec.pre6 enc Try.prog Try.f14 Rows.clocksPathsRow.domain false) (Rows.clocksPathsSpec.post enc Try.prog Try.f14 false true false false) := by
 refine returnsInHanded_of_change (C := Try.checked) (by kernel_rfl) started (by kernel_rfl) Try.func14
  (ChangeSpec.witness6 (enc := enc) (C := Try.checked) false ⟨#[], #[.agg #[.slice none 0 0, .slice none 0 0, .int .i64 0], .agg #[.int .i64 0, .int .i64 0], .bool false, .slice none 0 0, .slice none 0 0], []⟩ 8 (by kernel_rfl) (by kernel_rfl) (by kernel_rfl) (by kernel_rfl)) ?_
 intro W base args ds gs before hval0 hW hcnd _
 have hval : ∀ (j : Nat) t v, Try.f14.params[j]? = some t → args[j]? = some v → Value.okWide Try.prog W .any base t v := hval0
 have hW' := hW
 obtain ⟨p, q, hA0, hV, rfl, hfz, hnd⟩ := hW
 have hA : DataW.TrodAll enc Try.prog W 0 (fun _ => true) true Try.f14.params.toList args.toList ds p := hA0
 rw [Try.params14] at hA hval
 obtain ⟨v0, vs0, d0, ds0, p0, q0, hargs, rfl, rfl, h0, r0⟩ := trodAll_cons hA
 obtain ⟨v1, vs1, d1, ds1, p1, q1, rfl, rfl, rfl, h1, r1⟩ := trodAll_cons r0
 obtain ⟨v2, vs2, d2, ds2, p2, q2, rfl, rfl, rfl, h2, r2⟩ := trodAll_cons r1
 obtain ⟨v3, vs3, d3, ds3, p3, q3, rfl, rfl, rfl, h3, r3⟩ := trodAll_cons r2
 obtain ⟨v4, vs4, d4, ds4, p4, q4, rfl, rfl, rfl, h4, r4⟩ := trodAll_cons r3
 obtain ⟨rfl, rfl, rfl⟩ := trodAll_nil r4
 obtain rfl : args = #[v0, v1, v2, v3, v4] := by cases args; simp_all
 obtain ⟨cs0, x0, rfl, R0, Q0⟩ := Opens.agg opens_System_25 (by kernel_rfl) (hval 0 25 v0 rfl rfl) h0
 obtain ⟨a0_0, n0_0, a0_1, n0_1, e0, hb0_0, hs0_0, hb0_1, hs0_1⟩ := R0
 obtain rfl : cs0 = #[.slice a0_0 x0.Tracks.length n0_0, .slice a0_1 x0.Ties.length n0_1, .int .i64 x0.Window] := Array.ext' (by exact e0)
 obtain ⟨cs1, x1, rfl, R1, Q1⟩ := Opens.agg opens_Ref_27 (by kernel_rfl) (hval 1 27 v1 rfl rfl) h1
 have e1 := R1
 obtain rfl : cs1 = #[.int .i64 x1.Log, .int .i64 x1.Line] := Array.ext' (by exact e1)
 obtain ⟨x2, R2, Q2⟩ := Opens.one (opens_bool (t := 4) (by kernel_rfl) (by kernel_rfl) : Opens Try.prog 4 tBool _) (by kernel_rfl) (hval 2 4 v2 rfl rfl) h2
 have e2 : [v2] = [.bool x2] := R2
 cases e2
 obtain ⟨x3, R3, Q3⟩ := Opens.one (opens_slice (t := 57) opens_Bound_103 (by decide) (by kernel_rfl) (by kernel_rfl) : Opens Try.prog 57 (tSl tBound) _) (by kernel_rfl) (hval 3 57 v3 rfl rfl) h3
 obtain ⟨a3_0, n3_0, e3, hb3_0, hs3_0⟩ := R3
 obtain rfl : v3 = .slice a3_0 x3.length n3_0 := by cases e3; rfl
 obtain ⟨x4, R4, Q4⟩ := Opens.one (opens_slice (t := 71) (opens_slice (t := 50) (opens_int (t := 3) (by kernel_rfl) (by kernel_rfl) : Opens Try.prog 3 tInt rI) (by decide) (by kernel_rfl) (by kernel_rfl) : Opens Try.prog 50 (tSl tInt) _) (by decide) (by kernel_rfl) (by kernel_rfl) : Opens Try.prog 71 (tSl (tSl tInt)) _) (by kernel_rfl) (hval 4 71 v4 rfl rfl) h4
 obtain ⟨a4_0, n4_0, e4, hb4_0, hs4_0⟩ := R4
 obtain rfl : v4 = .slice a4_0 x4.length n4_0 := by cases e4; rfl
 refine (c_law03_ClocksPaths 9223372036854775808 W (memOf W) (fun _ _ h => h) x0 a0_0 n0_0 hb0_0 hs0_0 a0_1 n0_1 hb0_1 hs0_1 x1 x2 x3 a3_0 n3_0 hb3_0 hs3_0 x4 a4_0 n4_0 hb4_0 hs4_0 true (paths_row x0 x1 x2 x3 x4 Q0 Q1 Q2 Q3 Q4)).mono fun e W' he => ?_
 obtain ⟨r, F', rfl, hs, rfl⟩ := he
 refine ⟨_, rfl, post_grown (by kernel_rfl) (tb := 4) ?_ rfl hW' (by kernel_rfl) (by kernel_rfl) ?_ hs⟩
 ·intro t ht
  rw [Try.params14] at ht
  simp only [List.mem_cons, List.not_mem_nil, or_false] at ht
  rcases ht with rfl | rfl | rfl | rfl | rfl <;> exact ⟨by kernel_rfl, by decide +kernel⟩
 ·intro _; rfl
theorem clocksPaths_proved : Rows.ClocksPathsSaid :=
 OpenClaim.holds_of_wide 14 Try.f14 rfl rfl rfl rfl rfl rfl rfl ⟨rfl, rfl, rfl, rfl, rfl⟩ rfl rfl rfl rfl rfl (by kernel_rfl) Try.func14 (by kernel_rfl)
  (of_decide_eq_true (by kernel_rfl)) (by unfold Func.isWrapper; first | (rw [if_pos (by decide +kernel)]; kernel_rfl) | (rw [if_neg (by decide +kernel)]; exact ⟨rfl, rfl⟩))
  (fun os started H enc _ => lifted_clocksPaths os started H enc)
end Go.Proofs.Ythbcnabeabcmlaa
