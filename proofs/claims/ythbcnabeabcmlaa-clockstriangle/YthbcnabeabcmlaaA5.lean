/- ClocksTriangle: for every input the law returns true, and each argument reads afterwards as it read before. No condition. -/
import Derived.Test.YthbcnabeabcmlaaA4
set_option linter.unusedVariables false
set_option linter.unusedSimpArgs false
set_option linter.unusedSectionVars false
namespace Go.Proofs.Ythbcnabeabcmlaa
open Go.Proofs
def law03_few_L0 (N : Nat) (x0 : System) : (Int × Int) → Option (Flow Bool (Int × Int)) := fun s7 =>
 (bif (decide (s7.2 < (x0.Tracks.length : Int))) then ((idx x0.Tracks s7.2).bind fun x30 => ((idx x0.Tracks s7.2).bind fun x44 => (bif (decide ((x44.Clock.Jumps.length : Int) > 40)) then some (.ret false) else some (.next ((W64 (s7.1 + (x30.Times.length : Int))), (W64 (s7.2 + 1))))))) else some (.done (s7.1, s7.2)))
def law03_few (N : Nat) (x0 : System) : Option Bool :=
 ((iter (law03_few_L0 N x0) N (0, 0)).bind fun o => o.k (fun r => some r) (fun s15 => some ((decide (s15.1 ≤ 40)) && ((decide ((x0.Tracks.length : Int) ≤ 100)) && ((decide ((x0.Ties.length : Int) ≤ 30)) || ((decide ((x0.Ties.length : Int) > 400)) && (decide ((x0.Ties.length : Int) ≤ 500))))))))
theorem co_law03_few : CallOk Try.prog 16 := fun _ _ => by kernel_rfl
set_option maxHeartbeats 4000000 in
set_option maxRecDepth 100000 in
theorem c_law03_few (N : Nat) (w0 : World) (F0 : Mem) (hF : ∀ b o, F0 b = some o → w0.heap[b]? = some o) (x0 : System) (a0_0 : Option Addr) (n0_0 : Nat) (hb0_0 : LC x0.Tracks.length n0_0) (hs0_0 : SlA tTrack F0 a0_0 x0.Tracks) (a0_1 : Option Addr) (n0_1 : Nat) (hb0_1 : LC x0.Ties.length n0_1) (hs0_1 : SlA tTie F0 a0_1 x0.Ties) (r : Bool) (h : law03_few N x0 = some r) :
  Calls Try.prog 16 ([(.agg #[(.slice a0_0 x0.Tracks.length n0_0), (.slice a0_1 x0.Ties.length n0_1), (.int .i64 x0.Window)])] : List Value).toArray w0 (FRet w0 F0 fun F' v => v = (.bool r)) := by
 have hs0 := HS.start hF
 refine calls_of (n := 56) (c := bodyOf Try.f16) Try.func16 (by kernel_rfl) (by kernel_rfl) (by kernel_rfl) ?_
 refine Sq (Rg [0, 1] ?_)
 refine Bx 1 0 0 25 #[(.slice a0_0 x0.Tracks.length n0_0), (.slice a0_1 x0.Ties.length n0_1), (.int .i64 x0.Window)] hs0 (fun b1 w2 (hs3 : HS w0 F0 w2 F0 [(some b1, (.cells #[(.slice a0_0 x0.Tracks.length n0_0), (.slice a0_1 x0.Ties.length n0_1), (.int .i64 x0.Window)] 25 (0, 0)))]) => ?_)
 refine V 2 4 (mc (.bool false) (.bool false)) ?_
 refine Nss (Rg [0] ?_)
 refine V 3 3 (mc (.int .i64 0) (.int .i64 0)) ?_
 refine Nss ?_
 refine Sq (Rg [0] ?_)
 refine V 4 3 (mc (.int .i64 0) (.int .i64 0)) ?_
 refine Nt ?_
 obtain ⟨o4, ho5, h6⟩ := bind_some h
 refine CWP.cut (fun f w => ∃ (s15 : (Int × Int)) (F2 : Mem), o4 = .done s15 ∧ HS w0 F0 w F2 [(some b1, (.cells #[(.slice a0_0 x0.Tracks.length n0_0), (.slice a0_1 x0.Ties.length n0_1), (.int .i64 x0.Window)] 25 (0, 0)))] ∧ Mem.le F0 F2 ∧ f.d = [] ∧ f 1 = (.pointer (some ⟨b1, 0, none⟩)) ∧ f 3 = (.int .i64 s15.1)) ?_ ?_
 ·refine Bk ?_
  refine CWP.loop (by kernel_rfl) (fun m f w => ∃ (s7 : (Int × Int)) (F1 : Mem), iter (law03_few_L0 N x0) m s7 = some o4 ∧ HS w0 F0 w F1 [(some b1, (.cells #[(.slice a0_0 x0.Tracks.length n0_0), (.slice a0_1 x0.Ties.length n0_1), (.int .i64 x0.Window)] 25 (0, 0)))] ∧ Mem.le F0 F1 ∧ f.d = [] ∧ f 1 = (.pointer (some ⟨b1, 0, none⟩)) ∧ f 3 = (.int .i64 s7.1) ∧ f 4 = (.int .i64 s7.2)) N ⟨(0, 0), F0, ho5, hs3, (Mem.le.refl _), rfl, rfl, rfl, rfl⟩ ?_
  rintro m22 f w8 ⟨s7, F1, hit23, hs9, le10, e11, e12, e13, e14⟩
  obtain ⟨m24, fl25, rfl, hb26, hnx27⟩ := iter_step hit23
  refine Sq ?_
  refine Sq (Rg [0, 1, 2, 3, 4] ?_)
  refine V 5 3 (mv 4 (.int .i64 s7.2) e14) ?_
  refine V 6 0 (fa 25 1 0 0 1 b1 0 0 e12) ?_
  refine V 7 22 (ld 22 6 b1 0 false 1 (.slice a0_0 x0.Tracks.length n0_0) (hs9.ownAt (k := 0) rfl)) ?_
  refine V 8 3 (ln 7 22 a0_0 x0.Tracks.length n0_0 54 4 64) ?_
  refine V 9 4 (run_lss (t := 3) (t' := 3) (x := (.tmp 5)) (y := (.tmp 8)) (k := .i64) (a := s7.2) (b := (x0.Tracks.length : Int)) rfl rfl) ?_
  refine Nt ?_
  refine CWP.cond (t := (decide (s7.2 < (x0.Tracks.length : Int)))) (by kernel_rfl) rfl (fun hb28 => ?_) (fun hb28 => ?_)
  ·have h29 := cond_t hb26 hb28
   refine Sc ?_
   refine thenQ_nrm ?_
   refine Sq ?_
   refine Bk ?_
   refine Sq (Rg [0, 1, 2, 3, 4, 5, 6, 7, 8, 9] ?_)
   refine V 12 3 (mv 3 (.int .i64 s7.1) e13) ?_
   refine V 13 0 (fa 25 1 0 0 1 b1 0 0 e12) ?_
   refine V 14 22 (ld 22 13 b1 0 false 1 (.slice a0_0 x0.Tracks.length n0_0) (hs9.ownAt (k := 0) rfl)) ?_
   refine V 15 3 (mv 4 (.int .i64 s7.2) e14) ?_
   obtain ⟨x30, hx31, h33⟩ := bind_some h29
   obtain ⟨hi32, hx31'⟩ := idx_spec hx31
   obtain ⟨b34, o35, C36, E37, fz38, rfl, hF40, hE41⟩ := SlA.open (SlA.mono hs0_0 le10) hx31'
   obtain ⟨ae42_2, ne42_2, ae42_3, ne42_3, hc43, hbe42_2, hse42_2, hbe42_3, hse42_3⟩ := hE41 _ _ hx31'
   refine V 16 0 (ix 22 14 15 b34 o35 54 4 64 hi32) ?_
   refine V 17 0 (fa 54 16 1 3 1 b34 (o35 + (s7.2 : Int).toNat * 4) ((o35 + (s7.2 : Int).toNat * 4) + 3)) ?_
   refine V 18 50 (lx 50 17 3 4 false 1 (.slice ae42_3 x30.Times.length ne42_3) (hs9.pers _ _ hF40) hc43) ?_
   refine V 19 3 (ln 18 50 ae42_3 x30.Times.length ne42_3 3 1 8) ?_
   refine V 20 3 (run_add (t := 3) (t' := 3) (x := (.tmp 12)) (y := (.tmp 19)) (k := .i64) (a := s7.1) (b := (x30.Times.length : Int)) rfl rfl) ?_
   refine V 3 3 (ma 20 (.int .i64 (W64 (s7.1 + (x30.Times.length : Int))))) ?_
   refine Nss (Rg [0, 1, 2, 3, 4, 5, 6, 7, 8] ?_)
   refine V 21 0 (fa 25 1 0 0 1 b1 0 0 e12) ?_
   refine V 22 22 (ld 22 21 b1 0 false 1 (.slice (some ⟨b34, o35, none⟩) x0.Tracks.length n0_0) (hs9.ownAt (k := 0) rfl)) ?_
   refine V 23 3 (mv 4 (.int .i64 s7.2) e14) ?_
   obtain ⟨x44, hx45, h47⟩ := bind_some h33
   obtain ⟨hi46, hx45'⟩ := idx_spec hx45
   obtain ⟨ae48_2, ne48_2, ae48_3, ne48_3, hc49, hbe48_2, hse48_2, hbe48_3, hse48_3⟩ := hE41 _ _ hx45'
   refine V 24 0 (ix 22 22 23 b34 o35 54 4 64 hi46) ?_
   refine V 25 0 (fa 54 24 0 0 3 b34 (o35 + (s7.2 : Int).toNat * 4) (o35 + (s7.2 : Int).toNat * 4)) ?_
   refine V 26 0 (fa 52 25 2 2 1 b34 (o35 + (s7.2 : Int).toNat * 4) ((o35 + (s7.2 : Int).toNat * 4) + 2)) ?_
   refine V 27 50 (lx 50 26 2 4 false 1 (.slice ae48_2 x44.Clock.Jumps.length ne48_2) (hs9.pers _ _ hF40) hc49) ?_
   refine V 28 3 (ln 27 50 ae48_2 x44.Clock.Jumps.length ne48_2 3 1 8) ?_
   refine V 29 4 (run_gtr (t := 3) (t' := 3) (x := (.tmp 28)) (y := (.const (.int .i64 40))) (k := .i64) (a := (x44.Clock.Jumps.length : Int)) (b := 40) rfl rfl) ?_
   refine Nt ?_
   refine CWP.cond (t := (decide ((x44.Clock.Jumps.length : Int) > 40))) (by kernel_rfl) rfl (fun hb50 => ?_) (fun hb50 => ?_)
   ·have h51 := cond_t h47 hb50
    refine Sq (Rg [0] ?_)
    refine V 2 4 (mc (.bool false) (.bool false)) ?_
    refine Nt ?_
    refine CWP.ret (by kernel_rfl) ?_
    refine blockQ_ret ?_
    refine thenQ_ret ?_
    refine thenQ_ret ?_
    refine blockQ_ret ?_
    have hret := iter_ret h51 hnx27
    subst hret
    refine .inr ?_
    refine thenQ_ret ?_
    have hfin := some_inj h6
    subst hfin
    exact ⟨e11, (.bool false), res_of (l := [.tmp 2]) (by kernel_rfl) (vs := [(.bool false)]) ⟨rfl, trivial⟩, (.bool false), F1, rfl, hs9.clear, rfl⟩
   ·have h52 := cond_f h47 hb50
    refine Sc ?_
    refine blockQ_nrm ?_
    refine thenQ_nrm ?_
    refine Rg [0, 1, 2] ?_
    refine V 10 3 (mv 4 (.int .i64 s7.2) e14) ?_
    refine V 11 3 (run_add (t := 3) (t' := 3) (x := (.tmp 10)) (y := (.const (.int .i64 1))) (k := .i64) (a := s7.2) (b := 1) rfl rfl) ?_
    refine V 4 3 (ma 11 (.int .i64 (W64 (s7.2 + 1)))) ?_
    refine RWP.nil ?_
    have hn53 := iter_next h52 hnx27
    exact ⟨m24, Nat.lt_succ_self _, ((W64 (s7.1 + (x30.Times.length : Int))), (W64 (s7.2 + 1))), F1, hn53, hs9, le10, e11, e12, rfl, rfl⟩
  ·have h54 := cond_f hb26 hb28
   refine CWP.exit (by kernel_rfl) ?_
   refine thenQ_ex ?_
   refine thenQ_ex ?_
   refine blockQ_hit rfl ?_
   have ho55 := iter_done h54 hnx27
   exact .inl ⟨rfl, (s7.1, s7.2), F1, ho55, hs9, le10, e11, e12, e13⟩
 ·rintro f w16 ⟨s15, F2, rfl, hs17, le18, e19, e20, e21⟩
  have h56 := k_done h6
  refine thenQ_nrm ?_
  refine Sq (Rg [0, 1, 2, 3, 4, 5, 6, 7, 8, 9, 10, 11, 12, 13, 14, 15, 16, 17, 18, 19, 20, 21, 22, 23, 24, 25, 26] ?_)
  refine RWP.cut (fun f w => ∃ (F3 : Mem), HS w0 F0 w F3 [] ∧ Mem.le F2 F3 ∧ f.d = [] ∧ f 2 = (.bool ((decide (s15.1 ≤ 40)) && ((decide ((x0.Tracks.length : Int) ≤ 100)) && ((decide ((x0.Ties.length : Int) ≤ 30)) || ((decide ((x0.Ties.length : Int) > 400)) && (decide ((x0.Ties.length : Int) ≤ 500)))))))) ?_ ?_
  ·refine V 30 3 (mv 3 (.int .i64 s15.1) e21) ?_
   refine V 31 4 (run_leq (t := 3) (t' := 3) (x := (.tmp 30)) (y := (.const (.int .i64 40))) (k := .i64) (a := s15.1) (b := 40) rfl rfl) ?_
   refine V 32 4 (mv 31 (.bool (decide (s15.1 ≤ 40)))) ?_
   refine RWP.split (decide (s15.1 ≤ 40)) (fun hb62 => ?_) (fun hb62 => ?_)
   ·refine Vg 33 0 2 true 32 hb62 (fa 25 1 0 0 1 b1 0 0 e20) ?_
    refine Vg 34 22 2 true 32 hb62 (ld 22 33 b1 0 false 1 (.slice a0_0 x0.Tracks.length n0_0) (hs17.ownAt (k := 0) rfl)) ?_
    refine Vg 35 3 2 true 32 hb62 (ln 34 22 a0_0 x0.Tracks.length n0_0 54 4 64) ?_
    refine Vg 36 4 2 true 32 hb62 (run_leq (t := 3) (t' := 3) (x := (.tmp 35)) (y := (.const (.int .i64 100))) (k := .i64) (a := (x0.Tracks.length : Int)) (b := 100) rfl rfl) ?_
    refine V 37 4 (p1 32 (.tmp 36) (.const (.bool false)) (.bool (decide ((x0.Tracks.length : Int) ≤ 100))) hb62) ?_
    refine V 38 4 (mv 37 (.bool (decide ((x0.Tracks.length : Int) ≤ 100)))) ?_
    refine RWP.split (decide ((x0.Tracks.length : Int) ≤ 100)) (fun hb63 => ?_) (fun hb63 => ?_)
    ·refine Vg 39 0 8 true 38 hb63 (fa 25 1 1 1 1 b1 0 1 e20) ?_
     refine Vg 40 23 8 true 38 hb63 (ld 23 39 b1 1 false 1 (.slice a0_1 x0.Ties.length n0_1) (hs17.ownAt (k := 0) rfl)) ?_
     refine Vg 41 3 8 true 38 hb63 (ln 40 23 a0_1 x0.Ties.length n0_1 46 4 32) ?_
     refine Vg 42 4 8 true 38 hb63 (run_leq (t := 3) (t' := 3) (x := (.tmp 41)) (y := (.const (.int .i64 30))) (k := .i64) (a := (x0.Ties.length : Int)) (b := 30) rfl rfl) ?_
     refine Vg 43 4 8 true 38 hb63 (mv 42 (.bool (decide ((x0.Ties.length : Int) ≤ 30)))) ?_
     refine RWP.split (decide ((x0.Ties.length : Int) ≤ 30)) (fun hb64 => ?_) (fun hb64 => ?_)
     ·refine Sk [44, 45, 46, 47, 48] 13 false 43 hb64 ?_
      refine Su [49, 50, 51, 52] 18 true 48 ?_
      refine Sk [53] 13 false 43 hb64 ?_
      refine Vg 54 4 8 true 38 hb63 (p1 43 (.const (.bool true)) (.tmp 53) (.bool true) hb64) ?_
      refine V 55 4 (p1 38 (.tmp 54) (.const (.bool false)) (.bool true) hb63) ?_
      refine V 2 4 (ma 55 (.bool true)) ?_
      have hs65 : HS w0 F0 w16 F2 [] := hs17.drop 0
      exact RWP.nil ⟨rfl, F2, hs65, (Mem.le.refl _), e19, (congrArg Value.bool (and_t hb62 (and_t hb63 (or_t hb64 (rfl)))))⟩
     ·refine Vg 44 0 13 false 43 hb64 (fa 25 1 1 1 1 b1 0 1 e20) ?_
      refine Vg 45 23 13 false 43 hb64 (ld 23 44 b1 1 false 1 (.slice a0_1 x0.Ties.length n0_1) (hs17.ownAt (k := 0) rfl)) ?_
      refine Vg 46 3 13 false 43 hb64 (ln 45 23 a0_1 x0.Ties.length n0_1 46 4 32) ?_
      refine Vg 47 4 13 false 43 hb64 (run_gtr (t := 3) (t' := 3) (x := (.tmp 46)) (y := (.const (.int .i64 400))) (k := .i64) (a := (x0.Ties.length : Int)) (b := 400) rfl rfl) ?_
      refine Vg 48 4 13 false 43 hb64 (mv 47 (.bool (decide ((x0.Ties.length : Int) > 400)))) ?_
      refine RWP.split (decide ((x0.Ties.length : Int) > 400)) (fun hb66 => ?_) (fun hb66 => ?_)
      ·refine Vg 49 0 18 true 48 hb66 (fa 25 1 1 1 1 b1 0 1 e20) ?_
       refine Vg 50 23 18 true 48 hb66 (ld 23 49 b1 1 false 1 (.slice a0_1 x0.Ties.length n0_1) (hs17.ownAt (k := 0) rfl)) ?_
       refine Vg 51 3 18 true 48 hb66 (ln 50 23 a0_1 x0.Ties.length n0_1 46 4 32) ?_
       refine Vg 52 4 18 true 48 hb66 (run_leq (t := 3) (t' := 3) (x := (.tmp 51)) (y := (.const (.int .i64 500))) (k := .i64) (a := (x0.Ties.length : Int)) (b := 500) rfl rfl) ?_
       refine Vg 53 4 13 false 43 hb64 (p1 48 (.tmp 52) (.const (.bool false)) (.bool (decide ((x0.Ties.length : Int) ≤ 500))) hb66) ?_
       refine Vg 54 4 8 true 38 hb63 (p0 43 (.const (.bool true)) (.tmp 53) (.bool (decide ((x0.Ties.length : Int) ≤ 500))) hb64) ?_
       refine V 55 4 (p1 38 (.tmp 54) (.const (.bool false)) (.bool (decide ((x0.Ties.length : Int) ≤ 500))) hb63) ?_
       refine V 2 4 (ma 55 (.bool (decide ((x0.Ties.length : Int) ≤ 500)))) ?_
       have hs67 : HS w0 F0 w16 F2 [] := hs17.drop 0
       exact RWP.nil ⟨rfl, F2, hs67, (Mem.le.refl _), e19, (congrArg Value.bool (and_t hb62 (and_t hb63 (or_f hb64 (and_t hb66 (rfl))))))⟩
      ·refine Sk [49, 50, 51, 52] 18 true 48 hb66 ?_
       refine Vg 53 4 13 false 43 hb64 (p0 48 (.tmp 52) (.const (.bool false)) (.bool false) hb66) ?_
       refine Vg 54 4 8 true 38 hb63 (p0 43 (.const (.bool true)) (.tmp 53) (.bool false) hb64) ?_
       refine V 55 4 (p1 38 (.tmp 54) (.const (.bool false)) (.bool false) hb63) ?_
       refine V 2 4 (ma 55 (.bool false)) ?_
       have hs68 : HS w0 F0 w16 F2 [] := hs17.drop 0
       exact RWP.nil ⟨rfl, F2, hs68, (Mem.le.refl _), e19, (congrArg Value.bool (and_t hb62 (and_t hb63 (or_f hb64 (and_f hb66 (rfl))))))⟩
    ·refine Sk [39, 40, 41, 42, 43] 8 true 38 hb63 ?_
     refine Su [44, 45, 46, 47, 48] 13 false 43 ?_
     refine Su [49, 50, 51, 52] 18 true 48 ?_
     refine Su [53] 13 false 43 ?_
     refine Sk [54] 8 true 38 hb63 ?_
     refine V 55 4 (p0 38 (.tmp 54) (.const (.bool false)) (.bool false) hb63) ?_
     refine V 2 4 (ma 55 (.bool false)) ?_
     have hs69 : HS w0 F0 w16 F2 [] := hs17.drop 0
     exact RWP.nil ⟨rfl, F2, hs69, (Mem.le.refl _), e19, (congrArg Value.bool (and_t hb62 (and_f hb63 (rfl))))⟩
   ·refine Sk [33, 34, 35, 36] 2 true 32 hb62 ?_
    refine V 37 4 (p0 32 (.tmp 36) (.const (.bool false)) (.bool false) hb62) ?_
    refine V 38 4 (mv 37 (.bool false)) ?_
    refine Sk [39, 40, 41, 42, 43] 8 true 38 rfl ?_
    refine Su [44, 45, 46, 47, 48] 13 false 43 ?_
    refine Su [49, 50, 51, 52] 18 true 48 ?_
    refine Su [53] 13 false 43 ?_
    refine Sk [54] 8 true 38 rfl ?_
    refine V 55 4 (p0 38 (.tmp 54) (.const (.bool false)) (.bool false) rfl) ?_
    refine V 2 4 (ma 55 (.bool false)) ?_
    have hs70 : HS w0 F0 w16 F2 [] := hs17.drop 0
    exact RWP.nil ⟨rfl, F2, hs70, (Mem.le.refl _), e19, (congrArg Value.bool (and_f hb62 (rfl)))⟩
  ·rintro f w57 ⟨F3, hs58, le59, e60, e61⟩
   refine thenQ_nrm ?_
   refine CWP.ret (by kernel_rfl) ?_
   have hfin := some_inj h56
   subst hfin
   exact ⟨e60, (.bool ((decide (s15.1 ≤ 40)) && ((decide ((x0.Tracks.length : Int) ≤ 100)) && ((decide ((x0.Ties.length : Int) ≤ 30)) || ((decide ((x0.Ties.length : Int) > 400)) && (decide ((x0.Ties.length : Int) ≤ 500))))))), res_of (l := [.tmp 2]) (by kernel_rfl) (vs := [(.bool ((decide (s15.1 ≤ 40)) && ((decide ((x0.Tracks.length : Int) ≤ 100)) && ((decide ((x0.Ties.length : Int) ≤ 30)) || ((decide ((x0.Ties.length : Int) > 400)) && (decide ((x0.Ties.length : Int) ≤ 500)))))))]) ⟨e61, trivial⟩, (.bool ((decide (s15.1 ≤ 40)) && ((decide ((x0.Tracks.length : Int) ≤ 100)) && ((decide ((x0.Ties.length : Int) ≤ 30)) || ((decide ((x0.Ties.length : Int) > 400)) && (decide ((x0.Ties.length : Int) ≤ 500))))))), F3, rfl, hs58.clear, rfl⟩
end Go.Proofs.Ythbcnabeabcmlaa
namespace Go.Proofs.Ythbcnabeabcmlaa
set_option maxRecDepth 1000000 in
theorem awake_ok (m : Nat) : law03_awake (m + 100) = some true := by kernel_rfl
theorem awake_at {N : Nat} (h : 100 ≤ N) : law03_awake N = some true := by
  obtain ⟨m, rfl⟩ : ∃ m, N = m + 100 := ⟨N - 100, by omega⟩
  exact awake_ok m
theorem few_some {N : Nat} {s : System} (h : FitS N s) : ∃ b, law03_few N s = some b := by
  unfold law03_few
  have hn := h.n.1
  obtain ⟨o, ho, hR⟩ := iter_ex (body := law03_few_L0 N s) s.Tracks.length (fun i q => q.2 = (i : Int)) (fun o => ∀ q, o ≠ .next q) (by
    rintro i ⟨a, b⟩ hi hb
    simp only at hb
    subst hb
    unfold law03_few_L0
    simp only
    by_cases hlt : i < s.Tracks.length
    · simp only [lt_t hlt, cond_true, idx_nat hlt, Option.bind_some]
      cases decide ((s.Tracks[i].Clock.Jumps.length : Int) > 40) with
      | true => exact .inr ⟨_, rfl, (fun _ h => by cases h), fun _ h => by cases h⟩
      | false => exact .inl ⟨_, rfl, by simp only; rw [W64_succ (by omega)], hlt⟩
    · have : i = s.Tracks.length := by omega
      subst this
      simp only [lt_f, cond_false]
      exact .inr ⟨_, rfl, (fun _ h => by cases h), fun _ h => by cases h⟩) s.Tracks.length N 0 (0, 0) (by omega) rfl h.n.2
  rw [ho]
  cases o with
  | next q => exact absurd rfl (hR q)
  | done q => exact ⟨_, rfl⟩
  | ret r => exact ⟨_, rfl⟩
end Go.Proofs.Ythbcnabeabcmlaa
namespace Go.Proofs.Ythbcnabeabcmlaa
abbrev NN : Nat := 9223372036854775808
theorem fitL {α : Type} {l : List α} {Q : Prop} (h : l.length < 9223372036854775808 ∧ Q) : Fit NN l.length := ⟨h.1, h.1⟩
theorem fitT {t : Track} (q : qTrack t) : FitT NN t := ⟨fitL q.1.2.2, fitL q.2⟩
theorem fitS {s : System} (q : qSystem s) : FitS NN s := ⟨fitL q.1, fun t ht => fitT (q.1.2 t ht), fitL q.2.1⟩
end Go.Proofs.Ythbcnabeabcmlaa
namespace Go.Proofs.Ythbcnabeabcmlaa
open Go.Proofs
def law03_ClocksTriangle_L0 (N : Nat) (x0 : System) (x1 : Ref) (x2 : Ref) (x3 : Ref) (r13 : Bool) (r21 : Bool) (r32 : (Span × Int)) (r45 : (Span × Int)) (r58 : (Span × Int)) (r71 : (Span × Int)) (r84 : (Span × Int)) (r97 : (Span × Int)) : Int → Option (Flow Bool Int) := fun s245 =>
 (bif (decide (s245 < (x0.Ties.length : Int))) then (((idx x0.Ties s245).bind fun x281 => ((idx x0.Ties s245).bind fun x295 => ((clocks_Must N x0 x281.A x295.B).bind fun r301 => some (r301.1, r301.2)))).bind fun j272 => (bif ((!j272.1) || (j272.2 != 0)) then some (.ret false) else some (.next (W64 (s245 + 1))))) else some (.done s245))
def law03_ClocksTriangle (N : Nat) (x0 : System) (x1 : Ref) (x2 : Ref) (x3 : Ref) : Option Bool :=
 ((law03_awake N ).bind fun r13 => ((law03_few N x0).bind fun r21 => (bif (!r21) then some r13 else ((clocks_Relation N x0 x1 x2).bind fun r32 => ((clocks_Relation N x0 x2 x3).bind fun r45 => ((clocks_Relation N x0 x1 x3).bind fun r58 => ((clocks_Relation N x0 x2 x1).bind fun r71 => ((clocks_Interval N x0 x1).bind fun r84 => ((clocks_Interval N x0 x2).bind fun r97 => (bif ((r32.2 != 0) || ((r45.2 != 0) || (r58.2 != 0))) then some (r13 && ((r32.2 == r71.2) && ((r32.2 != 0) || ((r84.2 == 0) && (r97.2 == 0))))) else (bif ((r71.2 != 0) || ((!((r71.1.Lo == (W64 (0 - r32.1.Hi))) && ((r71.1.Hi == (W64 (0 - r32.1.Lo))) && true))) || ((decide (r58.1.Lo < (W64 (r32.1.Lo + r45.1.Lo)))) || ((decide (r58.1.Hi > (W64 (r32.1.Hi + r45.1.Hi)))) || (decide (r32.1.Lo > r32.1.Hi)))))) then some false else (bif ((decide (r32.1.Lo < (W64 (r97.1.Lo - r84.1.Hi)))) || ((decide (r32.1.Hi > (W64 (r97.1.Hi - r84.1.Lo)))) || ((decide ((W64 (r84.1.Hi + r32.1.Lo)) > r97.1.Hi)) || (decide ((W64 (r84.1.Lo + r32.1.Hi)) < r97.1.Lo))))) then some false else ((iter (law03_ClocksTriangle_L0 N x0 x1 x2 x3 r13 r21 r32 r45 r58 r71 r84 r97) N 0).bind fun o => o.k (fun r => some r) (fun s253 => some r13))))))))))))))
theorem co_law03_ClocksTriangle : CallOk Try.prog 4 := fun _ _ => by kernel_rfl
set_option maxHeartbeats 4000000 in
set_option maxRecDepth 100000 in
theorem c_law03_ClocksTriangle (N : Nat) (w0 : World) (F0 : Mem) (hF : ∀ b o, F0 b = some o → w0.heap[b]? = some o) (x0 : System) (a0_0 : Option Addr) (n0_0 : Nat) (hb0_0 : LC x0.Tracks.length n0_0) (hs0_0 : SlA tTrack F0 a0_0 x0.Tracks) (a0_1 : Option Addr) (n0_1 : Nat) (hb0_1 : LC x0.Ties.length n0_1) (hs0_1 : SlA tTie F0 a0_1 x0.Ties) (x1 : Ref) (x2 : Ref) (x3 : Ref) (r : Bool) (h : law03_ClocksTriangle N x0 x1 x2 x3 = some r) :
  Calls Try.prog 4 ([(.agg #[(.slice a0_0 x0.Tracks.length n0_0), (.slice a0_1 x0.Ties.length n0_1), (.int .i64 x0.Window)]), (.agg #[(.int .i64 x1.Log), (.int .i64 x1.Line)]), (.agg #[(.int .i64 x2.Log), (.int .i64 x2.Line)]), (.agg #[(.int .i64 x3.Log), (.int .i64 x3.Line)])] : List Value).toArray w0 (FRet w0 F0 fun F' v => v = (.bool r)) := by
 have hs0 := HS.start hF
 refine calls_of (n := 207) (c := bodyOf Try.f4) Try.func4 (by kernel_rfl) (by kernel_rfl) (by kernel_rfl) ?_
 refine Sq (Rg [0, 1, 2, 3, 4] ?_)
 refine Bx 4 0 0 25 #[(.slice a0_0 x0.Tracks.length n0_0), (.slice a0_1 x0.Ties.length n0_1), (.int .i64 x0.Window)] hs0 (fun b1 w2 (hs3 : HS w0 F0 w2 F0 [(some b1, (.cells #[(.slice a0_0 x0.Tracks.length n0_0), (.slice a0_1 x0.Ties.length n0_1), (.int .i64 x0.Window)] 25 (0, 0)))]) => ?_)
 refine Bx 5 0 1 27 #[(.int .i64 x1.Log), (.int .i64 x1.Line)] hs3 (fun b4 w5 (hs6 : HS w0 F0 w5 F0 [(some b4, (.cells #[(.int .i64 x1.Log), (.int .i64 x1.Line)] 27 (0, 0))), (some b1, (.cells #[(.slice a0_0 x0.Tracks.length n0_0), (.slice a0_1 x0.Ties.length n0_1), (.int .i64 x0.Window)] 25 (0, 0)))]) => ?_)
 refine Bx 6 0 2 27 #[(.int .i64 x2.Log), (.int .i64 x2.Line)] hs6 (fun b7 w8 (hs9 : HS w0 F0 w8 F0 [(some b7, (.cells #[(.int .i64 x2.Log), (.int .i64 x2.Line)] 27 (0, 0))), (some b4, (.cells #[(.int .i64 x1.Log), (.int .i64 x1.Line)] 27 (0, 0))), (some b1, (.cells #[(.slice a0_0 x0.Tracks.length n0_0), (.slice a0_1 x0.Ties.length n0_1), (.int .i64 x0.Window)] 25 (0, 0)))]) => ?_)
 refine Bx 7 0 3 27 #[(.int .i64 x3.Log), (.int .i64 x3.Line)] hs9 (fun b10 w11 (hs12 : HS w0 F0 w11 F0 [(some b10, (.cells #[(.int .i64 x3.Log), (.int .i64 x3.Line)] 27 (0, 0))), (some b7, (.cells #[(.int .i64 x2.Log), (.int .i64 x2.Line)] 27 (0, 0))), (some b4, (.cells #[(.int .i64 x1.Log), (.int .i64 x1.Line)] 27 (0, 0))), (some b1, (.cells #[(.slice a0_0 x0.Tracks.length n0_0), (.slice a0_1 x0.Ties.length n0_1), (.int .i64 x0.Window)] 25 (0, 0)))]) => ?_)
 refine V 8 4 (mc (.bool false) (.bool false)) ?_
 refine Nss (Rg [0, 1] ?_)
 obtain ⟨r13, hr14, h15⟩ := bind_some h
 refine Cl 25 4 15 #[] #[] co_law03_awake hs12 (c_law03_awake N w11 F0 hs12.pers  _ hr14) ?_
 intro v16 F1 w17 hs18 le19 hp20
 obtain rfl := hp20
 refine V 9 4 (ma 25 (.bool r13)) ?_
 refine Nss ?_
 refine Sq (Rg [0, 1, 2] ?_)
 refine V 26 25 (ld 25 4 b1 0 true 3 (.agg #[(.slice a0_0 x0.Tracks.length n0_0), (.slice a0_1 x0.Ties.length n0_1), (.int .i64 x0.Window)]) (hs18.ownAt (k := 3) rfl)) ?_
 obtain ⟨r21, hr22, h23⟩ := bind_some h15
 refine Cl 27 4 16 #[(.tmp 26)] #[25] co_law03_few hs18 (c_law03_few N w17 F1 hs18.pers (x0) a0_0 n0_0 hb0_0 (SlA.mono hs0_0 le19) a0_1 n0_1 hb0_1 (SlA.mono hs0_1 le19) _ hr22) ?_
 intro v24 F2 w25 hs26 le27 hp28
 obtain rfl := hp28
 refine V 28 4 (run_not (t := 4) (x := (.tmp 27)) (a := r21) rfl) ?_
 refine Nt ?_
 refine CWP.cond (t := (!r21)) (by kernel_rfl) rfl (fun hb29 => ?_) (fun hb29 => ?_)
 ·have h30 := cond_t h23 hb29
  refine Sq (Rg [0, 1] ?_)
  refine V 29 4 (mv 9 (.bool r13)) ?_
  refine V 8 4 (ma 29 (.bool r13)) ?_
  refine Nt ?_
  refine CWP.ret (by kernel_rfl) ?_
  refine thenQ_ret ?_
  have hfin := some_inj h30
  subst hfin
  exact ⟨rfl, (.bool r13), res_of (l := [.tmp 8]) (by kernel_rfl) (vs := [(.bool r13)]) ⟨rfl, trivial⟩, (.bool r13), F2, rfl, hs26.clear, rfl⟩
 ·have h31 := cond_f h23 hb29
  refine Sc ?_
  refine thenQ_nrm ?_
  refine Sq (Rg [0, 1, 2, 3, 4, 5, 6, 7, 8, 9] ?_)
  refine V 31 25 (ld 25 4 b1 0 true 3 (.agg #[(.slice a0_0 x0.Tracks.length n0_0), (.slice a0_1 x0.Ties.length n0_1), (.int .i64 x0.Window)]) (hs26.ownAt (k := 3) rfl)) ?_
  refine V 32 27 (ld 27 5 b4 0 true 2 (.agg #[(.int .i64 x1.Log), (.int .i64 x1.Line)]) (hs26.ownAt (k := 2) rfl)) ?_
  refine V 33 27 (ld 27 6 b7 0 true 2 (.agg #[(.int .i64 x2.Log), (.int .i64 x2.Line)]) (hs26.ownAt (k := 1) rfl)) ?_
  obtain ⟨r32, hr33, h34⟩ := bind_some h31
  refine Cl 34 39 20 #[(.tmp 31), (.tmp 32), (.tmp 33)] #[25, 27, 27] co_clocks_Relation hs26 (c_clocks_Relation N w25 F2 hs26.pers (x0) a0_0 n0_0 hb0_0 (SlA.mono hs0_0 (le19.trans le27)) a0_1 n0_1 hb0_1 (SlA.mono hs0_1 (le19.trans le27)) (x1) (x2) _ hr33) ?_
  intro v35 F3 w36 hs37 le38 hp39
  obtain rfl := hp39
  refine V 30 39 (mv 34 (.tuple #[(.agg #[(.int .i64 r32.1.Lo), (.int .i64 r32.1.Hi)]), (.int .i64 r32.2)])) ?_
  refine V 35 38 (ex 30 0 (.agg #[(.int .i64 r32.1.Lo), (.int .i64 r32.1.Hi)]) (vs := #[(.agg #[(.int .i64 r32.1.Lo), (.int .i64 r32.1.Hi)]), (.int .i64 r32.2)])) ?_
  refine V 36 30 (ex 30 1 (.int .i64 r32.2) (vs := #[(.agg #[(.int .i64 r32.1.Lo), (.int .i64 r32.1.Hi)]), (.int .i64 r32.2)])) ?_
  refine Al 10 0 38 #[(.int .i64 0), (.int .i64 0)] hs37 (fun b40 w41 (hs42 : HS w0 F0 w41 F3 [(some b40, (.cells #[(.int .i64 0), (.int .i64 0)] 38 (0, 0))), (some b10, (.cells #[(.int .i64 x3.Log), (.int .i64 x3.Line)] 27 (0, 0))), (some b7, (.cells #[(.int .i64 x2.Log), (.int .i64 x2.Line)] 27 (0, 0))), (some b4, (.cells #[(.int .i64 x1.Log), (.int .i64 x1.Line)] 27 (0, 0))), (some b1, (.cells #[(.slice a0_0 x0.Tracks.length n0_0), (.slice a0_1 x0.Ties.length n0_1), (.int .i64 x0.Window)] 25 (0, 0)))]) => ?_)
  refine RWP.store (ty := 0) (g := none) (by kernel_rfl) rfl (x := (.tmp 10)) (y := (.tmp 35)) (t := 38) (gg := true) (s := 2) (v := (.agg #[(.int .i64 r32.1.Lo), (.int .i64 r32.1.Hi)])) (b := b40) (o := 0) (C := #[(.int .i64 0), (.int .i64 0)]) rfl rfl (by kernel_rfl) hs42 (k := 0) rfl rfl rfl rfl (C' := #[(.int .i64 r32.1.Lo), (.int .i64 r32.1.Hi)]) rfl (fun w43 (hs44 : HS w0 F0 w43 F3 [(some b40, (.cells #[(.int .i64 r32.1.Lo), (.int .i64 r32.1.Hi)] 38 (0, 0))), (some b10, (.cells #[(.int .i64 x3.Log), (.int .i64 x3.Line)] 27 (0, 0))), (some b7, (.cells #[(.int .i64 x2.Log), (.int .i64 x2.Line)] 27 (0, 0))), (some b4, (.cells #[(.int .i64 x1.Log), (.int .i64 x1.Line)] 27 (0, 0))), (some b1, (.cells #[(.slice a0_0 x0.Tracks.length n0_0), (.slice a0_1 x0.Ties.length n0_1), (.int .i64 x0.Window)] 25 (0, 0)))]) => ?_)
  refine V 11 30 (ma 36 (.int .i64 r32.2)) ?_
  refine Nss (Rg [0, 1, 2, 3, 4, 5, 6, 7, 8, 9] ?_)
  refine V 38 25 (ld 25 4 b1 0 true 3 (.agg #[(.slice a0_0 x0.Tracks.length n0_0), (.slice a0_1 x0.Ties.length n0_1), (.int .i64 x0.Window)]) (hs44.ownAt (k := 4) rfl)) ?_
  refine V 39 27 (ld 27 6 b7 0 true 2 (.agg #[(.int .i64 x2.Log), (.int .i64 x2.Line)]) (hs44.ownAt (k := 2) rfl)) ?_
  refine V 40 27 (ld 27 7 b10 0 true 2 (.agg #[(.int .i64 x3.Log), (.int .i64 x3.Line)]) (hs44.ownAt (k := 1) rfl)) ?_
  obtain ⟨r45, hr46, h47⟩ := bind_some h34
  refine Cl 41 39 20 #[(.tmp 38), (.tmp 39), (.tmp 40)] #[25, 27, 27] co_clocks_Relation hs44 (c_clocks_Relation N w43 F3 hs44.pers (x0) a0_0 n0_0 hb0_0 (SlA.mono hs0_0 ((le19.trans le27).trans le38)) a0_1 n0_1 hb0_1 (SlA.mono hs0_1 ((le19.trans le27).trans le38)) (x2) (x3) _ hr46) ?_
  intro v48 F4 w49 hs50 le51 hp52
  obtain rfl := hp52
  refine V 37 39 (mv 41 (.tuple #[(.agg #[(.int .i64 r45.1.Lo), (.int .i64 r45.1.Hi)]), (.int .i64 r45.2)])) ?_
  refine V 42 38 (ex 37 0 (.agg #[(.int .i64 r45.1.Lo), (.int .i64 r45.1.Hi)]) (vs := #[(.agg #[(.int .i64 r45.1.Lo), (.int .i64 r45.1.Hi)]), (.int .i64 r45.2)])) ?_
  refine V 43 30 (ex 37 1 (.int .i64 r45.2) (vs := #[(.agg #[(.int .i64 r45.1.Lo), (.int .i64 r45.1.Hi)]), (.int .i64 r45.2)])) ?_
  refine Al 12 0 38 #[(.int .i64 0), (.int .i64 0)] hs50 (fun b53 w54 (hs55 : HS w0 F0 w54 F4 [(some b53, (.cells #[(.int .i64 0), (.int .i64 0)] 38 (0, 0))), (some b40, (.cells #[(.int .i64 r32.1.Lo), (.int .i64 r32.1.Hi)] 38 (0, 0))), (some b10, (.cells #[(.int .i64 x3.Log), (.int .i64 x3.Line)] 27 (0, 0))), (some b7, (.cells #[(.int .i64 x2.Log), (.int .i64 x2.Line)] 27 (0, 0))), (some b4, (.cells #[(.int .i64 x1.Log), (.int .i64 x1.Line)] 27 (0, 0))), (some b1, (.cells #[(.slice a0_0 x0.Tracks.length n0_0), (.slice a0_1 x0.Ties.length n0_1), (.int .i64 x0.Window)] 25 (0, 0)))]) => ?_)
  refine RWP.store (ty := 0) (g := none) (by kernel_rfl) rfl (x := (.tmp 12)) (y := (.tmp 42)) (t := 38) (gg := true) (s := 2) (v := (.agg #[(.int .i64 r45.1.Lo), (.int .i64 r45.1.Hi)])) (b := b53) (o := 0) (C := #[(.int .i64 0), (.int .i64 0)]) rfl rfl (by kernel_rfl) hs55 (k := 0) rfl rfl rfl rfl (C' := #[(.int .i64 r45.1.Lo), (.int .i64 r45.1.Hi)]) rfl (fun w56 (hs57 : HS w0 F0 w56 F4 [(some b53, (.cells #[(.int .i64 r45.1.Lo), (.int .i64 r45.1.Hi)] 38 (0, 0))), (some b40, (.cells #[(.int .i64 r32.1.Lo), (.int .i64 r32.1.Hi)] 38 (0, 0))), (some b10, (.cells #[(.int .i64 x3.Log), (.int .i64 x3.Line)] 27 (0, 0))), (some b7, (.cells #[(.int .i64 x2.Log), (.int .i64 x2.Line)] 27 (0, 0))), (some b4, (.cells #[(.int .i64 x1.Log), (.int .i64 x1.Line)] 27 (0, 0))), (some b1, (.cells #[(.slice a0_0 x0.Tracks.length n0_0), (.slice a0_1 x0.Ties.length n0_1), (.int .i64 x0.Window)] 25 (0, 0)))]) => ?_)
  refine V 13 30 (ma 43 (.int .i64 r45.2)) ?_
  refine Nss (Rg [0, 1, 2, 3, 4, 5, 6, 7, 8, 9] ?_)
  refine V 45 25 (ld 25 4 b1 0 true 3 (.agg #[(.slice a0_0 x0.Tracks.length n0_0), (.slice a0_1 x0.Ties.length n0_1), (.int .i64 x0.Window)]) (hs57.ownAt (k := 5) rfl)) ?_
  refine V 46 27 (ld 27 5 b4 0 true 2 (.agg #[(.int .i64 x1.Log), (.int .i64 x1.Line)]) (hs57.ownAt (k := 4) rfl)) ?_
  refine V 47 27 (ld 27 7 b10 0 true 2 (.agg #[(.int .i64 x3.Log), (.int .i64 x3.Line)]) (hs57.ownAt (k := 2) rfl)) ?_
  obtain ⟨r58, hr59, h60⟩ := bind_some h47
  refine Cl 48 39 20 #[(.tmp 45), (.tmp 46), (.tmp 47)] #[25, 27, 27] co_clocks_Relation hs57 (c_clocks_Relation N w56 F4 hs57.pers (x0) a0_0 n0_0 hb0_0 (SlA.mono hs0_0 (((le19.trans le27).trans le38).trans le51)) a0_1 n0_1 hb0_1 (SlA.mono hs0_1 (((le19.trans le27).trans le38).trans le51)) (x1) (x3) _ hr59) ?_
  intro v61 F5 w62 hs63 le64 hp65
  obtain rfl := hp65
  refine V 44 39 (mv 48 (.tuple #[(.agg #[(.int .i64 r58.1.Lo), (.int .i64 r58.1.Hi)]), (.int .i64 r58.2)])) ?_
  refine V 49 38 (ex 44 0 (.agg #[(.int .i64 r58.1.Lo), (.int .i64 r58.1.Hi)]) (vs := #[(.agg #[(.int .i64 r58.1.Lo), (.int .i64 r58.1.Hi)]), (.int .i64 r58.2)])) ?_
  refine V 50 30 (ex 44 1 (.int .i64 r58.2) (vs := #[(.agg #[(.int .i64 r58.1.Lo), (.int .i64 r58.1.Hi)]), (.int .i64 r58.2)])) ?_
  refine Al 14 0 38 #[(.int .i64 0), (.int .i64 0)] hs63 (fun b66 w67 (hs68 : HS w0 F0 w67 F5 [(some b66, (.cells #[(.int .i64 0), (.int .i64 0)] 38 (0, 0))), (some b53, (.cells #[(.int .i64 r45.1.Lo), (.int .i64 r45.1.Hi)] 38 (0, 0))), (some b40, (.cells #[(.int .i64 r32.1.Lo), (.int .i64 r32.1.Hi)] 38 (0, 0))), (some b10, (.cells #[(.int .i64 x3.Log), (.int .i64 x3.Line)] 27 (0, 0))), (some b7, (.cells #[(.int .i64 x2.Log), (.int .i64 x2.Line)] 27 (0, 0))), (some b4, (.cells #[(.int .i64 x1.Log), (.int .i64 x1.Line)] 27 (0, 0))), (some b1, (.cells #[(.slice a0_0 x0.Tracks.length n0_0), (.slice a0_1 x0.Ties.length n0_1), (.int .i64 x0.Window)] 25 (0, 0)))]) => ?_)
  refine RWP.store (ty := 0) (g := none) (by kernel_rfl) rfl (x := (.tmp 14)) (y := (.tmp 49)) (t := 38) (gg := true) (s := 2) (v := (.agg #[(.int .i64 r58.1.Lo), (.int .i64 r58.1.Hi)])) (b := b66) (o := 0) (C := #[(.int .i64 0), (.int .i64 0)]) rfl rfl (by kernel_rfl) hs68 (k := 0) rfl rfl rfl rfl (C' := #[(.int .i64 r58.1.Lo), (.int .i64 r58.1.Hi)]) rfl (fun w69 (hs70 : HS w0 F0 w69 F5 [(some b66, (.cells #[(.int .i64 r58.1.Lo), (.int .i64 r58.1.Hi)] 38 (0, 0))), (some b53, (.cells #[(.int .i64 r45.1.Lo), (.int .i64 r45.1.Hi)] 38 (0, 0))), (some b40, (.cells #[(.int .i64 r32.1.Lo), (.int .i64 r32.1.Hi)] 38 (0, 0))), (some b10, (.cells #[(.int .i64 x3.Log), (.int .i64 x3.Line)] 27 (0, 0))), (some b7, (.cells #[(.int .i64 x2.Log), (.int .i64 x2.Line)] 27 (0, 0))), (some b4, (.cells #[(.int .i64 x1.Log), (.int .i64 x1.Line)] 27 (0, 0))), (some b1, (.cells #[(.slice a0_0 x0.Tracks.length n0_0), (.slice a0_1 x0.Ties.length n0_1), (.int .i64 x0.Window)] 25 (0, 0)))]) => ?_)
  refine V 15 30 (ma 50 (.int .i64 r58.2)) ?_
  refine Nss (Rg [0, 1, 2, 3, 4, 5, 6, 7, 8, 9] ?_)
  refine V 52 25 (ld 25 4 b1 0 true 3 (.agg #[(.slice a0_0 x0.Tracks.length n0_0), (.slice a0_1 x0.Ties.length n0_1), (.int .i64 x0.Window)]) (hs70.ownAt (k := 6) rfl)) ?_
  refine V 53 27 (ld 27 6 b7 0 true 2 (.agg #[(.int .i64 x2.Log), (.int .i64 x2.Line)]) (hs70.ownAt (k := 4) rfl)) ?_
  refine V 54 27 (ld 27 5 b4 0 true 2 (.agg #[(.int .i64 x1.Log), (.int .i64 x1.Line)]) (hs70.ownAt (k := 5) rfl)) ?_
  obtain ⟨r71, hr72, h73⟩ := bind_some h60
  refine Cl 55 39 20 #[(.tmp 52), (.tmp 53), (.tmp 54)] #[25, 27, 27] co_clocks_Relation hs70 (c_clocks_Relation N w69 F5 hs70.pers (x0) a0_0 n0_0 hb0_0 (SlA.mono hs0_0 ((((le19.trans le27).trans le38).trans le51).trans le64)) a0_1 n0_1 hb0_1 (SlA.mono hs0_1 ((((le19.trans le27).trans le38).trans le51).trans le64)) (x2) (x1) _ hr72) ?_
  intro v74 F6 w75 hs76 le77 hp78
  obtain rfl := hp78
  refine V 51 39 (mv 55 (.tuple #[(.agg #[(.int .i64 r71.1.Lo), (.int .i64 r71.1.Hi)]), (.int .i64 r71.2)])) ?_
  refine V 56 38 (ex 51 0 (.agg #[(.int .i64 r71.1.Lo), (.int .i64 r71.1.Hi)]) (vs := #[(.agg #[(.int .i64 r71.1.Lo), (.int .i64 r71.1.Hi)]), (.int .i64 r71.2)])) ?_
  refine V 57 30 (ex 51 1 (.int .i64 r71.2) (vs := #[(.agg #[(.int .i64 r71.1.Lo), (.int .i64 r71.1.Hi)]), (.int .i64 r71.2)])) ?_
  refine Al 16 0 38 #[(.int .i64 0), (.int .i64 0)] hs76 (fun b79 w80 (hs81 : HS w0 F0 w80 F6 [(some b79, (.cells #[(.int .i64 0), (.int .i64 0)] 38 (0, 0))), (some b66, (.cells #[(.int .i64 r58.1.Lo), (.int .i64 r58.1.Hi)] 38 (0, 0))), (some b53, (.cells #[(.int .i64 r45.1.Lo), (.int .i64 r45.1.Hi)] 38 (0, 0))), (some b40, (.cells #[(.int .i64 r32.1.Lo), (.int .i64 r32.1.Hi)] 38 (0, 0))), (some b10, (.cells #[(.int .i64 x3.Log), (.int .i64 x3.Line)] 27 (0, 0))), (some b7, (.cells #[(.int .i64 x2.Log), (.int .i64 x2.Line)] 27 (0, 0))), (some b4, (.cells #[(.int .i64 x1.Log), (.int .i64 x1.Line)] 27 (0, 0))), (some b1, (.cells #[(.slice a0_0 x0.Tracks.length n0_0), (.slice a0_1 x0.Ties.length n0_1), (.int .i64 x0.Window)] 25 (0, 0)))]) => ?_)
  refine RWP.store (ty := 0) (g := none) (by kernel_rfl) rfl (x := (.tmp 16)) (y := (.tmp 56)) (t := 38) (gg := true) (s := 2) (v := (.agg #[(.int .i64 r71.1.Lo), (.int .i64 r71.1.Hi)])) (b := b79) (o := 0) (C := #[(.int .i64 0), (.int .i64 0)]) rfl rfl (by kernel_rfl) hs81 (k := 0) rfl rfl rfl rfl (C' := #[(.int .i64 r71.1.Lo), (.int .i64 r71.1.Hi)]) rfl (fun w82 (hs83 : HS w0 F0 w82 F6 [(some b79, (.cells #[(.int .i64 r71.1.Lo), (.int .i64 r71.1.Hi)] 38 (0, 0))), (some b66, (.cells #[(.int .i64 r58.1.Lo), (.int .i64 r58.1.Hi)] 38 (0, 0))), (some b53, (.cells #[(.int .i64 r45.1.Lo), (.int .i64 r45.1.Hi)] 38 (0, 0))), (some b40, (.cells #[(.int .i64 r32.1.Lo), (.int .i64 r32.1.Hi)] 38 (0, 0))), (some b10, (.cells #[(.int .i64 x3.Log), (.int .i64 x3.Line)] 27 (0, 0))), (some b7, (.cells #[(.int .i64 x2.Log), (.int .i64 x2.Line)] 27 (0, 0))), (some b4, (.cells #[(.int .i64 x1.Log), (.int .i64 x1.Line)] 27 (0, 0))), (some b1, (.cells #[(.slice a0_0 x0.Tracks.length n0_0), (.slice a0_1 x0.Ties.length n0_1), (.int .i64 x0.Window)] 25 (0, 0)))]) => ?_)
  refine V 17 30 (ma 57 (.int .i64 r71.2)) ?_
  refine Nss (Rg [0, 1, 2, 3, 4, 5, 6, 7, 8] ?_)
  refine V 59 25 (ld 25 4 b1 0 true 3 (.agg #[(.slice a0_0 x0.Tracks.length n0_0), (.slice a0_1 x0.Ties.length n0_1), (.int .i64 x0.Window)]) (hs83.ownAt (k := 7) rfl)) ?_
  refine V 60 27 (ld 27 5 b4 0 true 2 (.agg #[(.int .i64 x1.Log), (.int .i64 x1.Line)]) (hs83.ownAt (k := 6) rfl)) ?_
  obtain ⟨r84, hr85, h86⟩ := bind_some h73
  refine Cl 61 39 21 #[(.tmp 59), (.tmp 60)] #[25, 27] co_clocks_Interval hs83 (c_clocks_Interval N w82 F6 hs83.pers (x0) a0_0 n0_0 hb0_0 (SlA.mono hs0_0 (((((le19.trans le27).trans le38).trans le51).trans le64).trans le77)) a0_1 n0_1 hb0_1 (SlA.mono hs0_1 (((((le19.trans le27).trans le38).trans le51).trans le64).trans le77)) (x1) _ hr85) ?_
  intro v87 F7 w88 hs89 le90 hp91
  obtain rfl := hp91
  refine V 58 39 (mv 61 (.tuple #[(.agg #[(.int .i64 r84.1.Lo), (.int .i64 r84.1.Hi)]), (.int .i64 r84.2)])) ?_
  refine V 62 38 (ex 58 0 (.agg #[(.int .i64 r84.1.Lo), (.int .i64 r84.1.Hi)]) (vs := #[(.agg #[(.int .i64 r84.1.Lo), (.int .i64 r84.1.Hi)]), (.int .i64 r84.2)])) ?_
  refine V 63 30 (ex 58 1 (.int .i64 r84.2) (vs := #[(.agg #[(.int .i64 r84.1.Lo), (.int .i64 r84.1.Hi)]), (.int .i64 r84.2)])) ?_
  refine Al 18 0 38 #[(.int .i64 0), (.int .i64 0)] hs89 (fun b92 w93 (hs94 : HS w0 F0 w93 F7 [(some b92, (.cells #[(.int .i64 0), (.int .i64 0)] 38 (0, 0))), (some b79, (.cells #[(.int .i64 r71.1.Lo), (.int .i64 r71.1.Hi)] 38 (0, 0))), (some b66, (.cells #[(.int .i64 r58.1.Lo), (.int .i64 r58.1.Hi)] 38 (0, 0))), (some b53, (.cells #[(.int .i64 r45.1.Lo), (.int .i64 r45.1.Hi)] 38 (0, 0))), (some b40, (.cells #[(.int .i64 r32.1.Lo), (.int .i64 r32.1.Hi)] 38 (0, 0))), (some b10, (.cells #[(.int .i64 x3.Log), (.int .i64 x3.Line)] 27 (0, 0))), (some b7, (.cells #[(.int .i64 x2.Log), (.int .i64 x2.Line)] 27 (0, 0))), (some b4, (.cells #[(.int .i64 x1.Log), (.int .i64 x1.Line)] 27 (0, 0))), (some b1, (.cells #[(.slice a0_0 x0.Tracks.length n0_0), (.slice a0_1 x0.Ties.length n0_1), (.int .i64 x0.Window)] 25 (0, 0)))]) => ?_)
  refine RWP.store (ty := 0) (g := none) (by kernel_rfl) rfl (x := (.tmp 18)) (y := (.tmp 62)) (t := 38) (gg := true) (s := 2) (v := (.agg #[(.int .i64 r84.1.Lo), (.int .i64 r84.1.Hi)])) (b := b92) (o := 0) (C := #[(.int .i64 0), (.int .i64 0)]) rfl rfl (by kernel_rfl) hs94 (k := 0) rfl rfl rfl rfl (C' := #[(.int .i64 r84.1.Lo), (.int .i64 r84.1.Hi)]) rfl (fun w95 (hs96 : HS w0 F0 w95 F7 [(some b92, (.cells #[(.int .i64 r84.1.Lo), (.int .i64 r84.1.Hi)] 38 (0, 0))), (some b79, (.cells #[(.int .i64 r71.1.Lo), (.int .i64 r71.1.Hi)] 38 (0, 0))), (some b66, (.cells #[(.int .i64 r58.1.Lo), (.int .i64 r58.1.Hi)] 38 (0, 0))), (some b53, (.cells #[(.int .i64 r45.1.Lo), (.int .i64 r45.1.Hi)] 38 (0, 0))), (some b40, (.cells #[(.int .i64 r32.1.Lo), (.int .i64 r32.1.Hi)] 38 (0, 0))), (some b10, (.cells #[(.int .i64 x3.Log), (.int .i64 x3.Line)] 27 (0, 0))), (some b7, (.cells #[(.int .i64 x2.Log), (.int .i64 x2.Line)] 27 (0, 0))), (some b4, (.cells #[(.int .i64 x1.Log), (.int .i64 x1.Line)] 27 (0, 0))), (some b1, (.cells #[(.slice a0_0 x0.Tracks.length n0_0), (.slice a0_1 x0.Ties.length n0_1), (.int .i64 x0.Window)] 25 (0, 0)))]) => ?_)
  refine V 19 30 (ma 63 (.int .i64 r84.2)) ?_
  refine Nss (Rg [0, 1, 2, 3, 4, 5, 6, 7, 8] ?_)
  refine V 65 25 (ld 25 4 b1 0 true 3 (.agg #[(.slice a0_0 x0.Tracks.length n0_0), (.slice a0_1 x0.Ties.length n0_1), (.int .i64 x0.Window)]) (hs96.ownAt (k := 8) rfl)) ?_
  refine V 66 27 (ld 27 6 b7 0 true 2 (.agg #[(.int .i64 x2.Log), (.int .i64 x2.Line)]) (hs96.ownAt (k := 6) rfl)) ?_
  obtain ⟨r97, hr98, h99⟩ := bind_some h86
  refine Cl 67 39 21 #[(.tmp 65), (.tmp 66)] #[25, 27] co_clocks_Interval hs96 (c_clocks_Interval N w95 F7 hs96.pers (x0) a0_0 n0_0 hb0_0 (SlA.mono hs0_0 ((((((le19.trans le27).trans le38).trans le51).trans le64).trans le77).trans le90)) a0_1 n0_1 hb0_1 (SlA.mono hs0_1 ((((((le19.trans le27).trans le38).trans le51).trans le64).trans le77).trans le90)) (x2) _ hr98) ?_
  intro v100 F8 w101 hs102 le103 hp104
  obtain rfl := hp104
  refine V 64 39 (mv 67 (.tuple #[(.agg #[(.int .i64 r97.1.Lo), (.int .i64 r97.1.Hi)]), (.int .i64 r97.2)])) ?_
  refine V 68 38 (ex 64 0 (.agg #[(.int .i64 r97.1.Lo), (.int .i64 r97.1.Hi)]) (vs := #[(.agg #[(.int .i64 r97.1.Lo), (.int .i64 r97.1.Hi)]), (.int .i64 r97.2)])) ?_
  refine V 69 30 (ex 64 1 (.int .i64 r97.2) (vs := #[(.agg #[(.int .i64 r97.1.Lo), (.int .i64 r97.1.Hi)]), (.int .i64 r97.2)])) ?_
  refine Al 20 0 38 #[(.int .i64 0), (.int .i64 0)] hs102 (fun b105 w106 (hs107 : HS w0 F0 w106 F8 [(some b105, (.cells #[(.int .i64 0), (.int .i64 0)] 38 (0, 0))), (some b92, (.cells #[(.int .i64 r84.1.Lo), (.int .i64 r84.1.Hi)] 38 (0, 0))), (some b79, (.cells #[(.int .i64 r71.1.Lo), (.int .i64 r71.1.Hi)] 38 (0, 0))), (some b66, (.cells #[(.int .i64 r58.1.Lo), (.int .i64 r58.1.Hi)] 38 (0, 0))), (some b53, (.cells #[(.int .i64 r45.1.Lo), (.int .i64 r45.1.Hi)] 38 (0, 0))), (some b40, (.cells #[(.int .i64 r32.1.Lo), (.int .i64 r32.1.Hi)] 38 (0, 0))), (some b10, (.cells #[(.int .i64 x3.Log), (.int .i64 x3.Line)] 27 (0, 0))), (some b7, (.cells #[(.int .i64 x2.Log), (.int .i64 x2.Line)] 27 (0, 0))), (some b4, (.cells #[(.int .i64 x1.Log), (.int .i64 x1.Line)] 27 (0, 0))), (some b1, (.cells #[(.slice a0_0 x0.Tracks.length n0_0), (.slice a0_1 x0.Ties.length n0_1), (.int .i64 x0.Window)] 25 (0, 0)))]) => ?_)
  refine RWP.store (ty := 0) (g := none) (by kernel_rfl) rfl (x := (.tmp 20)) (y := (.tmp 68)) (t := 38) (gg := true) (s := 2) (v := (.agg #[(.int .i64 r97.1.Lo), (.int .i64 r97.1.Hi)])) (b := b105) (o := 0) (C := #[(.int .i64 0), (.int .i64 0)]) rfl rfl (by kernel_rfl) hs107 (k := 0) rfl rfl rfl rfl (C' := #[(.int .i64 r97.1.Lo), (.int .i64 r97.1.Hi)]) rfl (fun w108 (hs109 : HS w0 F0 w108 F8 [(some b105, (.cells #[(.int .i64 r97.1.Lo), (.int .i64 r97.1.Hi)] 38 (0, 0))), (some b92, (.cells #[(.int .i64 r84.1.Lo), (.int .i64 r84.1.Hi)] 38 (0, 0))), (some b79, (.cells #[(.int .i64 r71.1.Lo), (.int .i64 r71.1.Hi)] 38 (0, 0))), (some b66, (.cells #[(.int .i64 r58.1.Lo), (.int .i64 r58.1.Hi)] 38 (0, 0))), (some b53, (.cells #[(.int .i64 r45.1.Lo), (.int .i64 r45.1.Hi)] 38 (0, 0))), (some b40, (.cells #[(.int .i64 r32.1.Lo), (.int .i64 r32.1.Hi)] 38 (0, 0))), (some b10, (.cells #[(.int .i64 x3.Log), (.int .i64 x3.Line)] 27 (0, 0))), (some b7, (.cells #[(.int .i64 x2.Log), (.int .i64 x2.Line)] 27 (0, 0))), (some b4, (.cells #[(.int .i64 x1.Log), (.int .i64 x1.Line)] 27 (0, 0))), (some b1, (.cells #[(.slice a0_0 x0.Tracks.length n0_0), (.slice a0_1 x0.Ties.length n0_1), (.int .i64 x0.Window)] 25 (0, 0)))]) => ?_)
  refine V 21 30 (ma 69 (.int .i64 r97.2)) ?_
  refine Nss ?_
  refine Sq (Rg [0, 1, 2, 3, 4, 5, 6, 7, 8, 9] ?_)
  refine RWP.cut (fun f w => ∃ (F9 : Mem), HS w0 F0 w F9 [(some b105, (.cells #[(.int .i64 r97.1.Lo), (.int .i64 r97.1.Hi)] 38 (0, 0))), (some b92, (.cells #[(.int .i64 r84.1.Lo), (.int .i64 r84.1.Hi)] 38 (0, 0))), (some b79, (.cells #[(.int .i64 r71.1.Lo), (.int .i64 r71.1.Hi)] 38 (0, 0))), (some b66, (.cells #[(.int .i64 r58.1.Lo), (.int .i64 r58.1.Hi)] 38 (0, 0))), (some b53, (.cells #[(.int .i64 r45.1.Lo), (.int .i64 r45.1.Hi)] 38 (0, 0))), (some b40, (.cells #[(.int .i64 r32.1.Lo), (.int .i64 r32.1.Hi)] 38 (0, 0))), (some b1, (.cells #[(.slice a0_0 x0.Tracks.length n0_0), (.slice a0_1 x0.Ties.length n0_1), (.int .i64 x0.Window)] 25 (0, 0)))] ∧ Mem.le F8 F9 ∧ f.d = [] ∧ f 4 = (.pointer (some ⟨b1, 0, none⟩)) ∧ f 9 = (.bool r13) ∧ f 10 = (.pointer (some ⟨b40, 0, none⟩)) ∧ f 11 = (.int .i64 r32.2) ∧ f 12 = (.pointer (some ⟨b53, 0, none⟩)) ∧ f 14 = (.pointer (some ⟨b66, 0, none⟩)) ∧ f 16 = (.pointer (some ⟨b79, 0, none⟩)) ∧ f 17 = (.int .i64 r71.2) ∧ f 18 = (.pointer (some ⟨b92, 0, none⟩)) ∧ f 19 = (.int .i64 r84.2) ∧ f 20 = (.pointer (some ⟨b105, 0, none⟩)) ∧ f 21 = (.int .i64 r97.2) ∧ f 79 = (.bool ((r32.2 != 0) || ((r45.2 != 0) || (r58.2 != 0))))) ?_ ?_
  ·refine V 70 30 (mv 11 (.int .i64 r32.2)) ?_
   refine V 71 4 (run_neq (t := 30) (t' := 30) (x := (.tmp 70)) (y := (.const (.int .i64 0))) (k := .i64) (a := r32.2) (b := 0) rfl rfl) ?_
   refine V 72 4 (mv 71 (.bool (r32.2 != 0))) ?_
   refine RWP.split (r32.2 != 0) (fun hb127 => ?_) (fun hb127 => ?_)
   ·refine Sk [73, 74] 2 false 72 hb127 ?_
    refine V 75 4 (p1 72 (.const (.bool true)) (.tmp 74) (.bool true) hb127) ?_
    refine V 76 4 (mv 75 (.bool true)) ?_
    refine Sk [77, 78] 6 false 76 rfl ?_
    refine V 79 4 (p1 76 (.const (.bool true)) (.tmp 78) (.bool true) rfl) ?_
    have hs128 : HS w0 F0 w108 F8 [(some b105, (.cells #[(.int .i64 r97.1.Lo), (.int .i64 r97.1.Hi)] 38 (0, 0))), (some b92, (.cells #[(.int .i64 r84.1.Lo), (.int .i64 r84.1.Hi)] 38 (0, 0))), (some b79, (.cells #[(.int .i64 r71.1.Lo), (.int .i64 r71.1.Hi)] 38 (0, 0))), (some b66, (.cells #[(.int .i64 r58.1.Lo), (.int .i64 r58.1.Hi)] 38 (0, 0))), (some b53, (.cells #[(.int .i64 r45.1.Lo), (.int .i64 r45.1.Hi)] 38 (0, 0))), (some b40, (.cells #[(.int .i64 r32.1.Lo), (.int .i64 r32.1.Hi)] 38 (0, 0))), (some b7, (.cells #[(.int .i64 x2.Log), (.int .i64 x2.Line)] 27 (0, 0))), (some b4, (.cells #[(.int .i64 x1.Log), (.int .i64 x1.Line)] 27 (0, 0))), (some b1, (.cells #[(.slice a0_0 x0.Tracks.length n0_0), (.slice a0_1 x0.Ties.length n0_1), (.int .i64 x0.Window)] 25 (0, 0)))] := hs109.drop 6
    have hs129 : HS w0 F0 w108 F8 [(some b105, (.cells #[(.int .i64 r97.1.Lo), (.int .i64 r97.1.Hi)] 38 (0, 0))), (some b92, (.cells #[(.int .i64 r84.1.Lo), (.int .i64 r84.1.Hi)] 38 (0, 0))), (some b79, (.cells #[(.int .i64 r71.1.Lo), (.int .i64 r71.1.Hi)] 38 (0, 0))), (some b66, (.cells #[(.int .i64 r58.1.Lo), (.int .i64 r58.1.Hi)] 38 (0, 0))), (some b53, (.cells #[(.int .i64 r45.1.Lo), (.int .i64 r45.1.Hi)] 38 (0, 0))), (some b40, (.cells #[(.int .i64 r32.1.Lo), (.int .i64 r32.1.Hi)] 38 (0, 0))), (some b4, (.cells #[(.int .i64 x1.Log), (.int .i64 x1.Line)] 27 (0, 0))), (some b1, (.cells #[(.slice a0_0 x0.Tracks.length n0_0), (.slice a0_1 x0.Ties.length n0_1), (.int .i64 x0.Window)] 25 (0, 0)))] := hs128.drop 6
    have hs130 : HS w0 F0 w108 F8 [(some b105, (.cells #[(.int .i64 r97.1.Lo), (.int .i64 r97.1.Hi)] 38 (0, 0))), (some b92, (.cells #[(.int .i64 r84.1.Lo), (.int .i64 r84.1.Hi)] 38 (0, 0))), (some b79, (.cells #[(.int .i64 r71.1.Lo), (.int .i64 r71.1.Hi)] 38 (0, 0))), (some b66, (.cells #[(.int .i64 r58.1.Lo), (.int .i64 r58.1.Hi)] 38 (0, 0))), (some b53, (.cells #[(.int .i64 r45.1.Lo), (.int .i64 r45.1.Hi)] 38 (0, 0))), (some b40, (.cells #[(.int .i64 r32.1.Lo), (.int .i64 r32.1.Hi)] 38 (0, 0))), (some b1, (.cells #[(.slice a0_0 x0.Tracks.length n0_0), (.slice a0_1 x0.Ties.length n0_1), (.int .i64 x0.Window)] 25 (0, 0)))] := hs129.drop 6
    exact RWP.nil ⟨rfl, F8, hs130, (Mem.le.refl _), rfl, rfl, rfl, rfl, rfl, rfl, rfl, rfl, rfl, rfl, rfl, rfl, rfl, (congrArg Value.bool (or_t hb127 (rfl)))⟩
   ·refine Vg 73 30 2 false 72 hb127 (mv 13 (.int .i64 r45.2)) ?_
    refine Vg 74 4 2 false 72 hb127 (run_neq (t := 30) (t' := 30) (x := (.tmp 73)) (y := (.const (.int .i64 0))) (k := .i64) (a := r45.2) (b := 0) rfl rfl) ?_
    refine V 75 4 (p0 72 (.const (.bool true)) (.tmp 74) (.bool (r45.2 != 0)) hb127) ?_
    refine V 76 4 (mv 75 (.bool (r45.2 != 0))) ?_
    refine RWP.split (r45.2 != 0) (fun hb131 => ?_) (fun hb131 => ?_)
    ·refine Sk [77, 78] 6 false 76 hb131 ?_
     refine V 79 4 (p1 76 (.const (.bool true)) (.tmp 78) (.bool true) hb131) ?_
     have hs132 : HS w0 F0 w108 F8 [(some b105, (.cells #[(.int .i64 r97.1.Lo), (.int .i64 r97.1.Hi)] 38 (0, 0))), (some b92, (.cells #[(.int .i64 r84.1.Lo), (.int .i64 r84.1.Hi)] 38 (0, 0))), (some b79, (.cells #[(.int .i64 r71.1.Lo), (.int .i64 r71.1.Hi)] 38 (0, 0))), (some b66, (.cells #[(.int .i64 r58.1.Lo), (.int .i64 r58.1.Hi)] 38 (0, 0))), (some b53, (.cells #[(.int .i64 r45.1.Lo), (.int .i64 r45.1.Hi)] 38 (0, 0))), (some b40, (.cells #[(.int .i64 r32.1.Lo), (.int .i64 r32.1.Hi)] 38 (0, 0))), (some b7, (.cells #[(.int .i64 x2.Log), (.int .i64 x2.Line)] 27 (0, 0))), (some b4, (.cells #[(.int .i64 x1.Log), (.int .i64 x1.Line)] 27 (0, 0))), (some b1, (.cells #[(.slice a0_0 x0.Tracks.length n0_0), (.slice a0_1 x0.Ties.length n0_1), (.int .i64 x0.Window)] 25 (0, 0)))] := hs109.drop 6
     have hs133 : HS w0 F0 w108 F8 [(some b105, (.cells #[(.int .i64 r97.1.Lo), (.int .i64 r97.1.Hi)] 38 (0, 0))), (some b92, (.cells #[(.int .i64 r84.1.Lo), (.int .i64 r84.1.Hi)] 38 (0, 0))), (some b79, (.cells #[(.int .i64 r71.1.Lo), (.int .i64 r71.1.Hi)] 38 (0, 0))), (some b66, (.cells #[(.int .i64 r58.1.Lo), (.int .i64 r58.1.Hi)] 38 (0, 0))), (some b53, (.cells #[(.int .i64 r45.1.Lo), (.int .i64 r45.1.Hi)] 38 (0, 0))), (some b40, (.cells #[(.int .i64 r32.1.Lo), (.int .i64 r32.1.Hi)] 38 (0, 0))), (some b4, (.cells #[(.int .i64 x1.Log), (.int .i64 x1.Line)] 27 (0, 0))), (some b1, (.cells #[(.slice a0_0 x0.Tracks.length n0_0), (.slice a0_1 x0.Ties.length n0_1), (.int .i64 x0.Window)] 25 (0, 0)))] := hs132.drop 6
     have hs134 : HS w0 F0 w108 F8 [(some b105, (.cells #[(.int .i64 r97.1.Lo), (.int .i64 r97.1.Hi)] 38 (0, 0))), (some b92, (.cells #[(.int .i64 r84.1.Lo), (.int .i64 r84.1.Hi)] 38 (0, 0))), (some b79, (.cells #[(.int .i64 r71.1.Lo), (.int .i64 r71.1.Hi)] 38 (0, 0))), (some b66, (.cells #[(.int .i64 r58.1.Lo), (.int .i64 r58.1.Hi)] 38 (0, 0))), (some b53, (.cells #[(.int .i64 r45.1.Lo), (.int .i64 r45.1.Hi)] 38 (0, 0))), (some b40, (.cells #[(.int .i64 r32.1.Lo), (.int .i64 r32.1.Hi)] 38 (0, 0))), (some b1, (.cells #[(.slice a0_0 x0.Tracks.length n0_0), (.slice a0_1 x0.Ties.length n0_1), (.int .i64 x0.Window)] 25 (0, 0)))] := hs133.drop 6
     exact RWP.nil ⟨rfl, F8, hs134, (Mem.le.refl _), rfl, rfl, rfl, rfl, rfl, rfl, rfl, rfl, rfl, rfl, rfl, rfl, rfl, (congrArg Value.bool (or_f hb127 (or_t hb131 (rfl))))⟩
    ·refine Vg 77 30 6 false 76 hb131 (mv 15 (.int .i64 r58.2)) ?_
     refine Vg 78 4 6 false 76 hb131 (run_neq (t := 30) (t' := 30) (x := (.tmp 77)) (y := (.const (.int .i64 0))) (k := .i64) (a := r58.2) (b := 0) rfl rfl) ?_
     refine V 79 4 (p0 76 (.const (.bool true)) (.tmp 78) (.bool (r58.2 != 0)) hb131) ?_
     have hs135 : HS w0 F0 w108 F8 [(some b105, (.cells #[(.int .i64 r97.1.Lo), (.int .i64 r97.1.Hi)] 38 (0, 0))), (some b92, (.cells #[(.int .i64 r84.1.Lo), (.int .i64 r84.1.Hi)] 38 (0, 0))), (some b79, (.cells #[(.int .i64 r71.1.Lo), (.int .i64 r71.1.Hi)] 38 (0, 0))), (some b66, (.cells #[(.int .i64 r58.1.Lo), (.int .i64 r58.1.Hi)] 38 (0, 0))), (some b53, (.cells #[(.int .i64 r45.1.Lo), (.int .i64 r45.1.Hi)] 38 (0, 0))), (some b40, (.cells #[(.int .i64 r32.1.Lo), (.int .i64 r32.1.Hi)] 38 (0, 0))), (some b7, (.cells #[(.int .i64 x2.Log), (.int .i64 x2.Line)] 27 (0, 0))), (some b4, (.cells #[(.int .i64 x1.Log), (.int .i64 x1.Line)] 27 (0, 0))), (some b1, (.cells #[(.slice a0_0 x0.Tracks.length n0_0), (.slice a0_1 x0.Ties.length n0_1), (.int .i64 x0.Window)] 25 (0, 0)))] := hs109.drop 6
     have hs136 : HS w0 F0 w108 F8 [(some b105, (.cells #[(.int .i64 r97.1.Lo), (.int .i64 r97.1.Hi)] 38 (0, 0))), (some b92, (.cells #[(.int .i64 r84.1.Lo), (.int .i64 r84.1.Hi)] 38 (0, 0))), (some b79, (.cells #[(.int .i64 r71.1.Lo), (.int .i64 r71.1.Hi)] 38 (0, 0))), (some b66, (.cells #[(.int .i64 r58.1.Lo), (.int .i64 r58.1.Hi)] 38 (0, 0))), (some b53, (.cells #[(.int .i64 r45.1.Lo), (.int .i64 r45.1.Hi)] 38 (0, 0))), (some b40, (.cells #[(.int .i64 r32.1.Lo), (.int .i64 r32.1.Hi)] 38 (0, 0))), (some b4, (.cells #[(.int .i64 x1.Log), (.int .i64 x1.Line)] 27 (0, 0))), (some b1, (.cells #[(.slice a0_0 x0.Tracks.length n0_0), (.slice a0_1 x0.Ties.length n0_1), (.int .i64 x0.Window)] 25 (0, 0)))] := hs135.drop 6
     have hs137 : HS w0 F0 w108 F8 [(some b105, (.cells #[(.int .i64 r97.1.Lo), (.int .i64 r97.1.Hi)] 38 (0, 0))), (some b92, (.cells #[(.int .i64 r84.1.Lo), (.int .i64 r84.1.Hi)] 38 (0, 0))), (some b79, (.cells #[(.int .i64 r71.1.Lo), (.int .i64 r71.1.Hi)] 38 (0, 0))), (some b66, (.cells #[(.int .i64 r58.1.Lo), (.int .i64 r58.1.Hi)] 38 (0, 0))), (some b53, (.cells #[(.int .i64 r45.1.Lo), (.int .i64 r45.1.Hi)] 38 (0, 0))), (some b40, (.cells #[(.int .i64 r32.1.Lo), (.int .i64 r32.1.Hi)] 38 (0, 0))), (some b1, (.cells #[(.slice a0_0 x0.Tracks.length n0_0), (.slice a0_1 x0.Ties.length n0_1), (.int .i64 x0.Window)] 25 (0, 0)))] := hs136.drop 6
     exact RWP.nil ⟨rfl, F8, hs137, (Mem.le.refl _), rfl, rfl, rfl, rfl, rfl, rfl, rfl, rfl, rfl, rfl, rfl, rfl, rfl, (congrArg Value.bool (or_f hb127 (or_f hb131 (rfl))))⟩
  ·rintro f w110 ⟨F9, hs111, le112, e113, e114, e115, e116, e117, e118, e119, e120, e121, e122, e123, e124, e125, e126⟩
   refine thenQ_nrm ?_
   refine CWP.cond (t := ((r32.2 != 0) || ((r45.2 != 0) || (r58.2 != 0)))) (by kernel_rfl) e126 (fun hb138 => ?_) (fun hb138 => ?_)
   ·have h139 := cond_t h99 hb138
    refine Sq (Rg [0, 1, 2, 3, 4, 5, 6, 7, 8, 9, 10, 11, 12, 13, 14, 15, 16, 17, 18] ?_)
    refine RWP.cut (fun f w => ∃ (F10 : Mem), HS w0 F0 w F10 [] ∧ Mem.le F9 F10 ∧ f.d = [] ∧ f 8 = (.bool (r13 && ((r32.2 == r71.2) && ((r32.2 != 0) || ((r84.2 == 0) && (r97.2 == 0))))))) ?_ ?_
    ·refine V 80 4 (mv 9 (.bool r13) e115) ?_
     refine V 81 4 (mv 80 (.bool r13)) ?_
     refine RWP.split r13 (fun hb145 => ?_) (fun hb145 => ?_)
     ·refine Vg 82 30 1 true 81 hb145 (mv 11 (.int .i64 r32.2) e117) ?_
      refine Vg 83 30 1 true 81 hb145 (mv 17 (.int .i64 r71.2) e121) ?_
      refine Vg 84 4 1 true 81 hb145 (run_eql (t := 30) (t' := 30) (x := (.tmp 82)) (y := (.tmp 83)) (k := .i64) (a := r32.2) (b := r71.2) rfl rfl) ?_
      refine V 85 4 (p1 81 (.tmp 84) (.const (.bool false)) (.bool (r32.2 == r71.2)) hb145) ?_
      refine V 86 4 (mv 85 (.bool (r32.2 == r71.2))) ?_
      refine RWP.split (r32.2 == r71.2) (fun hb146 => ?_) (fun hb146 => ?_)
      ·refine Vg 87 30 6 true 86 hb146 (mv 11 (.int .i64 r32.2) e117) ?_
       refine Vg 88 4 6 true 86 hb146 (run_neq (t := 30) (t' := 30) (x := (.tmp 87)) (y := (.const (.int .i64 0))) (k := .i64) (a := r32.2) (b := 0) rfl rfl) ?_
       refine Vg 89 4 6 true 86 hb146 (mv 88 (.bool (r32.2 != 0))) ?_
       refine RWP.split (r32.2 != 0) (fun hb147 => ?_) (fun hb147 => ?_)
       ·refine Sk [90, 91, 92] 9 false 89 hb147 ?_
        refine Su [93, 94] 12 true 92 ?_
        refine Sk [95] 9 false 89 hb147 ?_
        refine Vg 96 4 6 true 86 hb146 (p1 89 (.const (.bool true)) (.tmp 95) (.bool true) hb147) ?_
        refine V 97 4 (p1 86 (.tmp 96) (.const (.bool false)) (.bool true) hb146) ?_
        refine V 8 4 (ma 97 (.bool true)) ?_
        have hs148 : HS w0 F0 w110 F9 [(some b92, (.cells #[(.int .i64 r84.1.Lo), (.int .i64 r84.1.Hi)] 38 (0, 0))), (some b79, (.cells #[(.int .i64 r71.1.Lo), (.int .i64 r71.1.Hi)] 38 (0, 0))), (some b66, (.cells #[(.int .i64 r58.1.Lo), (.int .i64 r58.1.Hi)] 38 (0, 0))), (some b53, (.cells #[(.int .i64 r45.1.Lo), (.int .i64 r45.1.Hi)] 38 (0, 0))), (some b40, (.cells #[(.int .i64 r32.1.Lo), (.int .i64 r32.1.Hi)] 38 (0, 0))), (some b1, (.cells #[(.slice a0_0 x0.Tracks.length n0_0), (.slice a0_1 x0.Ties.length n0_1), (.int .i64 x0.Window)] 25 (0, 0)))] := hs111.drop 0
        have hs149 : HS w0 F0 w110 F9 [(some b79, (.cells #[(.int .i64 r71.1.Lo), (.int .i64 r71.1.Hi)] 38 (0, 0))), (some b66, (.cells #[(.int .i64 r58.1.Lo), (.int .i64 r58.1.Hi)] 38 (0, 0))), (some b53, (.cells #[(.int .i64 r45.1.Lo), (.int .i64 r45.1.Hi)] 38 (0, 0))), (some b40, (.cells #[(.int .i64 r32.1.Lo), (.int .i64 r32.1.Hi)] 38 (0, 0))), (some b1, (.cells #[(.slice a0_0 x0.Tracks.length n0_0), (.slice a0_1 x0.Ties.length n0_1), (.int .i64 x0.Window)] 25 (0, 0)))] := hs148.drop 0
        have hs150 : HS w0 F0 w110 F9 [(some b66, (.cells #[(.int .i64 r58.1.Lo), (.int .i64 r58.1.Hi)] 38 (0, 0))), (some b53, (.cells #[(.int .i64 r45.1.Lo), (.int .i64 r45.1.Hi)] 38 (0, 0))), (some b40, (.cells #[(.int .i64 r32.1.Lo), (.int .i64 r32.1.Hi)] 38 (0, 0))), (some b1, (.cells #[(.slice a0_0 x0.Tracks.length n0_0), (.slice a0_1 x0.Ties.length n0_1), (.int .i64 x0.Window)] 25 (0, 0)))] := hs149.drop 0
        have hs151 : HS w0 F0 w110 F9 [(some b53, (.cells #[(.int .i64 r45.1.Lo), (.int .i64 r45.1.Hi)] 38 (0, 0))), (some b40, (.cells #[(.int .i64 r32.1.Lo), (.int .i64 r32.1.Hi)] 38 (0, 0))), (some b1, (.cells #[(.slice a0_0 x0.Tracks.length n0_0), (.slice a0_1 x0.Ties.length n0_1), (.int .i64 x0.Window)] 25 (0, 0)))] := hs150.drop 0
        have hs152 : HS w0 F0 w110 F9 [(some b40, (.cells #[(.int .i64 r32.1.Lo), (.int .i64 r32.1.Hi)] 38 (0, 0))), (some b1, (.cells #[(.slice a0_0 x0.Tracks.length n0_0), (.slice a0_1 x0.Ties.length n0_1), (.int .i64 x0.Window)] 25 (0, 0)))] := hs151.drop 0
        have hs153 : HS w0 F0 w110 F9 [(some b1, (.cells #[(.slice a0_0 x0.Tracks.length n0_0), (.slice a0_1 x0.Ties.length n0_1), (.int .i64 x0.Window)] 25 (0, 0)))] := hs152.drop 0
        have hs154 : HS w0 F0 w110 F9 [] := hs153.drop 0
        exact RWP.nil ⟨rfl, F9, hs154, (Mem.le.refl _), e113, (congrArg Value.bool (and_t hb145 (and_t hb146 (or_t hb147 (rfl)))))⟩
       ·refine Vg 90 30 9 false 89 hb147 (mv 19 (.int .i64 r84.2) e123) ?_
        refine Vg 91 4 9 false 89 hb147 (run_eql (t := 30) (t' := 30) (x := (.tmp 90)) (y := (.const (.int .i64 0))) (k := .i64) (a := r84.2) (b := 0) rfl rfl) ?_
        refine Vg 92 4 9 false 89 hb147 (mv 91 (.bool (r84.2 == 0))) ?_
        refine RWP.split (r84.2 == 0) (fun hb155 => ?_) (fun hb155 => ?_)
        ·refine Vg 93 30 12 true 92 hb155 (mv 21 (.int .i64 r97.2) e125) ?_
         refine Vg 94 4 12 true 92 hb155 (run_eql (t := 30) (t' := 30) (x := (.tmp 93)) (y := (.const (.int .i64 0))) (k := .i64) (a := r97.2) (b := 0) rfl rfl) ?_
         refine Vg 95 4 9 false 89 hb147 (p1 92 (.tmp 94) (.const (.bool false)) (.bool (r97.2 == 0)) hb155) ?_
         refine Vg 96 4 6 true 86 hb146 (p0 89 (.const (.bool true)) (.tmp 95) (.bool (r97.2 == 0)) hb147) ?_
         refine V 97 4 (p1 86 (.tmp 96) (.const (.bool false)) (.bool (r97.2 == 0)) hb146) ?_
         refine V 8 4 (ma 97 (.bool (r97.2 == 0))) ?_
         have hs156 : HS w0 F0 w110 F9 [(some b92, (.cells #[(.int .i64 r84.1.Lo), (.int .i64 r84.1.Hi)] 38 (0, 0))), (some b79, (.cells #[(.int .i64 r71.1.Lo), (.int .i64 r71.1.Hi)] 38 (0, 0))), (some b66, (.cells #[(.int .i64 r58.1.Lo), (.int .i64 r58.1.Hi)] 38 (0, 0))), (some b53, (.cells #[(.int .i64 r45.1.Lo), (.int .i64 r45.1.Hi)] 38 (0, 0))), (some b40, (.cells #[(.int .i64 r32.1.Lo), (.int .i64 r32.1.Hi)] 38 (0, 0))), (some b1, (.cells #[(.slice a0_0 x0.Tracks.length n0_0), (.slice a0_1 x0.Ties.length n0_1), (.int .i64 x0.Window)] 25 (0, 0)))] := hs111.drop 0
         have hs157 : HS w0 F0 w110 F9 [(some b79, (.cells #[(.int .i64 r71.1.Lo), (.int .i64 r71.1.Hi)] 38 (0, 0))), (some b66, (.cells #[(.int .i64 r58.1.Lo), (.int .i64 r58.1.Hi)] 38 (0, 0))), (some b53, (.cells #[(.int .i64 r45.1.Lo), (.int .i64 r45.1.Hi)] 38 (0, 0))), (some b40, (.cells #[(.int .i64 r32.1.Lo), (.int .i64 r32.1.Hi)] 38 (0, 0))), (some b1, (.cells #[(.slice a0_0 x0.Tracks.length n0_0), (.slice a0_1 x0.Ties.length n0_1), (.int .i64 x0.Window)] 25 (0, 0)))] := hs156.drop 0
         have hs158 : HS w0 F0 w110 F9 [(some b66, (.cells #[(.int .i64 r58.1.Lo), (.int .i64 r58.1.Hi)] 38 (0, 0))), (some b53, (.cells #[(.int .i64 r45.1.Lo), (.int .i64 r45.1.Hi)] 38 (0, 0))), (some b40, (.cells #[(.int .i64 r32.1.Lo), (.int .i64 r32.1.Hi)] 38 (0, 0))), (some b1, (.cells #[(.slice a0_0 x0.Tracks.length n0_0), (.slice a0_1 x0.Ties.length n0_1), (.int .i64 x0.Window)] 25 (0, 0)))] := hs157.drop 0
         have hs159 : HS w0 F0 w110 F9 [(some b53, (.cells #[(.int .i64 r45.1.Lo), (.int .i64 r45.1.Hi)] 38 (0, 0))), (some b40, (.cells #[(.int .i64 r32.1.Lo), (.int .i64 r32.1.Hi)] 38 (0, 0))), (some b1, (.cells #[(.slice a0_0 x0.Tracks.length n0_0), (.slice a0_1 x0.Ties.length n0_1), (.int .i64 x0.Window)] 25 (0, 0)))] := hs158.drop 0
         have hs160 : HS w0 F0 w110 F9 [(some b40, (.cells #[(.int .i64 r32.1.Lo), (.int .i64 r32.1.Hi)] 38 (0, 0))), (some b1, (.cells #[(.slice a0_0 x0.Tracks.length n0_0), (.slice a0_1 x0.Ties.length n0_1), (.int .i64 x0.Window)] 25 (0, 0)))] := hs159.drop 0
         have hs161 : HS w0 F0 w110 F9 [(some b1, (.cells #[(.slice a0_0 x0.Tracks.length n0_0), (.slice a0_1 x0.Ties.length n0_1), (.int .i64 x0.Window)] 25 (0, 0)))] := hs160.drop 0
         have hs162 : HS w0 F0 w110 F9 [] := hs161.drop 0
         exact RWP.nil ⟨rfl, F9, hs162, (Mem.le.refl _), e113, (congrArg Value.bool (and_t hb145 (and_t hb146 (or_f hb147 (and_t hb155 (rfl))))))⟩
        ·refine Sk [93, 94] 12 true 92 hb155 ?_
         refine Vg 95 4 9 false 89 hb147 (p0 92 (.tmp 94) (.const (.bool false)) (.bool false) hb155) ?_
         refine Vg 96 4 6 true 86 hb146 (p0 89 (.const (.bool true)) (.tmp 95) (.bool false) hb147) ?_
         refine V 97 4 (p1 86 (.tmp 96) (.const (.bool false)) (.bool false) hb146) ?_
         refine V 8 4 (ma 97 (.bool false)) ?_
         have hs163 : HS w0 F0 w110 F9 [(some b92, (.cells #[(.int .i64 r84.1.Lo), (.int .i64 r84.1.Hi)] 38 (0, 0))), (some b79, (.cells #[(.int .i64 r71.1.Lo), (.int .i64 r71.1.Hi)] 38 (0, 0))), (some b66, (.cells #[(.int .i64 r58.1.Lo), (.int .i64 r58.1.Hi)] 38 (0, 0))), (some b53, (.cells #[(.int .i64 r45.1.Lo), (.int .i64 r45.1.Hi)] 38 (0, 0))), (some b40, (.cells #[(.int .i64 r32.1.Lo), (.int .i64 r32.1.Hi)] 38 (0, 0))), (some b1, (.cells #[(.slice a0_0 x0.Tracks.length n0_0), (.slice a0_1 x0.Ties.length n0_1), (.int .i64 x0.Window)] 25 (0, 0)))] := hs111.drop 0
         have hs164 : HS w0 F0 w110 F9 [(some b79, (.cells #[(.int .i64 r71.1.Lo), (.int .i64 r71.1.Hi)] 38 (0, 0))), (some b66, (.cells #[(.int .i64 r58.1.Lo), (.int .i64 r58.1.Hi)] 38 (0, 0))), (some b53, (.cells #[(.int .i64 r45.1.Lo), (.int .i64 r45.1.Hi)] 38 (0, 0))), (some b40, (.cells #[(.int .i64 r32.1.Lo), (.int .i64 r32.1.Hi)] 38 (0, 0))), (some b1, (.cells #[(.slice a0_0 x0.Tracks.length n0_0), (.slice a0_1 x0.Ties.length n0_1), (.int .i64 x0.Window)] 25 (0, 0)))] := hs163.drop 0
         have hs165 : HS w0 F0 w110 F9 [(some b66, (.cells #[(.int .i64 r58.1.Lo), (.int .i64 r58.1.Hi)] 38 (0, 0))), (some b53, (.cells #[(.int .i64 r45.1.Lo), (.int .i64 r45.1.Hi)] 38 (0, 0))), (some b40, (.cells #[(.int .i64 r32.1.Lo), (.int .i64 r32.1.Hi)] 38 (0, 0))), (some b1, (.cells #[(.slice a0_0 x0.Tracks.length n0_0), (.slice a0_1 x0.Ties.length n0_1), (.int .i64 x0.Window)] 25 (0, 0)))] := hs164.drop 0
         have hs166 : HS w0 F0 w110 F9 [(some b53, (.cells #[(.int .i64 r45.1.Lo), (.int .i64 r45.1.Hi)] 38 (0, 0))), (some b40, (.cells #[(.int .i64 r32.1.Lo), (.int .i64 r32.1.Hi)] 38 (0, 0))), (some b1, (.cells #[(.slice a0_0 x0.Tracks.length n0_0), (.slice a0_1 x0.Ties.length n0_1), (.int .i64 x0.Window)] 25 (0, 0)))] := hs165.drop 0
         have hs167 : HS w0 F0 w110 F9 [(some b40, (.cells #[(.int .i64 r32.1.Lo), (.int .i64 r32.1.Hi)] 38 (0, 0))), (some b1, (.cells #[(.slice a0_0 x0.Tracks.length n0_0), (.slice a0_1 x0.Ties.length n0_1), (.int .i64 x0.Window)] 25 (0, 0)))] := hs166.drop 0
         have hs168 : HS w0 F0 w110 F9 [(some b1, (.cells #[(.slice a0_0 x0.Tracks.length n0_0), (.slice a0_1 x0.Ties.length n0_1), (.int .i64 x0.Window)] 25 (0, 0)))] := hs167.drop 0
         have hs169 : HS w0 F0 w110 F9 [] := hs168.drop 0
         exact RWP.nil ⟨rfl, F9, hs169, (Mem.le.refl _), e113, (congrArg Value.bool (and_t hb145 (and_t hb146 (or_f hb147 (and_f hb155 (rfl))))))⟩
      ·refine Sk [87, 88, 89] 6 true 86 hb146 ?_
       refine Su [90, 91, 92] 9 false 89 ?_
       refine Su [93, 94] 12 true 92 ?_
       refine Su [95] 9 false 89 ?_
       refine Sk [96] 6 true 86 hb146 ?_
       refine V 97 4 (p0 86 (.tmp 96) (.const (.bool false)) (.bool false) hb146) ?_
       refine V 8 4 (ma 97 (.bool false)) ?_
       have hs170 : HS w0 F0 w110 F9 [(some b92, (.cells #[(.int .i64 r84.1.Lo), (.int .i64 r84.1.Hi)] 38 (0, 0))), (some b79, (.cells #[(.int .i64 r71.1.Lo), (.int .i64 r71.1.Hi)] 38 (0, 0))), (some b66, (.cells #[(.int .i64 r58.1.Lo), (.int .i64 r58.1.Hi)] 38 (0, 0))), (some b53, (.cells #[(.int .i64 r45.1.Lo), (.int .i64 r45.1.Hi)] 38 (0, 0))), (some b40, (.cells #[(.int .i64 r32.1.Lo), (.int .i64 r32.1.Hi)] 38 (0, 0))), (some b1, (.cells #[(.slice a0_0 x0.Tracks.length n0_0), (.slice a0_1 x0.Ties.length n0_1), (.int .i64 x0.Window)] 25 (0, 0)))] := hs111.drop 0
       have hs171 : HS w0 F0 w110 F9 [(some b79, (.cells #[(.int .i64 r71.1.Lo), (.int .i64 r71.1.Hi)] 38 (0, 0))), (some b66, (.cells #[(.int .i64 r58.1.Lo), (.int .i64 r58.1.Hi)] 38 (0, 0))), (some b53, (.cells #[(.int .i64 r45.1.Lo), (.int .i64 r45.1.Hi)] 38 (0, 0))), (some b40, (.cells #[(.int .i64 r32.1.Lo), (.int .i64 r32.1.Hi)] 38 (0, 0))), (some b1, (.cells #[(.slice a0_0 x0.Tracks.length n0_0), (.slice a0_1 x0.Ties.length n0_1), (.int .i64 x0.Window)] 25 (0, 0)))] := hs170.drop 0
       have hs172 : HS w0 F0 w110 F9 [(some b66, (.cells #[(.int .i64 r58.1.Lo), (.int .i64 r58.1.Hi)] 38 (0, 0))), (some b53, (.cells #[(.int .i64 r45.1.Lo), (.int .i64 r45.1.Hi)] 38 (0, 0))), (some b40, (.cells #[(.int .i64 r32.1.Lo), (.int .i64 r32.1.Hi)] 38 (0, 0))), (some b1, (.cells #[(.slice a0_0 x0.Tracks.length n0_0), (.slice a0_1 x0.Ties.length n0_1), (.int .i64 x0.Window)] 25 (0, 0)))] := hs171.drop 0
       have hs173 : HS w0 F0 w110 F9 [(some b53, (.cells #[(.int .i64 r45.1.Lo), (.int .i64 r45.1.Hi)] 38 (0, 0))), (some b40, (.cells #[(.int .i64 r32.1.Lo), (.int .i64 r32.1.Hi)] 38 (0, 0))), (some b1, (.cells #[(.slice a0_0 x0.Tracks.length n0_0), (.slice a0_1 x0.Ties.length n0_1), (.int .i64 x0.Window)] 25 (0, 0)))] := hs172.drop 0
       have hs174 : HS w0 F0 w110 F9 [(some b40, (.cells #[(.int .i64 r32.1.Lo), (.int .i64 r32.1.Hi)] 38 (0, 0))), (some b1, (.cells #[(.slice a0_0 x0.Tracks.length n0_0), (.slice a0_1 x0.Ties.length n0_1), (.int .i64 x0.Window)] 25 (0, 0)))] := hs173.drop 0
       have hs175 : HS w0 F0 w110 F9 [(some b1, (.cells #[(.slice a0_0 x0.Tracks.length n0_0), (.slice a0_1 x0.Ties.length n0_1), (.int .i64 x0.Window)] 25 (0, 0)))] := hs174.drop 0
       have hs176 : HS w0 F0 w110 F9 [] := hs175.drop 0
       exact RWP.nil ⟨rfl, F9, hs176, (Mem.le.refl _), e113, (congrArg Value.bool (and_t hb145 (and_f hb146 (rfl))))⟩
     ·refine Sk [82, 83, 84] 1 true 81 hb145 ?_
      refine V 85 4 (p0 81 (.tmp 84) (.const (.bool false)) (.bool false) hb145) ?_
      refine V 86 4 (mv 85 (.bool false)) ?_
      refine Sk [87, 88, 89] 6 true 86 rfl ?_
      refine Su [90, 91, 92] 9 false 89 ?_
      refine Su [93, 94] 12 true 92 ?_
      refine Su [95] 9 false 89 ?_
      refine Sk [96] 6 true 86 rfl ?_
      refine V 97 4 (p0 86 (.tmp 96) (.const (.bool false)) (.bool false) rfl) ?_
      refine V 8 4 (ma 97 (.bool false)) ?_
      have hs177 : HS w0 F0 w110 F9 [(some b92, (.cells #[(.int .i64 r84.1.Lo), (.int .i64 r84.1.Hi)] 38 (0, 0))), (some b79, (.cells #[(.int .i64 r71.1.Lo), (.int .i64 r71.1.Hi)] 38 (0, 0))), (some b66, (.cells #[(.int .i64 r58.1.Lo), (.int .i64 r58.1.Hi)] 38 (0, 0))), (some b53, (.cells #[(.int .i64 r45.1.Lo), (.int .i64 r45.1.Hi)] 38 (0, 0))), (some b40, (.cells #[(.int .i64 r32.1.Lo), (.int .i64 r32.1.Hi)] 38 (0, 0))), (some b1, (.cells #[(.slice a0_0 x0.Tracks.length n0_0), (.slice a0_1 x0.Ties.length n0_1), (.int .i64 x0.Window)] 25 (0, 0)))] := hs111.drop 0
      have hs178 : HS w0 F0 w110 F9 [(some b79, (.cells #[(.int .i64 r71.1.Lo), (.int .i64 r71.1.Hi)] 38 (0, 0))), (some b66, (.cells #[(.int .i64 r58.1.Lo), (.int .i64 r58.1.Hi)] 38 (0, 0))), (some b53, (.cells #[(.int .i64 r45.1.Lo), (.int .i64 r45.1.Hi)] 38 (0, 0))), (some b40, (.cells #[(.int .i64 r32.1.Lo), (.int .i64 r32.1.Hi)] 38 (0, 0))), (some b1, (.cells #[(.slice a0_0 x0.Tracks.length n0_0), (.slice a0_1 x0.Ties.length n0_1), (.int .i64 x0.Window)] 25 (0, 0)))] := hs177.drop 0
      have hs179 : HS w0 F0 w110 F9 [(some b66, (.cells #[(.int .i64 r58.1.Lo), (.int .i64 r58.1.Hi)] 38 (0, 0))), (some b53, (.cells #[(.int .i64 r45.1.Lo), (.int .i64 r45.1.Hi)] 38 (0, 0))), (some b40, (.cells #[(.int .i64 r32.1.Lo), (.int .i64 r32.1.Hi)] 38 (0, 0))), (some b1, (.cells #[(.slice a0_0 x0.Tracks.length n0_0), (.slice a0_1 x0.Ties.length n0_1), (.int .i64 x0.Window)] 25 (0, 0)))] := hs178.drop 0
      have hs180 : HS w0 F0 w110 F9 [(some b53, (.cells #[(.int .i64 r45.1.Lo), (.int .i64 r45.1.Hi)] 38 (0, 0))), (some b40, (.cells #[(.int .i64 r32.1.Lo), (.int .i64 r32.1.Hi)] 38 (0, 0))), (some b1, (.cells #[(.slice a0_0 x0.Tracks.length n0_0), (.slice a0_1 x0.Ties.length n0_1), (.int .i64 x0.Window)] 25 (0, 0)))] := hs179.drop 0
      have hs181 : HS w0 F0 w110 F9 [(some b40, (.cells #[(.int .i64 r32.1.Lo), (.int .i64 r32.1.Hi)] 38 (0, 0))), (some b1, (.cells #[(.slice a0_0 x0.Tracks.length n0_0), (.slice a0_1 x0.Ties.length n0_1), (.int .i64 x0.Window)] 25 (0, 0)))] := hs180.drop 0
      have hs182 : HS w0 F0 w110 F9 [(some b1, (.cells #[(.slice a0_0 x0.Tracks.length n0_0), (.slice a0_1 x0.Ties.length n0_1), (.int .i64 x0.Window)] 25 (0, 0)))] := hs181.drop 0
      have hs183 : HS w0 F0 w110 F9 [] := hs182.drop 0
      exact RWP.nil ⟨rfl, F9, hs183, (Mem.le.refl _), e113, (congrArg Value.bool (and_f hb145 (rfl)))⟩
    ·rintro f w140 ⟨F10, hs141, le142, e143, e144⟩
     refine thenQ_nrm ?_
     refine CWP.ret (by kernel_rfl) ?_
     refine thenQ_ret ?_
     have hfin := some_inj h139
     subst hfin
     exact ⟨e143, (.bool (r13 && ((r32.2 == r71.2) && ((r32.2 != 0) || ((r84.2 == 0) && (r97.2 == 0)))))), res_of (l := [.tmp 8]) (by kernel_rfl) (vs := [(.bool (r13 && ((r32.2 == r71.2) && ((r32.2 != 0) || ((r84.2 == 0) && (r97.2 == 0))))))]) ⟨e144, trivial⟩, (.bool (r13 && ((r32.2 == r71.2) && ((r32.2 != 0) || ((r84.2 == 0) && (r97.2 == 0)))))), F10, rfl, hs141.clear, rfl⟩
   ·have h184 := cond_f h99 hb138
    refine Sc ?_
    refine thenQ_nrm ?_
    refine Sq ?_
    refine Sq (Rg [0, 1, 2, 3, 4, 5, 6, 7, 8, 9, 10, 11, 12, 13, 14, 15, 16, 17, 18, 19, 20, 21, 22, 23, 24, 25, 26, 27, 28, 29, 30, 31, 32, 33, 34, 35, 36, 37, 38, 39] ?_)
    refine RWP.cut (fun f w => ∃ (F11 : Mem), HS w0 F0 w F11 [(some b105, (.cells #[(.int .i64 r97.1.Lo), (.int .i64 r97.1.Hi)] 38 (0, 0))), (some b92, (.cells #[(.int .i64 r84.1.Lo), (.int .i64 r84.1.Hi)] 38 (0, 0))), (some b40, (.cells #[(.int .i64 r32.1.Lo), (.int .i64 r32.1.Hi)] 38 (0, 0))), (some b1, (.cells #[(.slice a0_0 x0.Tracks.length n0_0), (.slice a0_1 x0.Ties.length n0_1), (.int .i64 x0.Window)] 25 (0, 0)))] ∧ Mem.le F9 F11 ∧ f.d = [] ∧ f 4 = (.pointer (some ⟨b1, 0, none⟩)) ∧ f 9 = (.bool r13) ∧ f 10 = (.pointer (some ⟨b40, 0, none⟩)) ∧ f 18 = (.pointer (some ⟨b92, 0, none⟩)) ∧ f 20 = (.pointer (some ⟨b105, 0, none⟩)) ∧ f 137 = (.bool ((r71.2 != 0) || ((!((r71.1.Lo == (W64 (0 - r32.1.Hi))) && ((r71.1.Hi == (W64 (0 - r32.1.Lo))) && true))) || ((decide (r58.1.Lo < (W64 (r32.1.Lo + r45.1.Lo)))) || ((decide (r58.1.Hi > (W64 (r32.1.Hi + r45.1.Hi)))) || (decide (r32.1.Lo > r32.1.Hi)))))))) ?_ ?_
    ·refine V 98 30 (mv 17 (.int .i64 r71.2) e121) ?_
     refine V 99 4 (run_neq (t := 30) (t' := 30) (x := (.tmp 98)) (y := (.const (.int .i64 0))) (k := .i64) (a := r71.2) (b := 0) rfl rfl) ?_
     refine V 100 4 (mv 99 (.bool (r71.2 != 0))) ?_
     refine RWP.split (r71.2 != 0) (fun hb195 => ?_) (fun hb195 => ?_)
     ·refine Sk [101, 102, 103, 104, 105, 106, 107, 108, 109] 2 false 100 hb195 ?_
      refine V 110 4 (p1 100 (.const (.bool true)) (.tmp 109) (.bool true) hb195) ?_
      refine V 111 4 (mv 110 (.bool true)) ?_
      refine Sk [112, 113, 114, 115, 116, 117, 118, 119] 13 false 111 rfl ?_
      refine V 120 4 (p1 111 (.const (.bool true)) (.tmp 119) (.bool true) rfl) ?_
      refine V 121 4 (mv 120 (.bool true)) ?_
      refine Sk [122, 123, 124, 125, 126, 127, 128, 129] 23 false 121 rfl ?_
      refine V 130 4 (p1 121 (.const (.bool true)) (.tmp 129) (.bool true) rfl) ?_
      refine V 131 4 (mv 130 (.bool true)) ?_
      refine Sk [132, 133, 134, 135, 136] 33 false 131 rfl ?_
      refine V 137 4 (p1 131 (.const (.bool true)) (.tmp 136) (.bool true) rfl) ?_
      have hs196 : HS w0 F0 w110 F9 [(some b105, (.cells #[(.int .i64 r97.1.Lo), (.int .i64 r97.1.Hi)] 38 (0, 0))), (some b92, (.cells #[(.int .i64 r84.1.Lo), (.int .i64 r84.1.Hi)] 38 (0, 0))), (some b66, (.cells #[(.int .i64 r58.1.Lo), (.int .i64 r58.1.Hi)] 38 (0, 0))), (some b53, (.cells #[(.int .i64 r45.1.Lo), (.int .i64 r45.1.Hi)] 38 (0, 0))), (some b40, (.cells #[(.int .i64 r32.1.Lo), (.int .i64 r32.1.Hi)] 38 (0, 0))), (some b1, (.cells #[(.slice a0_0 x0.Tracks.length n0_0), (.slice a0_1 x0.Ties.length n0_1), (.int .i64 x0.Window)] 25 (0, 0)))] := hs111.drop 2
      have hs197 : HS w0 F0 w110 F9 [(some b105, (.cells #[(.int .i64 r97.1.Lo), (.int .i64 r97.1.Hi)] 38 (0, 0))), (some b92, (.cells #[(.int .i64 r84.1.Lo), (.int .i64 r84.1.Hi)] 38 (0, 0))), (some b53, (.cells #[(.int .i64 r45.1.Lo), (.int .i64 r45.1.Hi)] 38 (0, 0))), (some b40, (.cells #[(.int .i64 r32.1.Lo), (.int .i64 r32.1.Hi)] 38 (0, 0))), (some b1, (.cells #[(.slice a0_0 x0.Tracks.length n0_0), (.slice a0_1 x0.Ties.length n0_1), (.int .i64 x0.Window)] 25 (0, 0)))] := hs196.drop 2
      have hs198 : HS w0 F0 w110 F9 [(some b105, (.cells #[(.int .i64 r97.1.Lo), (.int .i64 r97.1.Hi)] 38 (0, 0))), (some b92, (.cells #[(.int .i64 r84.1.Lo), (.int .i64 r84.1.Hi)] 38 (0, 0))), (some b40, (.cells #[(.int .i64 r32.1.Lo), (.int .i64 r32.1.Hi)] 38 (0, 0))), (some b1, (.cells #[(.slice a0_0 x0.Tracks.length n0_0), (.slice a0_1 x0.Ties.length n0_1), (.int .i64 x0.Window)] 25 (0, 0)))] := hs197.drop 2
      exact RWP.nil ⟨rfl, F9, hs198, (Mem.le.refl _), e113, e114, e115, e116, e122, e124, (congrArg Value.bool (or_t hb195 (rfl)))⟩
     ·refine Vg 101 38 2 false 100 hb195 (ld 38 16 b79 0 true 2 (.agg #[(.int .i64 r71.1.Lo), (.int .i64 r71.1.Hi)]) (hs111.ownAt (k := 2) rfl) e120) ?_
      refine Vg 102 0 2 false 100 hb195 (fa 38 10 1 1 1 b40 0 1 e116) ?_
      refine Vg 103 3 2 false 100 hb195 (ld 3 102 b40 1 false 1 (.int .i64 r32.1.Hi) (hs111.ownAt (k := 5) rfl)) ?_
      refine Vg 104 3 2 false 100 hb195 (run_sub (t := 3) (t' := 3) (x := (.const (.int .i64 0))) (y := (.tmp 103)) (k := .i64) (a := 0) (b := r32.1.Hi) rfl rfl) ?_
      refine Vg 105 0 2 false 100 hb195 (fa 38 10 0 0 1 b40 0 0 e116) ?_
      refine Vg 106 3 2 false 100 hb195 (ld 3 105 b40 0 false 1 (.int .i64 r32.1.Lo) (hs111.ownAt (k := 5) rfl)) ?_
      refine Vg 107 3 2 false 100 hb195 (run_sub (t := 3) (t' := 3) (x := (.const (.int .i64 0))) (y := (.tmp 106)) (k := .i64) (a := 0) (b := r32.1.Lo) rfl rfl) ?_
      refine Vg 108 38 2 false 100 hb195 (run_build2 (t := 38) (parts := #[(0, (.tmp 104)), (1, (.tmp 107))]) (vs := [(0, (.int .i64 (W64 (0 - r32.1.Hi)))), (1, (.int .i64 (W64 (0 - r32.1.Lo))))]) (rfl) (cs := [(.int .i64 (W64 (0 - r32.1.Hi))), (.int .i64 (W64 (0 - r32.1.Lo)))]) (by kernel_rfl)) ?_
      refine Vg 109 4 2 false 100 hb195 (run_nes (t := 38) (t' := 38) (x := (.tmp 101)) (y := (.tmp 108)) (xs := #[(.int .i64 r71.1.Lo), (.int .i64 r71.1.Hi)]) (ys := #[(.int .i64 (W64 (0 - r32.1.Hi))), (.int .i64 (W64 (0 - r32.1.Lo)))]) (b := ((r71.1.Lo == (W64 (0 - r32.1.Hi))) && ((r71.1.Hi == (W64 (0 - r32.1.Lo))) && true))) rfl rfl (by kernel_rfl) (by kernel_rfl)) ?_
      refine V 110 4 (p0 100 (.const (.bool true)) (.tmp 109) (.bool (!((r71.1.Lo == (W64 (0 - r32.1.Hi))) && ((r71.1.Hi == (W64 (0 - r32.1.Lo))) && true)))) hb195) ?_
      refine V 111 4 (mv 110 (.bool (!((r71.1.Lo == (W64 (0 - r32.1.Hi))) && ((r71.1.Hi == (W64 (0 - r32.1.Lo))) && true))))) ?_
      refine RWP.split (!((r71.1.Lo == (W64 (0 - r32.1.Hi))) && ((r71.1.Hi == (W64 (0 - r32.1.Lo))) && true))) (fun hb199 => ?_) (fun hb199 => ?_)
      ·refine Sk [112, 113, 114, 115, 116, 117, 118, 119] 13 false 111 hb199 ?_
       refine V 120 4 (p1 111 (.const (.bool true)) (.tmp 119) (.bool true) hb199) ?_
       refine V 121 4 (mv 120 (.bool true)) ?_
       refine Sk [122, 123, 124, 125, 126, 127, 128, 129] 23 false 121 rfl ?_
       refine V 130 4 (p1 121 (.const (.bool true)) (.tmp 129) (.bool true) rfl) ?_
       refine V 131 4 (mv 130 (.bool true)) ?_
       refine Sk [132, 133, 134, 135, 136] 33 false 131 rfl ?_
       refine V 137 4 (p1 131 (.const (.bool true)) (.tmp 136) (.bool true) rfl) ?_
       have hs200 : HS w0 F0 w110 F9 [(some b105, (.cells #[(.int .i64 r97.1.Lo), (.int .i64 r97.1.Hi)] 38 (0, 0))), (some b92, (.cells #[(.int .i64 r84.1.Lo), (.int .i64 r84.1.Hi)] 38 (0, 0))), (some b66, (.cells #[(.int .i64 r58.1.Lo), (.int .i64 r58.1.Hi)] 38 (0, 0))), (some b53, (.cells #[(.int .i64 r45.1.Lo), (.int .i64 r45.1.Hi)] 38 (0, 0))), (some b40, (.cells #[(.int .i64 r32.1.Lo), (.int .i64 r32.1.Hi)] 38 (0, 0))), (some b1, (.cells #[(.slice a0_0 x0.Tracks.length n0_0), (.slice a0_1 x0.Ties.length n0_1), (.int .i64 x0.Window)] 25 (0, 0)))] := hs111.drop 2
       have hs201 : HS w0 F0 w110 F9 [(some b105, (.cells #[(.int .i64 r97.1.Lo), (.int .i64 r97.1.Hi)] 38 (0, 0))), (some b92, (.cells #[(.int .i64 r84.1.Lo), (.int .i64 r84.1.Hi)] 38 (0, 0))), (some b53, (.cells #[(.int .i64 r45.1.Lo), (.int .i64 r45.1.Hi)] 38 (0, 0))), (some b40, (.cells #[(.int .i64 r32.1.Lo), (.int .i64 r32.1.Hi)] 38 (0, 0))), (some b1, (.cells #[(.slice a0_0 x0.Tracks.length n0_0), (.slice a0_1 x0.Ties.length n0_1), (.int .i64 x0.Window)] 25 (0, 0)))] := hs200.drop 2
       have hs202 : HS w0 F0 w110 F9 [(some b105, (.cells #[(.int .i64 r97.1.Lo), (.int .i64 r97.1.Hi)] 38 (0, 0))), (some b92, (.cells #[(.int .i64 r84.1.Lo), (.int .i64 r84.1.Hi)] 38 (0, 0))), (some b40, (.cells #[(.int .i64 r32.1.Lo), (.int .i64 r32.1.Hi)] 38 (0, 0))), (some b1, (.cells #[(.slice a0_0 x0.Tracks.length n0_0), (.slice a0_1 x0.Ties.length n0_1), (.int .i64 x0.Window)] 25 (0, 0)))] := hs201.drop 2
       exact RWP.nil ⟨rfl, F9, hs202, (Mem.le.refl _), e113, e114, e115, e116, e122, e124, (congrArg Value.bool (or_f hb195 (or_t hb199 (rfl))))⟩
      ·refine Vg 112 0 13 false 111 hb199 (fa 38 14 0 0 1 b66 0 0 e119) ?_
       refine Vg 113 3 13 false 111 hb199 (ld 3 112 b66 0 false 1 (.int .i64 r58.1.Lo) (hs111.ownAt (k := 3) rfl)) ?_
       refine Vg 114 0 13 false 111 hb199 (fa 38 10 0 0 1 b40 0 0 e116) ?_
       refine Vg 115 3 13 false 111 hb199 (ld 3 114 b40 0 false 1 (.int .i64 r32.1.Lo) (hs111.ownAt (k := 5) rfl)) ?_
       refine Vg 116 0 13 false 111 hb199 (fa 38 12 0 0 1 b53 0 0 e118) ?_
       refine Vg 117 3 13 false 111 hb199 (ld 3 116 b53 0 false 1 (.int .i64 r45.1.Lo) (hs111.ownAt (k := 4) rfl)) ?_
       refine Vg 118 3 13 false 111 hb199 (run_add (t := 3) (t' := 3) (x := (.tmp 115)) (y := (.tmp 117)) (k := .i64) (a := r32.1.Lo) (b := r45.1.Lo) rfl rfl) ?_
       refine Vg 119 4 13 false 111 hb199 (run_lss (t := 3) (t' := 3) (x := (.tmp 113)) (y := (.tmp 118)) (k := .i64) (a := r58.1.Lo) (b := (W64 (r32.1.Lo + r45.1.Lo))) rfl rfl) ?_
       refine V 120 4 (p0 111 (.const (.bool true)) (.tmp 119) (.bool (decide (r58.1.Lo < (W64 (r32.1.Lo + r45.1.Lo))))) hb199) ?_
       refine V 121 4 (mv 120 (.bool (decide (r58.1.Lo < (W64 (r32.1.Lo + r45.1.Lo)))))) ?_
       refine RWP.split (decide (r58.1.Lo < (W64 (r32.1.Lo + r45.1.Lo)))) (fun hb203 => ?_) (fun hb203 => ?_)
       ·refine Sk [122, 123, 124, 125, 126, 127, 128, 129] 23 false 121 hb203 ?_
        refine V 130 4 (p1 121 (.const (.bool true)) (.tmp 129) (.bool true) hb203) ?_
        refine V 131 4 (mv 130 (.bool true)) ?_
        refine Sk [132, 133, 134, 135, 136] 33 false 131 rfl ?_
        refine V 137 4 (p1 131 (.const (.bool true)) (.tmp 136) (.bool true) rfl) ?_
        have hs204 : HS w0 F0 w110 F9 [(some b105, (.cells #[(.int .i64 r97.1.Lo), (.int .i64 r97.1.Hi)] 38 (0, 0))), (some b92, (.cells #[(.int .i64 r84.1.Lo), (.int .i64 r84.1.Hi)] 38 (0, 0))), (some b66, (.cells #[(.int .i64 r58.1.Lo), (.int .i64 r58.1.Hi)] 38 (0, 0))), (some b53, (.cells #[(.int .i64 r45.1.Lo), (.int .i64 r45.1.Hi)] 38 (0, 0))), (some b40, (.cells #[(.int .i64 r32.1.Lo), (.int .i64 r32.1.Hi)] 38 (0, 0))), (some b1, (.cells #[(.slice a0_0 x0.Tracks.length n0_0), (.slice a0_1 x0.Ties.length n0_1), (.int .i64 x0.Window)] 25 (0, 0)))] := hs111.drop 2
        have hs205 : HS w0 F0 w110 F9 [(some b105, (.cells #[(.int .i64 r97.1.Lo), (.int .i64 r97.1.Hi)] 38 (0, 0))), (some b92, (.cells #[(.int .i64 r84.1.Lo), (.int .i64 r84.1.Hi)] 38 (0, 0))), (some b53, (.cells #[(.int .i64 r45.1.Lo), (.int .i64 r45.1.Hi)] 38 (0, 0))), (some b40, (.cells #[(.int .i64 r32.1.Lo), (.int .i64 r32.1.Hi)] 38 (0, 0))), (some b1, (.cells #[(.slice a0_0 x0.Tracks.length n0_0), (.slice a0_1 x0.Ties.length n0_1), (.int .i64 x0.Window)] 25 (0, 0)))] := hs204.drop 2
        have hs206 : HS w0 F0 w110 F9 [(some b105, (.cells #[(.int .i64 r97.1.Lo), (.int .i64 r97.1.Hi)] 38 (0, 0))), (some b92, (.cells #[(.int .i64 r84.1.Lo), (.int .i64 r84.1.Hi)] 38 (0, 0))), (some b40, (.cells #[(.int .i64 r32.1.Lo), (.int .i64 r32.1.Hi)] 38 (0, 0))), (some b1, (.cells #[(.slice a0_0 x0.Tracks.length n0_0), (.slice a0_1 x0.Ties.length n0_1), (.int .i64 x0.Window)] 25 (0, 0)))] := hs205.drop 2
        exact RWP.nil ⟨rfl, F9, hs206, (Mem.le.refl _), e113, e114, e115, e116, e122, e124, (congrArg Value.bool (or_f hb195 (or_f hb199 (or_t hb203 (rfl)))))⟩
       ·refine Vg 122 0 23 false 121 hb203 (fa 38 14 1 1 1 b66 0 1 e119) ?_
        refine Vg 123 3 23 false 121 hb203 (ld 3 122 b66 1 false 1 (.int .i64 r58.1.Hi) (hs111.ownAt (k := 3) rfl)) ?_
        refine Vg 124 0 23 false 121 hb203 (fa 38 10 1 1 1 b40 0 1 e116) ?_
        refine Vg 125 3 23 false 121 hb203 (ld 3 124 b40 1 false 1 (.int .i64 r32.1.Hi) (hs111.ownAt (k := 5) rfl)) ?_
        refine Vg 126 0 23 false 121 hb203 (fa 38 12 1 1 1 b53 0 1 e118) ?_
        refine Vg 127 3 23 false 121 hb203 (ld 3 126 b53 1 false 1 (.int .i64 r45.1.Hi) (hs111.ownAt (k := 4) rfl)) ?_
        refine Vg 128 3 23 false 121 hb203 (run_add (t := 3) (t' := 3) (x := (.tmp 125)) (y := (.tmp 127)) (k := .i64) (a := r32.1.Hi) (b := r45.1.Hi) rfl rfl) ?_
        refine Vg 129 4 23 false 121 hb203 (run_gtr (t := 3) (t' := 3) (x := (.tmp 123)) (y := (.tmp 128)) (k := .i64) (a := r58.1.Hi) (b := (W64 (r32.1.Hi + r45.1.Hi))) rfl rfl) ?_
        refine V 130 4 (p0 121 (.const (.bool true)) (.tmp 129) (.bool (decide (r58.1.Hi > (W64 (r32.1.Hi + r45.1.Hi))))) hb203) ?_
        refine V 131 4 (mv 130 (.bool (decide (r58.1.Hi > (W64 (r32.1.Hi + r45.1.Hi)))))) ?_
        refine RWP.split (decide (r58.1.Hi > (W64 (r32.1.Hi + r45.1.Hi)))) (fun hb207 => ?_) (fun hb207 => ?_)
        ·refine Sk [132, 133, 134, 135, 136] 33 false 131 hb207 ?_
         refine V 137 4 (p1 131 (.const (.bool true)) (.tmp 136) (.bool true) hb207) ?_
         have hs208 : HS w0 F0 w110 F9 [(some b105, (.cells #[(.int .i64 r97.1.Lo), (.int .i64 r97.1.Hi)] 38 (0, 0))), (some b92, (.cells #[(.int .i64 r84.1.Lo), (.int .i64 r84.1.Hi)] 38 (0, 0))), (some b66, (.cells #[(.int .i64 r58.1.Lo), (.int .i64 r58.1.Hi)] 38 (0, 0))), (some b53, (.cells #[(.int .i64 r45.1.Lo), (.int .i64 r45.1.Hi)] 38 (0, 0))), (some b40, (.cells #[(.int .i64 r32.1.Lo), (.int .i64 r32.1.Hi)] 38 (0, 0))), (some b1, (.cells #[(.slice a0_0 x0.Tracks.length n0_0), (.slice a0_1 x0.Ties.length n0_1), (.int .i64 x0.Window)] 25 (0, 0)))] := hs111.drop 2
         have hs209 : HS w0 F0 w110 F9 [(some b105, (.cells #[(.int .i64 r97.1.Lo), (.int .i64 r97.1.Hi)] 38 (0, 0))), (some b92, (.cells #[(.int .i64 r84.1.Lo), (.int .i64 r84.1.Hi)] 38 (0, 0))), (some b53, (.cells #[(.int .i64 r45.1.Lo), (.int .i64 r45.1.Hi)] 38 (0, 0))), (some b40, (.cells #[(.int .i64 r32.1.Lo), (.int .i64 r32.1.Hi)] 38 (0, 0))), (some b1, (.cells #[(.slice a0_0 x0.Tracks.length n0_0), (.slice a0_1 x0.Ties.length n0_1), (.int .i64 x0.Window)] 25 (0, 0)))] := hs208.drop 2
         have hs210 : HS w0 F0 w110 F9 [(some b105, (.cells #[(.int .i64 r97.1.Lo), (.int .i64 r97.1.Hi)] 38 (0, 0))), (some b92, (.cells #[(.int .i64 r84.1.Lo), (.int .i64 r84.1.Hi)] 38 (0, 0))), (some b40, (.cells #[(.int .i64 r32.1.Lo), (.int .i64 r32.1.Hi)] 38 (0, 0))), (some b1, (.cells #[(.slice a0_0 x0.Tracks.length n0_0), (.slice a0_1 x0.Ties.length n0_1), (.int .i64 x0.Window)] 25 (0, 0)))] := hs209.drop 2
         exact RWP.nil ⟨rfl, F9, hs210, (Mem.le.refl _), e113, e114, e115, e116, e122, e124, (congrArg Value.bool (or_f hb195 (or_f hb199 (or_f hb203 (or_t hb207 (rfl))))))⟩
        ·refine Vg 132 0 33 false 131 hb207 (fa 38 10 0 0 1 b40 0 0 e116) ?_
         refine Vg 133 3 33 false 131 hb207 (ld 3 132 b40 0 false 1 (.int .i64 r32.1.Lo) (hs111.ownAt (k := 5) rfl)) ?_
         refine Vg 134 0 33 false 131 hb207 (fa 38 10 1 1 1 b40 0 1 e116) ?_
         refine Vg 135 3 33 false 131 hb207 (ld 3 134 b40 1 false 1 (.int .i64 r32.1.Hi) (hs111.ownAt (k := 5) rfl)) ?_
         refine Vg 136 4 33 false 131 hb207 (run_gtr (t := 3) (t' := 3) (x := (.tmp 133)) (y := (.tmp 135)) (k := .i64) (a := r32.1.Lo) (b := r32.1.Hi) rfl rfl) ?_
         refine V 137 4 (p0 131 (.const (.bool true)) (.tmp 136) (.bool (decide (r32.1.Lo > r32.1.Hi))) hb207) ?_
         have hs211 : HS w0 F0 w110 F9 [(some b105, (.cells #[(.int .i64 r97.1.Lo), (.int .i64 r97.1.Hi)] 38 (0, 0))), (some b92, (.cells #[(.int .i64 r84.1.Lo), (.int .i64 r84.1.Hi)] 38 (0, 0))), (some b66, (.cells #[(.int .i64 r58.1.Lo), (.int .i64 r58.1.Hi)] 38 (0, 0))), (some b53, (.cells #[(.int .i64 r45.1.Lo), (.int .i64 r45.1.Hi)] 38 (0, 0))), (some b40, (.cells #[(.int .i64 r32.1.Lo), (.int .i64 r32.1.Hi)] 38 (0, 0))), (some b1, (.cells #[(.slice a0_0 x0.Tracks.length n0_0), (.slice a0_1 x0.Ties.length n0_1), (.int .i64 x0.Window)] 25 (0, 0)))] := hs111.drop 2
         have hs212 : HS w0 F0 w110 F9 [(some b105, (.cells #[(.int .i64 r97.1.Lo), (.int .i64 r97.1.Hi)] 38 (0, 0))), (some b92, (.cells #[(.int .i64 r84.1.Lo), (.int .i64 r84.1.Hi)] 38 (0, 0))), (some b53, (.cells #[(.int .i64 r45.1.Lo), (.int .i64 r45.1.Hi)] 38 (0, 0))), (some b40, (.cells #[(.int .i64 r32.1.Lo), (.int .i64 r32.1.Hi)] 38 (0, 0))), (some b1, (.cells #[(.slice a0_0 x0.Tracks.length n0_0), (.slice a0_1 x0.Ties.length n0_1), (.int .i64 x0.Window)] 25 (0, 0)))] := hs211.drop 2
         have hs213 : HS w0 F0 w110 F9 [(some b105, (.cells #[(.int .i64 r97.1.Lo), (.int .i64 r97.1.Hi)] 38 (0, 0))), (some b92, (.cells #[(.int .i64 r84.1.Lo), (.int .i64 r84.1.Hi)] 38 (0, 0))), (some b40, (.cells #[(.int .i64 r32.1.Lo), (.int .i64 r32.1.Hi)] 38 (0, 0))), (some b1, (.cells #[(.slice a0_0 x0.Tracks.length n0_0), (.slice a0_1 x0.Ties.length n0_1), (.int .i64 x0.Window)] 25 (0, 0)))] := hs212.drop 2
         exact RWP.nil ⟨rfl, F9, hs213, (Mem.le.refl _), e113, e114, e115, e116, e122, e124, (congrArg Value.bool (or_f hb195 (or_f hb199 (or_f hb203 (or_f hb207 (rfl))))))⟩
    ·rintro f w185 ⟨F11, hs186, le187, e188, e189, e190, e191, e192, e193, e194⟩
     refine thenQ_nrm ?_
     refine CWP.cond (t := ((r71.2 != 0) || ((!((r71.1.Lo == (W64 (0 - r32.1.Hi))) && ((r71.1.Hi == (W64 (0 - r32.1.Lo))) && true))) || ((decide (r58.1.Lo < (W64 (r32.1.Lo + r45.1.Lo)))) || ((decide (r58.1.Hi > (W64 (r32.1.Hi + r45.1.Hi)))) || (decide (r32.1.Lo > r32.1.Hi))))))) (by kernel_rfl) e194 (fun hb214 => ?_) (fun hb214 => ?_)
     ·have h215 := cond_t h184 hb214
      refine Sq (Rg [0] ?_)
      refine V 8 4 (mc (.bool false) (.bool false)) ?_
      refine Nt ?_
      refine CWP.ret (by kernel_rfl) ?_
      refine thenQ_ret ?_
      have hfin := some_inj h215
      subst hfin
      exact ⟨e188, (.bool false), res_of (l := [.tmp 8]) (by kernel_rfl) (vs := [(.bool false)]) ⟨rfl, trivial⟩, (.bool false), F11, rfl, hs186.clear, rfl⟩
     ·have h216 := cond_f h184 hb214
      refine Sc ?_
      refine thenQ_nrm ?_
      refine Sq ?_
      refine Sq (Rg [0, 1, 2, 3, 4, 5, 6, 7, 8, 9, 10, 11, 12, 13, 14, 15, 16, 17, 18, 19, 20, 21, 22, 23, 24, 25, 26, 27, 28, 29, 30, 31, 32, 33, 34, 35, 36, 37] ?_)
      refine RWP.cut (fun f w => ∃ (F12 : Mem), HS w0 F0 w F12 [(some b1, (.cells #[(.slice a0_0 x0.Tracks.length n0_0), (.slice a0_1 x0.Ties.length n0_1), (.int .i64 x0.Window)] 25 (0, 0)))] ∧ Mem.le F11 F12 ∧ f.d = [] ∧ f 4 = (.pointer (some ⟨b1, 0, none⟩)) ∧ f 9 = (.bool r13) ∧ f 175 = (.bool ((decide (r32.1.Lo < (W64 (r97.1.Lo - r84.1.Hi)))) || ((decide (r32.1.Hi > (W64 (r97.1.Hi - r84.1.Lo)))) || ((decide ((W64 (r84.1.Hi + r32.1.Lo)) > r97.1.Hi)) || (decide ((W64 (r84.1.Lo + r32.1.Hi)) < r97.1.Lo))))))) ?_ ?_
      ·refine V 138 0 (fa 38 10 0 0 1 b40 0 0 e191) ?_
       refine V 139 3 (ld 3 138 b40 0 false 1 (.int .i64 r32.1.Lo) (hs186.ownAt (k := 2) rfl)) ?_
       refine V 140 0 (fa 38 20 0 0 1 b105 0 0 e193) ?_
       refine V 141 3 (ld 3 140 b105 0 false 1 (.int .i64 r97.1.Lo) (hs186.ownAt (k := 0) rfl)) ?_
       refine V 142 0 (fa 38 18 1 1 1 b92 0 1 e192) ?_
       refine V 143 3 (ld 3 142 b92 1 false 1 (.int .i64 r84.1.Hi) (hs186.ownAt (k := 1) rfl)) ?_
       refine V 144 3 (run_sub (t := 3) (t' := 3) (x := (.tmp 141)) (y := (.tmp 143)) (k := .i64) (a := r97.1.Lo) (b := r84.1.Hi) rfl rfl) ?_
       refine V 145 4 (run_lss (t := 3) (t' := 3) (x := (.tmp 139)) (y := (.tmp 144)) (k := .i64) (a := r32.1.Lo) (b := (W64 (r97.1.Lo - r84.1.Hi))) rfl rfl) ?_
       refine V 146 4 (mv 145 (.bool (decide (r32.1.Lo < (W64 (r97.1.Lo - r84.1.Hi)))))) ?_
       refine RWP.split (decide (r32.1.Lo < (W64 (r97.1.Lo - r84.1.Hi)))) (fun hb224 => ?_) (fun hb224 => ?_)
       ·refine Sk [147, 148, 149, 150, 151, 152, 153, 154] 8 false 146 hb224 ?_
        refine V 155 4 (p1 146 (.const (.bool true)) (.tmp 154) (.bool true) hb224) ?_
        refine V 156 4 (mv 155 (.bool true)) ?_
        refine Sk [157, 158, 159, 160, 161, 162, 163, 164] 18 false 156 rfl ?_
        refine V 165 4 (p1 156 (.const (.bool true)) (.tmp 164) (.bool true) rfl) ?_
        refine V 166 4 (mv 165 (.bool true)) ?_
        refine Sk [167, 168, 169, 170, 171, 172, 173, 174] 28 false 166 rfl ?_
        refine V 175 4 (p1 166 (.const (.bool true)) (.tmp 174) (.bool true) rfl) ?_
        have hs225 : HS w0 F0 w185 F11 [(some b92, (.cells #[(.int .i64 r84.1.Lo), (.int .i64 r84.1.Hi)] 38 (0, 0))), (some b40, (.cells #[(.int .i64 r32.1.Lo), (.int .i64 r32.1.Hi)] 38 (0, 0))), (some b1, (.cells #[(.slice a0_0 x0.Tracks.length n0_0), (.slice a0_1 x0.Ties.length n0_1), (.int .i64 x0.Window)] 25 (0, 0)))] := hs186.drop 0
        have hs226 : HS w0 F0 w185 F11 [(some b40, (.cells #[(.int .i64 r32.1.Lo), (.int .i64 r32.1.Hi)] 38 (0, 0))), (some b1, (.cells #[(.slice a0_0 x0.Tracks.length n0_0), (.slice a0_1 x0.Ties.length n0_1), (.int .i64 x0.Window)] 25 (0, 0)))] := hs225.drop 0
        have hs227 : HS w0 F0 w185 F11 [(some b1, (.cells #[(.slice a0_0 x0.Tracks.length n0_0), (.slice a0_1 x0.Ties.length n0_1), (.int .i64 x0.Window)] 25 (0, 0)))] := hs226.drop 0
        exact RWP.nil ⟨rfl, F11, hs227, (Mem.le.refl _), e188, e189, e190, (congrArg Value.bool (or_t hb224 (rfl)))⟩
       ·refine Vg 147 0 8 false 146 hb224 (fa 38 10 1 1 1 b40 0 1 e191) ?_
        refine Vg 148 3 8 false 146 hb224 (ld 3 147 b40 1 false 1 (.int .i64 r32.1.Hi) (hs186.ownAt (k := 2) rfl)) ?_
        refine Vg 149 0 8 false 146 hb224 (fa 38 20 1 1 1 b105 0 1 e193) ?_
        refine Vg 150 3 8 false 146 hb224 (ld 3 149 b105 1 false 1 (.int .i64 r97.1.Hi) (hs186.ownAt (k := 0) rfl)) ?_
        refine Vg 151 0 8 false 146 hb224 (fa 38 18 0 0 1 b92 0 0 e192) ?_
        refine Vg 152 3 8 false 146 hb224 (ld 3 151 b92 0 false 1 (.int .i64 r84.1.Lo) (hs186.ownAt (k := 1) rfl)) ?_
        refine Vg 153 3 8 false 146 hb224 (run_sub (t := 3) (t' := 3) (x := (.tmp 150)) (y := (.tmp 152)) (k := .i64) (a := r97.1.Hi) (b := r84.1.Lo) rfl rfl) ?_
        refine Vg 154 4 8 false 146 hb224 (run_gtr (t := 3) (t' := 3) (x := (.tmp 148)) (y := (.tmp 153)) (k := .i64) (a := r32.1.Hi) (b := (W64 (r97.1.Hi - r84.1.Lo))) rfl rfl) ?_
        refine V 155 4 (p0 146 (.const (.bool true)) (.tmp 154) (.bool (decide (r32.1.Hi > (W64 (r97.1.Hi - r84.1.Lo))))) hb224) ?_
        refine V 156 4 (mv 155 (.bool (decide (r32.1.Hi > (W64 (r97.1.Hi - r84.1.Lo)))))) ?_
        refine RWP.split (decide (r32.1.Hi > (W64 (r97.1.Hi - r84.1.Lo)))) (fun hb228 => ?_) (fun hb228 => ?_)
        ·refine Sk [157, 158, 159, 160, 161, 162, 163, 164] 18 false 156 hb228 ?_
         refine V 165 4 (p1 156 (.const (.bool true)) (.tmp 164) (.bool true) hb228) ?_
         refine V 166 4 (mv 165 (.bool true)) ?_
         refine Sk [167, 168, 169, 170, 171, 172, 173, 174] 28 false 166 rfl ?_
         refine V 175 4 (p1 166 (.const (.bool true)) (.tmp 174) (.bool true) rfl) ?_
         have hs229 : HS w0 F0 w185 F11 [(some b92, (.cells #[(.int .i64 r84.1.Lo), (.int .i64 r84.1.Hi)] 38 (0, 0))), (some b40, (.cells #[(.int .i64 r32.1.Lo), (.int .i64 r32.1.Hi)] 38 (0, 0))), (some b1, (.cells #[(.slice a0_0 x0.Tracks.length n0_0), (.slice a0_1 x0.Ties.length n0_1), (.int .i64 x0.Window)] 25 (0, 0)))] := hs186.drop 0
         have hs230 : HS w0 F0 w185 F11 [(some b40, (.cells #[(.int .i64 r32.1.Lo), (.int .i64 r32.1.Hi)] 38 (0, 0))), (some b1, (.cells #[(.slice a0_0 x0.Tracks.length n0_0), (.slice a0_1 x0.Ties.length n0_1), (.int .i64 x0.Window)] 25 (0, 0)))] := hs229.drop 0
         have hs231 : HS w0 F0 w185 F11 [(some b1, (.cells #[(.slice a0_0 x0.Tracks.length n0_0), (.slice a0_1 x0.Ties.length n0_1), (.int .i64 x0.Window)] 25 (0, 0)))] := hs230.drop 0
         exact RWP.nil ⟨rfl, F11, hs231, (Mem.le.refl _), e188, e189, e190, (congrArg Value.bool (or_f hb224 (or_t hb228 (rfl))))⟩
        ·refine Vg 157 0 18 false 156 hb228 (fa 38 18 1 1 1 b92 0 1 e192) ?_
         refine Vg 158 3 18 false 156 hb228 (ld 3 157 b92 1 false 1 (.int .i64 r84.1.Hi) (hs186.ownAt (k := 1) rfl)) ?_
         refine Vg 159 0 18 false 156 hb228 (fa 38 10 0 0 1 b40 0 0 e191) ?_
         refine Vg 160 3 18 false 156 hb228 (ld 3 159 b40 0 false 1 (.int .i64 r32.1.Lo) (hs186.ownAt (k := 2) rfl)) ?_
         refine Vg 161 3 18 false 156 hb228 (run_add (t := 3) (t' := 3) (x := (.tmp 158)) (y := (.tmp 160)) (k := .i64) (a := r84.1.Hi) (b := r32.1.Lo) rfl rfl) ?_
         refine Vg 162 0 18 false 156 hb228 (fa 38 20 1 1 1 b105 0 1 e193) ?_
         refine Vg 163 3 18 false 156 hb228 (ld 3 162 b105 1 false 1 (.int .i64 r97.1.Hi) (hs186.ownAt (k := 0) rfl)) ?_
         refine Vg 164 4 18 false 156 hb228 (run_gtr (t := 3) (t' := 3) (x := (.tmp 161)) (y := (.tmp 163)) (k := .i64) (a := (W64 (r84.1.Hi + r32.1.Lo))) (b := r97.1.Hi) rfl rfl) ?_
         refine V 165 4 (p0 156 (.const (.bool true)) (.tmp 164) (.bool (decide ((W64 (r84.1.Hi + r32.1.Lo)) > r97.1.Hi))) hb228) ?_
         refine V 166 4 (mv 165 (.bool (decide ((W64 (r84.1.Hi + r32.1.Lo)) > r97.1.Hi)))) ?_
         refine RWP.split (decide ((W64 (r84.1.Hi + r32.1.Lo)) > r97.1.Hi)) (fun hb232 => ?_) (fun hb232 => ?_)
         ·refine Sk [167, 168, 169, 170, 171, 172, 173, 174] 28 false 166 hb232 ?_
          refine V 175 4 (p1 166 (.const (.bool true)) (.tmp 174) (.bool true) hb232) ?_
          have hs233 : HS w0 F0 w185 F11 [(some b92, (.cells #[(.int .i64 r84.1.Lo), (.int .i64 r84.1.Hi)] 38 (0, 0))), (some b40, (.cells #[(.int .i64 r32.1.Lo), (.int .i64 r32.1.Hi)] 38 (0, 0))), (some b1, (.cells #[(.slice a0_0 x0.Tracks.length n0_0), (.slice a0_1 x0.Ties.length n0_1), (.int .i64 x0.Window)] 25 (0, 0)))] := hs186.drop 0
          have hs234 : HS w0 F0 w185 F11 [(some b40, (.cells #[(.int .i64 r32.1.Lo), (.int .i64 r32.1.Hi)] 38 (0, 0))), (some b1, (.cells #[(.slice a0_0 x0.Tracks.length n0_0), (.slice a0_1 x0.Ties.length n0_1), (.int .i64 x0.Window)] 25 (0, 0)))] := hs233.drop 0
          have hs235 : HS w0 F0 w185 F11 [(some b1, (.cells #[(.slice a0_0 x0.Tracks.length n0_0), (.slice a0_1 x0.Ties.length n0_1), (.int .i64 x0.Window)] 25 (0, 0)))] := hs234.drop 0
          exact RWP.nil ⟨rfl, F11, hs235, (Mem.le.refl _), e188, e189, e190, (congrArg Value.bool (or_f hb224 (or_f hb228 (or_t hb232 (rfl)))))⟩
         ·refine Vg 167 0 28 false 166 hb232 (fa 38 18 0 0 1 b92 0 0 e192) ?_
          refine Vg 168 3 28 false 166 hb232 (ld 3 167 b92 0 false 1 (.int .i64 r84.1.Lo) (hs186.ownAt (k := 1) rfl)) ?_
          refine Vg 169 0 28 false 166 hb232 (fa 38 10 1 1 1 b40 0 1 e191) ?_
          refine Vg 170 3 28 false 166 hb232 (ld 3 169 b40 1 false 1 (.int .i64 r32.1.Hi) (hs186.ownAt (k := 2) rfl)) ?_
          refine Vg 171 3 28 false 166 hb232 (run_add (t := 3) (t' := 3) (x := (.tmp 168)) (y := (.tmp 170)) (k := .i64) (a := r84.1.Lo) (b := r32.1.Hi) rfl rfl) ?_
          refine Vg 172 0 28 false 166 hb232 (fa 38 20 0 0 1 b105 0 0 e193) ?_
          refine Vg 173 3 28 false 166 hb232 (ld 3 172 b105 0 false 1 (.int .i64 r97.1.Lo) (hs186.ownAt (k := 0) rfl)) ?_
          refine Vg 174 4 28 false 166 hb232 (run_lss (t := 3) (t' := 3) (x := (.tmp 171)) (y := (.tmp 173)) (k := .i64) (a := (W64 (r84.1.Lo + r32.1.Hi))) (b := r97.1.Lo) rfl rfl) ?_
          refine V 175 4 (p0 166 (.const (.bool true)) (.tmp 174) (.bool (decide ((W64 (r84.1.Lo + r32.1.Hi)) < r97.1.Lo))) hb232) ?_
          have hs236 : HS w0 F0 w185 F11 [(some b92, (.cells #[(.int .i64 r84.1.Lo), (.int .i64 r84.1.Hi)] 38 (0, 0))), (some b40, (.cells #[(.int .i64 r32.1.Lo), (.int .i64 r32.1.Hi)] 38 (0, 0))), (some b1, (.cells #[(.slice a0_0 x0.Tracks.length n0_0), (.slice a0_1 x0.Ties.length n0_1), (.int .i64 x0.Window)] 25 (0, 0)))] := hs186.drop 0
          have hs237 : HS w0 F0 w185 F11 [(some b40, (.cells #[(.int .i64 r32.1.Lo), (.int .i64 r32.1.Hi)] 38 (0, 0))), (some b1, (.cells #[(.slice a0_0 x0.Tracks.length n0_0), (.slice a0_1 x0.Ties.length n0_1), (.int .i64 x0.Window)] 25 (0, 0)))] := hs236.drop 0
          have hs238 : HS w0 F0 w185 F11 [(some b1, (.cells #[(.slice a0_0 x0.Tracks.length n0_0), (.slice a0_1 x0.Ties.length n0_1), (.int .i64 x0.Window)] 25 (0, 0)))] := hs237.drop 0
          exact RWP.nil ⟨rfl, F11, hs238, (Mem.le.refl _), e188, e189, e190, (congrArg Value.bool (or_f hb224 (or_f hb228 (or_f hb232 (rfl)))))⟩
      ·rintro f w217 ⟨F12, hs218, le219, e220, e221, e222, e223⟩
       refine thenQ_nrm ?_
       refine CWP.cond (t := ((decide (r32.1.Lo < (W64 (r97.1.Lo - r84.1.Hi)))) || ((decide (r32.1.Hi > (W64 (r97.1.Hi - r84.1.Lo)))) || ((decide ((W64 (r84.1.Hi + r32.1.Lo)) > r97.1.Hi)) || (decide ((W64 (r84.1.Lo + r32.1.Hi)) < r97.1.Lo)))))) (by kernel_rfl) e223 (fun hb239 => ?_) (fun hb239 => ?_)
       ·have h240 := cond_t h216 hb239
        refine Sq (Rg [0] ?_)
        refine V 8 4 (mc (.bool false) (.bool false)) ?_
        refine Nt ?_
        refine CWP.ret (by kernel_rfl) ?_
        refine thenQ_ret ?_
        have hfin := some_inj h240
        subst hfin
        exact ⟨e220, (.bool false), res_of (l := [.tmp 8]) (by kernel_rfl) (vs := [(.bool false)]) ⟨rfl, trivial⟩, (.bool false), F12, rfl, hs218.clear, rfl⟩
       ·have h241 := cond_f h216 hb239
        refine Sc ?_
        refine thenQ_nrm ?_
        refine Sq ?_
        refine Sq (Rg [0] ?_)
        refine V 22 3 (mc (.int .i64 0) (.int .i64 0)) ?_
        refine Nt ?_
        obtain ⟨o242, ho243, h244⟩ := bind_some h241
        refine CWP.cut (fun f w => ∃ (s253 : Int) (F14 : Mem), o242 = .done s253 ∧ HS w0 F0 w F14 [] ∧ Mem.le F12 F14 ∧ f.d = [] ∧ f 9 = (.bool r13)) ?_ ?_
        ·refine Bk ?_
         refine CWP.loop (by kernel_rfl) (fun m f w => ∃ (s245 : Int) (F13 : Mem), iter (law03_ClocksTriangle_L0 N x0 x1 x2 x3 r13 r21 r32 r45 r58 r71 r84 r97) m s245 = some o242 ∧ HS w0 F0 w F13 [(some b1, (.cells #[(.slice a0_0 x0.Tracks.length n0_0), (.slice a0_1 x0.Ties.length n0_1), (.int .i64 x0.Window)] 25 (0, 0)))] ∧ Mem.le F12 F13 ∧ f.d = [] ∧ f 4 = (.pointer (some ⟨b1, 0, none⟩)) ∧ f 9 = (.bool r13) ∧ f 22 = (.int .i64 s245)) N ⟨0, F12, ho243, hs218, (Mem.le.refl _), e220, e221, e222, rfl⟩ ?_
         rintro m259 f w246 ⟨s245, F13, hit260, hs247, le248, e249, e250, e251, e252⟩
         obtain ⟨m261, fl262, rfl, hb263, hnx264⟩ := iter_step hit260
         refine Sq ?_
         refine Sq (Rg [0, 1, 2, 3, 4] ?_)
         refine V 176 3 (mv 22 (.int .i64 s245) e252) ?_
         refine V 177 0 (fa 25 4 1 1 1 b1 0 1 e250) ?_
         refine V 178 23 (ld 23 177 b1 1 false 1 (.slice a0_1 x0.Ties.length n0_1) (hs247.ownAt (k := 0) rfl)) ?_
         refine V 179 3 (ln 178 23 a0_1 x0.Ties.length n0_1 46 4 32) ?_
         refine V 180 4 (run_lss (t := 3) (t' := 3) (x := (.tmp 176)) (y := (.tmp 179)) (k := .i64) (a := s245) (b := (x0.Ties.length : Int)) rfl rfl) ?_
         refine Nt ?_
         refine CWP.cond (t := (decide (s245 < (x0.Ties.length : Int)))) (by kernel_rfl) rfl (fun hb265 => ?_) (fun hb265 => ?_)
         ·have h266 := cond_t hb263 hb265
          refine Sc ?_
          refine thenQ_nrm ?_
          refine Sq ?_
          refine Bk ?_
          refine Sq ?_
          obtain ⟨j272, hj279, h280⟩ := bind_some h266
          refine CWP.regionD (by kernel_rfl) (by kernel_rfl) (by kernel_rfl) (by kernel_rfl) (z := 19) (F := F13) (Lc := [(some b1, (.cells #[(.slice a0_0 x0.Tracks.length n0_0), (.slice a0_1 x0.Ties.length n0_1), (.int .i64 x0.Window)] 25 (0, 0)))]) (Lz := []) (l := [false, false, false, false, false, false, false, false, false, false, false, false, false, false, false, false, false, false, false]) (fuel := 19) (by kernel_rfl) (by kernel_rfl) hs247 (by simp) (by simp) (fun f w => ∃ (F15 : Mem), HS w0 F0 w F15 [(some b1, (.cells #[(.slice a0_0 x0.Tracks.length n0_0), (.slice a0_1 x0.Ties.length n0_1), (.int .i64 x0.Window)] 25 (0, 0)))] ∧ Mem.le F13 F15 ∧ f.d = [] ∧ f 4 = (.pointer (some ⟨b1, 0, none⟩)) ∧ f 9 = (.bool r13) ∧ f 22 = (.int .i64 s245) ∧ f 23 = (.bool j272.1) ∧ f 24 = (.int .i64 j272.2)) (fun wd267 hw268 => ?_) ?_
          ·refine Dtl 0 184 25 _ [tt, ff, ff, ff, ff, ff, ff, ff, ff, ff, ff, ff, ff, ff, ff, ff, ff, ff, ff] (fun _ hq => ld 25 4 b1 0 true 3 (.agg #[(.slice a0_0 x0.Tracks.length n0_0), (.slice a0_1 x0.Ties.length n0_1), (.int .i64 x0.Window)]) (hq.1.2 0 _ _ rfl) e250) ?_
           refine Dtl 1 185 0 (.pointer (some ⟨b1, 1, none⟩)) [tt, tt, ff, ff, ff, ff, ff, ff, ff, ff, ff, ff, ff, ff, ff, ff, ff, ff, ff] (fun _ hq => fa 25 4 1 1 1 b1 0 1 e250) ?_
           refine Dtl 2 186 23 _ [tt, tt, tt, ff, ff, ff, ff, ff, ff, ff, ff, ff, ff, ff, ff, ff, ff, ff, ff] (fun _ hq => ld 23 185 b1 1 false 1 (.slice a0_1 x0.Ties.length n0_1) (hq.1.2 0 _ _ rfl)) ?_
           refine Dtl 3 187 3 _ [tt, tt, tt, tt, ff, ff, ff, ff, ff, ff, ff, ff, ff, ff, ff, ff, ff, ff, ff] (fun _ hq => mv 22 (.int .i64 s245) e252) ?_
           obtain ⟨x281, hx282, h284⟩ := bind_some hj279
           obtain ⟨hi283, hx282'⟩ := idx_spec hx282
           obtain ⟨b285, o286, C287, E288, fz289, rfl, hF291, hE292⟩ := SlA.open (SlA.mono hs0_1 (((((((((((le19.trans le27).trans le38).trans le51).trans le64).trans le77).trans le90).trans le103).trans le112).trans le187).trans le219).trans le248)) hx282'
           have hc294 := hE292 _ _ hx282'
           refine Dtl 4 188 0 (.pointer (some ⟨b285, (o286 + (s245 : Int).toNat * 4), none⟩)) [tt, tt, tt, tt, tt, ff, ff, ff, ff, ff, ff, ff, ff, ff, ff, ff, ff, ff, ff] (fun _ hq => ix 23 186 187 b285 o286 46 4 32 hi283) ?_
           refine Dtl 5 189 0 (.pointer (some ⟨b285, (o286 + (s245 : Int).toNat * 4), none⟩)) [tt, tt, tt, tt, tt, tt, ff, ff, ff, ff, ff, ff, ff, ff, ff, ff, ff, ff, ff] (fun _ hq => fa 46 188 0 0 2 b285 (o286 + (s245 : Int).toNat * 4) (o286 + (s245 : Int).toNat * 4)) ?_
           refine Dtl 6 190 27 _ [tt, tt, tt, tt, tt, tt, tt, ff, ff, ff, ff, ff, ff, ff, ff, ff, ff, ff, ff] (fun _ hq => lx 27 189 0 4 true 2 (.agg #[(.int .i64 x281.A.Log), (.int .i64 x281.A.Line)]) (hq.1.1 _ _ hF291) hc294) ?_
           refine Dtl 7 191 0 (.pointer (some ⟨b1, 1, none⟩)) [tt, tt, tt, tt, tt, tt, tt, tt, ff, ff, ff, ff, ff, ff, ff, ff, ff, ff, ff] (fun _ hq => fa 25 4 1 1 1 b1 0 1 e250) ?_
           refine Dtl 8 192 23 _ [tt, tt, tt, tt, tt, tt, tt, tt, tt, ff, ff, ff, ff, ff, ff, ff, ff, ff, ff] (fun _ hq => ld 23 191 b1 1 false 1 (.slice (some ⟨b285, o286, none⟩) x0.Ties.length n0_1) (hq.1.2 0 _ _ rfl)) ?_
           refine Dtl 9 193 3 _ [tt, tt, tt, tt, tt, tt, tt, tt, tt, tt, ff, ff, ff, ff, ff, ff, ff, ff, ff] (fun _ hq => mv 22 (.int .i64 s245) e252) ?_
           obtain ⟨x295, hx296, h298⟩ := bind_some h284
           obtain ⟨hi297, hx296'⟩ := idx_spec hx296
           have hc300 := hE292 _ _ hx296'
           refine Dtl 10 194 0 (.pointer (some ⟨b285, (o286 + (s245 : Int).toNat * 4), none⟩)) [tt, tt, tt, tt, tt, tt, tt, tt, tt, tt, tt, ff, ff, ff, ff, ff, ff, ff, ff] (fun _ hq => ix 23 192 193 b285 o286 46 4 32 hi297) ?_
           refine Dtl 11 195 0 (.pointer (some ⟨b285, ((o286 + (s245 : Int).toNat * 4) + 2), none⟩)) [tt, tt, tt, tt, tt, tt, tt, tt, tt, tt, tt, tt, ff, ff, ff, ff, ff, ff, ff] (fun _ hq => fa 46 194 1 2 2 b285 (o286 + (s245 : Int).toNat * 4) ((o286 + (s245 : Int).toNat * 4) + 2)) ?_
           refine Dtl 12 196 27 _ [tt, tt, tt, tt, tt, tt, tt, tt, tt, tt, tt, tt, tt, ff, ff, ff, ff, ff, ff] (fun _ hq => lx 27 195 2 4 true 2 (.agg #[(.int .i64 x295.B.Log), (.int .i64 x295.B.Line)]) (hq.1.1 _ _ hF291) hc300) ?_
           refine DWP.one (i := 13) (by kernel_rfl) ?_
           obtain ⟨r301, hr302, h303⟩ := bind_some h298
           refine DStep.call (l' := [true, true, true, true, true, true, true, true, true, true, true, true, true, true, false, false, false, false, false]) (zd := true) (by kernel_rfl) (by kernel_rfl) (by kernel_rfl) (dst := (some 197)) (ty := 43) (g := none) (by kernel_rfl) rfl (f0 := (.func 22)) (aos := #[(.tmp 184), (.tmp 190), (.tmp 196)]) (ats := #[25, 27, 27]) (fid := 22) (first := #[]) (cap := #[]) (args := [(.agg #[(.slice a0_0 x0.Tracks.length n0_0), (.slice (some ⟨b285, o286, none⟩) x0.Ties.length n0_1), (.int .i64 x0.Window)]), (.agg #[(.int .i64 x281.A.Log), (.int .i64 x281.A.Line)]), (.agg #[(.int .i64 x295.B.Log), (.int .i64 x295.B.Line)])]) rfl co_clocks_Must (rfl) hw268 (c_clocks_Must N wd267 F13 hw268.pers (x0) a0_0 n0_0 hb0_0 (SlA.mono hs0_0 (((((((((((le19.trans le27).trans le38).trans le51).trans le64).trans le77).trans le90).trans le103).trans le112).trans le187).trans le219).trans le248)) (some ⟨b285, o286, none⟩) n0_1 hb0_1 (SlA.mono hs0_1 (((((((((((le19.trans le27).trans le38).trans le51).trans le64).trans le77).trans le90).trans le103).trans le112).trans le187).trans le219).trans le248)) (x281.A) (x295.B) _ hr302) ?_
           intro v304 F16 w305 hs306 le307 hp308
           obtain rfl := hp308
           refine Dtl 14 183 43 _ [tt, tt, tt, tt, tt, tt, tt, tt, tt, tt, tt, tt, tt, tt, tt, ff, ff, ff, ff] (fun _ hq => mv 197 (.tuple #[(.bool r301.1), (.int .i64 r301.2)])) ?_
           refine Dtl 15 198 4 _ [tt, tt, tt, tt, tt, tt, tt, tt, tt, tt, tt, tt, tt, tt, tt, tt, ff, ff, ff] (fun _ hq => ex 183 0 (.bool r301.1) (vs := #[(.bool r301.1), (.int .i64 r301.2)])) ?_
           refine Dtl 16 199 30 _ [tt, tt, tt, tt, tt, tt, tt, tt, tt, tt, tt, tt, tt, tt, tt, tt, tt, ff, ff] (fun _ hq => ex 183 1 (.int .i64 r301.2) (vs := #[(.bool r301.1), (.int .i64 r301.2)])) ?_
           refine Dtl 17 23 4 _ [tt, tt, tt, tt, tt, tt, tt, tt, tt, tt, tt, tt, tt, tt, tt, tt, tt, tt, ff] (fun _ hq => ma 198 (.bool r301.1)) ?_
           refine Dtl 18 24 30 _ [tt, tt, tt, tt, tt, tt, tt, tt, tt, tt, tt, tt, tt, tt, tt, tt, tt, tt, tt] (fun _ hq => ma 199 (.int .i64 r301.2)) ?_
           obtain rfl := some_inj h303
           exact DWP.done (by kernel_rfl) ⟨F16, hs306, le307, e249, e250, e251, e252, rfl, rfl⟩
          ·rintro f w269 ⟨F15, hs270, le271, e273, e274, e275, e276, e277, e278⟩
           refine thenQ_nrm ?_
           refine Sq (Rg [0, 1, 2, 3, 4, 5] ?_)
           refine RWP.cut (fun f w => ∃ (F17 : Mem), HS w0 F0 w F17 [(some b1, (.cells #[(.slice a0_0 x0.Tracks.length n0_0), (.slice a0_1 x0.Ties.length n0_1), (.int .i64 x0.Window)] 25 (0, 0)))] ∧ Mem.le F15 F17 ∧ f.d = [] ∧ f 4 = (.pointer (some ⟨b1, 0, none⟩)) ∧ f 9 = (.bool r13) ∧ f 22 = (.int .i64 s245) ∧ f 205 = (.bool ((!j272.1) || (j272.2 != 0)))) ?_ ?_
           ·refine V 200 4 (mv 23 (.bool j272.1) e277) ?_
            refine V 201 4 (run_not (t := 4) (x := (.tmp 200)) (a := j272.1) rfl) ?_
            refine V 202 4 (mv 201 (.bool (!j272.1))) ?_
            refine RWP.split (!j272.1) (fun hb317 => ?_) (fun hb317 => ?_)
            ·refine Sk [203, 204] 2 false 202 hb317 ?_
             refine V 205 4 (p1 202 (.const (.bool true)) (.tmp 204) (.bool true) hb317) ?_
             exact RWP.nil ⟨rfl, F15, hs270, (Mem.le.refl _), e273, e274, e275, e276, (congrArg Value.bool (or_t hb317 (rfl)))⟩
            ·refine Vg 203 30 2 false 202 hb317 (mv 24 (.int .i64 j272.2) e278) ?_
             refine Vg 204 4 2 false 202 hb317 (run_neq (t := 30) (t' := 30) (x := (.tmp 203)) (y := (.const (.int .i64 0))) (k := .i64) (a := j272.2) (b := 0) rfl rfl) ?_
             refine V 205 4 (p0 202 (.const (.bool true)) (.tmp 204) (.bool (j272.2 != 0)) hb317) ?_
             exact RWP.nil ⟨rfl, F15, hs270, (Mem.le.refl _), e273, e274, e275, e276, (congrArg Value.bool (or_f hb317 (rfl)))⟩
           ·rintro f w309 ⟨F17, hs310, le311, e312, e313, e314, e315, e316⟩
            refine thenQ_nrm ?_
            refine CWP.cond (t := ((!j272.1) || (j272.2 != 0))) (by kernel_rfl) e316 (fun hb318 => ?_) (fun hb318 => ?_)
            ·have h319 := cond_t h280 hb318
             refine Sq (Rg [0] ?_)
             refine V 8 4 (mc (.bool false) (.bool false)) ?_
             refine Nt ?_
             refine CWP.ret (by kernel_rfl) ?_
             refine blockQ_ret ?_
             refine thenQ_ret ?_
             refine thenQ_ret ?_
             refine blockQ_ret ?_
             have hret := iter_ret h319 hnx264
             subst hret
             refine .inr ?_
             refine thenQ_ret ?_
             have hfin := some_inj h244
             subst hfin
             exact ⟨e312, (.bool false), res_of (l := [.tmp 8]) (by kernel_rfl) (vs := [(.bool false)]) ⟨rfl, trivial⟩, (.bool false), F17, rfl, hs310.clear, rfl⟩
            ·have h320 := cond_f h280 hb318
             refine Sc ?_
             refine blockQ_nrm ?_
             refine thenQ_nrm ?_
             refine Rg [0, 1, 2] ?_
             refine V 181 3 (mv 22 (.int .i64 s245) e315) ?_
             refine V 182 3 (run_add (t := 3) (t' := 3) (x := (.tmp 181)) (y := (.const (.int .i64 1))) (k := .i64) (a := s245) (b := 1) rfl rfl) ?_
             refine V 22 3 (ma 182 (.int .i64 (W64 (s245 + 1)))) ?_
             refine RWP.nil ?_
             have hn321 := iter_next h320 hnx264
             exact ⟨m261, Nat.lt_succ_self _, (W64 (s245 + 1)), F17, hn321, hs310, ((le248.trans le271).trans le311), e312, e313, e314, rfl⟩
         ·have h322 := cond_f hb263 hb265
          refine CWP.exit (by kernel_rfl) ?_
          refine thenQ_ex ?_
          refine thenQ_ex ?_
          refine blockQ_hit rfl ?_
          have hs323 : HS w0 F0 w246 F13 [] := hs247.drop 0
          have ho324 := iter_done h322 hnx264
          exact .inl ⟨rfl, s245, F13, ho324, hs323, le248, e249, e251⟩
        ·rintro f w254 ⟨s253, F14, rfl, hs255, le256, e257, e258⟩
         have h325 := k_done h244
         refine thenQ_nrm ?_
         refine Sq (Rg [0, 1] ?_)
         refine V 206 4 (mv 9 (.bool r13) e258) ?_
         refine V 8 4 (ma 206 (.bool r13)) ?_
         refine Nt ?_
         refine CWP.ret (by kernel_rfl) ?_
         have hfin := some_inj h325
         subst hfin
         exact ⟨e257, (.bool r13), res_of (l := [.tmp 8]) (by kernel_rfl) (vs := [(.bool r13)]) ⟨rfl, trivial⟩, (.bool r13), F14, rfl, hs255.clear, rfl⟩
end Go.Proofs.Ythbcnabeabcmlaa
namespace Go.Proofs.Ythbcnabeabcmlaa
theorem triangle_true {N : Nat} {s : System} (hN : 1000000 ≤ N) (hf : FitS N s) (a b c : Ref) : law03_ClocksTriangle N s a b c = some true := by
  unfold law03_ClocksTriangle
  obtain ⟨fw, hfw⟩ := few_some hf
  rw [awake_at (by omega), hfw]
  simp only [Option.bind_some, Relation_c hN hf, Interval_c hN hf]
  cases fw with
  | false => rfl
  | true =>
    simp only [Bool.not_true, cond_false, rel_code, int_code]
    by_cases hab : ask s [a, b] = 0
    · have hba : ask s [b, a] = 0 := by rw [← ask_swap]; exact hab
      obtain ⟨h, hr, hc⟩ := ask_zero hab
      have ha := hr a (by simp)
      have hb := hr b (by simp)
      have ea : ask s [a] = 0 := ask_of h (fun r hr => by simp at hr; subst hr; exact ha) hc
      have eb : ask s [b] = 0 := ask_of h (fun r hr => by simp at hr; subst hr; exact hb) hc
      by_cases hbc : ask s [b, c] = 0
      · obtain ⟨_, hr2, _⟩ := ask_zero hbc
        have hcc := hr2 c (by simp)
        have hac : ask s [a, c] = 0 := ask_of h (fun r hr => by simp at hr; rcases hr with rfl | rfl <;> assumption) hc
        rw [rel_val hab, rel_val hbc, rel_val hac, rel_val hba, int_val ea, int_val eb, hab, hbc, hac, hba]
        have na : Nd s a := .inr ha
        have nb : Nd s b := .inr hb
        have nc : Nd s c := .inr hcc
        have ng := nd_beg s
        have t1 := dd_tri h hc nc nb na
        have t2 := dd_tri h hc na nb nc
        have t3 := dd_tri h hc na nb na
        rw [dd_self hc] at t3
        have t4 := dd_tri h hc nb ng na
        have t5 := dd_tri h hc na ng nb
        have t6 := dd_tri h hc ng nb na
        have t7 := dd_tri h hc na nb ng
        have i1 := dd_in h hc na nb
        have i2 := dd_in h hc nb na
        have i3 := dd_in h hc nb nc
        have i4 := dd_in h hc nc nb
        have i5 := dd_in h hc na ng
        have i6 := dd_in h hc ng na
        have i7 := dd_in h hc nb ng
        have i8 := dd_in h hc ng nb
        unfold relAt spanAt
        simp only [bne_self_eq_false, Bool.or_false, cond_false, Bool.false_or]
        rw [W64_id (n := 0 - dd s a b) (by omega) (by omega), W64_id (n := 0 - -dd s b a) (by omega) (by omega), W64_id (n := -dd s b a + -dd s c b) (by omega) (by omega), W64_id (n := dd s a b + dd s b c) (by omega) (by omega),
          W64_id (n := -dd s b beg - dd s beg a) (by omega) (by omega), W64_id (n := dd s beg b - -dd s a beg) (by omega) (by omega), W64_id (n := dd s beg a + -dd s b a) (by omega) (by omega), W64_id (n := -dd s a beg + dd s a b) (by omega) (by omega)]
        have e1 : (-dd s a b == 0 - dd s a b) = true := by simp
        have e2 : (dd s b a == 0 - -dd s b a) = true := by simp
        have e3 : decide (-dd s c a < -dd s b a + -dd s c b) = false := by simp; omega
        have e4 : decide (dd s a c > dd s a b + dd s b c) = false := by simp; omega
        have e5 : decide (-dd s b a > dd s a b) = false := by simp; omega
        have e6 : decide (-dd s b a < -dd s b beg - dd s beg a) = false := by simp; omega
        have e7 : decide (dd s a b > dd s beg b - -dd s a beg) = false := by simp; omega
        have e8 : decide (dd s beg a + -dd s b a > dd s beg b) = false := by simp; omega
        have e9 : decide (-dd s a beg + dd s a b < -dd s b beg) = false := by simp; omega
        rw [e1, e2, e3, e4, e5, e6, e7, e8, e9]
        simp only [Bool.and_true, Bool.not_true, Bool.or_false, cond_false]
        have h1 := hf.e
        rw [iter_check' (n := s.Ties.length) (fun _ => true) false (fun i hi => by
          unfold law03_ClocksTriangle_L0
          rw [lt_t hi, cond_true, idx_nat hi]
          simp only [Option.bind_some, Must_c hN hf, tie_must h hc hi]
          have := h1.1
          rw [W64_succ (by omega)]
          rfl) (by unfold law03_ClocksTriangle_L0; rw [lt_f]; rfl) h1.2]
        rw [allB_of (fun _ _ => rfl)]; rfl
      · have e : (ask s [b, c] != 0) = true := by simpa using hbc
        rw [hab, hba, ea, eb, e]
        simp
    · have e : (ask s [a, b] != 0) = true := by simpa using hab
      rw [e, ← ask_swap s a b]
      simp
theorem triangle_row (s : System) (a b c : Ref) (q : qSystem s) (_ : qRef a) (_ : qRef b) (_ : qRef c) : law03_ClocksTriangle NN s a b c = some true := triangle_true (by decide) (fitS q) a b c
end Go.Proofs.Ythbcnabeabcmlaa
namespace Go.Proofs.Ythbcnabeabcmlaa
open Go.ChangeShapes Go.WideShapes Go.ChangeAt Go.RowKit
set_option maxRecDepth 100000 in
theorem lifted_clocksTriangle (os : Os) (started : os.Started) (H : Type) (enc : TypeId × Value → H) :
    ReturnsInHanded {} Try.checked os 4 .any (Rows.clocksTriangleSpec.pre6 enc Try.prog Try.f4 Rows.clocksTriangleRow.domain false) (Rows.clocksTriangleSpec.post enc Try.prog Try.f4 false true false false) := by
  refine returnsInHanded_of_change (C := Try.checked) (by kernel_rfl) started (by kernel_rfl) Try.func4
    (ChangeSpec.witness6 (enc := enc) (C := Try.checked) false ⟨#[], #[.agg #[.slice none 0 0, .slice none 0 0, .int .i64 0], .agg #[.int .i64 0, .int .i64 0], .agg #[.int .i64 0, .int .i64 0], .agg #[.int .i64 0, .int .i64 0]], []⟩ 8 (by kernel_rfl) (by kernel_rfl) (by kernel_rfl) (by kernel_rfl)) ?_
  intro W base args ds gs before hval0 hW hcnd _
  have hval : ∀ (j : Nat) t v, Try.f4.params[j]? = some t → args[j]? = some v → Value.okWide Try.prog W .any base t v := hval0
  have hW' := hW
  obtain ⟨p, q, hA0, hV, rfl, hfz, hnd⟩ := hW
  have hA : DataW.TrodAll enc Try.prog W 0 (fun _ => true) true Try.f4.params.toList args.toList ds p := hA0
  rw [Try.params4] at hA hval
  obtain ⟨v0, vs0, d0, ds0, p0, q0, hargs, rfl, rfl, h0, r0⟩ := trodAll_cons hA
  obtain ⟨v1, vs1, d1, ds1, p1, q1, rfl, rfl, rfl, h1, r1⟩ := trodAll_cons r0
  obtain ⟨v2, vs2, d2, ds2, p2, q2, rfl, rfl, rfl, h2, r2⟩ := trodAll_cons r1
  obtain ⟨v3, vs3, d3, ds3, p3, q3, rfl, rfl, rfl, h3, r3⟩ := trodAll_cons r2
  obtain ⟨rfl, rfl, rfl⟩ := trodAll_nil r3
  obtain rfl : args = #[v0, v1, v2, v3] := by cases args; simp_all
  obtain ⟨cs0, x0, rfl, R0, Q0⟩ := Opens.agg opens_System_25 (by kernel_rfl) (hval 0 25 v0 rfl rfl) h0
  obtain ⟨a0_0, n0_0, a0_1, n0_1, e0, hb0_0, hs0_0, hb0_1, hs0_1⟩ := R0
  obtain rfl : cs0 = #[.slice a0_0 x0.Tracks.length n0_0, .slice a0_1 x0.Ties.length n0_1, .int .i64 x0.Window] := Array.ext' (by exact e0)
  obtain ⟨cs1, x1, rfl, R1, Q1⟩ := Opens.agg opens_Ref_27 (by kernel_rfl) (hval 1 27 v1 rfl rfl) h1
  have e1 := R1
  obtain rfl : cs1 = #[.int .i64 x1.Log, .int .i64 x1.Line] := Array.ext' (by exact e1)
  obtain ⟨cs2, x2, rfl, R2, Q2⟩ := Opens.agg opens_Ref_27 (by kernel_rfl) (hval 2 27 v2 rfl rfl) h2
  have e2 := R2
  obtain rfl : cs2 = #[.int .i64 x2.Log, .int .i64 x2.Line] := Array.ext' (by exact e2)
  obtain ⟨cs3, x3, rfl, R3, Q3⟩ := Opens.agg opens_Ref_27 (by kernel_rfl) (hval 3 27 v3 rfl rfl) h3
  have e3 := R3
  obtain rfl : cs3 = #[.int .i64 x3.Log, .int .i64 x3.Line] := Array.ext' (by exact e3)
  refine (c_law03_ClocksTriangle 9223372036854775808 W (memOf W) (fun _ _ h => h) x0 a0_0 n0_0 hb0_0 hs0_0 a0_1 n0_1 hb0_1 hs0_1 x1 x2 x3 true (triangle_row x0 x1 x2 x3 Q0 Q1 Q2 Q3)).mono fun e W' he => ?_
  obtain ⟨r, F', rfl, hs, rfl⟩ := he
  refine ⟨_, rfl, post_grown (by kernel_rfl) (tb := 4) ?_ rfl hW' (by kernel_rfl) (by kernel_rfl) ?_ hs⟩
  · intro t ht
    rw [Try.params4] at ht
    simp only [List.mem_cons, List.not_mem_nil, or_false] at ht
    rcases ht with rfl | rfl | rfl | rfl <;> exact ⟨by kernel_rfl, by decide +kernel⟩
  · intro _; rfl
theorem clocksTriangle_proved : Rows.ClocksTriangleSaid :=
  OpenClaim.holds_of_wide 4 Try.f4 rfl rfl rfl rfl rfl rfl rfl ⟨rfl, rfl, rfl, rfl, rfl⟩ rfl rfl rfl rfl rfl (by kernel_rfl) Try.func4 (by kernel_rfl)
    (of_decide_eq_true (by kernel_rfl)) (by unfold Func.isWrapper; first | (rw [if_pos (by decide +kernel)]; kernel_rfl) | (rw [if_neg (by decide +kernel)]; exact ⟨rfl, rfl⟩))
    (fun os started H enc _ => lifted_clocksTriangle os started H enc)
end Go.Proofs.Ythbcnabeabcmlaa
