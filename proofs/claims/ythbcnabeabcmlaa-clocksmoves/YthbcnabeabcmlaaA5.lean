/- ClocksMoves: for every input the law returns true, and each argument reads afterwards as it read before. No condition. -/
import Derived.Test.YthbcnabeabcmlaaA4
set_option linter.unusedVariables false
set_option linter.unusedSimpArgs false
set_option linter.unusedSectionVars false
namespace Go.Proofs.Ythbcnabeabcmlaa
open Go.Proofs
def law03_few_L0 (N : Nat) (x0 : System) : (Int × Int) → Option (Flow Bool (Int × Int)) := fun s7 =>
 (bif (decide (s7.2 < (x0.Tracks.length : Int))) then ((idx x0.Tracks s7.2).bind fun x30 => ((idx x0.Tracks s7.2).bind fun x44 => (bif (decide ((x44.Clock.Jumps.length : Int) > 40)) then some (.ret false) else some (.next ((W64 (s7.1 + (x30.Times.length : Int))), (W64 (s7.2 + 1))))))) else some (.done (s7.1, s7.2)))
def law03_few (N : Nat) (x0 : System) : Option Bool :=
 ((iter (law03_few_L0 N x0) N (0, 0)).bind fun o => o.k (fun r => some r) (fun s15 => some ((decide (s15.1 ≤ 40)) && ((decide ((x0.Tracks.length : Int) ≤ 100)) && ((decide ((x0.Ties.length : Int) ≤ 30)) || ((decide ((x0.Ties.length : Int) > 400)) && (decide ((x0.Ties.length : Int) ≤ 500))))))))
theorem co_law03_few : CallOk Try.prog 16 := fun _ _ => by kernel_rfl
set_option maxHeartbeats 4000000 in
set_option maxRecDepth 100000 in
theorem c_law03_few (N : Nat) (w0 : World) (F0 : Mem) (hF : ∀ b o, F0 b = some o → w0.heap[b]? = some o) (x0 : System) (a0_0 : Option Addr) (n0_0 : Nat) (hb0_0 : LC x0.Tracks.length n0_0) (hs0_0 : SlA tTrack F0 a0_0 x0.Tracks) (a0_1 : Option Addr) (n0_1 : Nat) (hb0_1 : LC x0.Ties.length n0_1) (hs0_1 : SlA tTie F0 a0_1 x0.Ties) (r : Bool) (h : law03_few N x0 = some r) :
  Calls Try.prog 16 ([(.agg #[(.slice a0_0 x0.Tracks.length n0_0), (.slice a0_1 x0.Ties.length n0_1), (.int .i64 x0.Window)])] : List Value).toArray w0 (FRet w0 F0 fun F' v => v = (.bool r)) := by
 have hs0 := HS.start hF
 refine calls_of (n := 56) (c := bodyOf Try.f16) Try.func16 (by kernel_rfl) (by kernel_rfl) (by kernel_rfl) ?_
 refine Sq (Rg [0, 1] ?_)
 refine Bx 1 0 0 25 #[(.slice a0_0 x0.Tracks.length n0_0), (.slice a0_1 x0.Ties.length n0_1), (.int .i64 x0.Window)] hs0 (fun b1 w2 (hs3 : HS w0 F0 w2 F0 [(some b1, (.cells #[(.slice a0_0 x0.Tracks.length n0_0), (.slice a0_1 x0.Ties.length n0_1), (.int .i64 x0.Window)] 25 (0, 0)))]) => ?_)
 refine V 2 4 (mc (.bool false) (.bool false)) ?_
 refine Nss (Rg [0] ?_)
 refine V 3 3 (mc (.int .i64 0) (.int .i64 0)) ?_
 refine Nss ?_
 refine Sq (Rg [0] ?_)
 refine V 4 3 (mc (.int .i64 0) (.int .i64 0)) ?_
 refine Nt ?_
 obtain ⟨o4, ho5, h6⟩ := bind_some h
 refine CWP.cut (fun f w => ∃ (s15 : (Int × Int)) (F2 : Mem), o4 = .done s15 ∧ HS w0 F0 w F2 [(some b1, (.cells #[(.slice a0_0 x0.Tracks.length n0_0), (.slice a0_1 x0.Ties.length n0_1), (.int .i64 x0.Window)] 25 (0, 0)))] ∧ Mem.le F0 F2 ∧ f.d = [] ∧ f 1 = (.pointer (some ⟨b1, 0, none⟩)) ∧ f 3 = (.int .i64 s15.1)) ?_ ?_
 ·refine Bk ?_
  refine CWP.loop (by kernel_rfl) (fun m f w => ∃ (s7 : (Int × Int)) (F1 : Mem), iter (law03_few_L0 N x0) m s7 = some o4 ∧ HS w0 F0 w F1 [(some b1, (.cells #[(.slice a0_0 x0.Tracks.length n0_0), (.slice a0_1 x0.Ties.length n0_1), (.int .i64 x0.Window)] 25 (0, 0)))] ∧ Mem.le F0 F1 ∧ f.d = [] ∧ f 1 = (.pointer (some ⟨b1, 0, none⟩)) ∧ f 3 = (.int .i64 s7.1) ∧ f 4 = (.int .i64 s7.2)) N ⟨(0, 0), F0, ho5, hs3, (Mem.le.refl _), rfl, rfl, rfl, rfl⟩ ?_
  rintro m22 f w8 ⟨s7, F1, hit23, hs9, le10, e11, e12, e13, e14⟩
  obtain ⟨m24, fl25, rfl, hb26, hnx27⟩ := iter_step hit23
  refine Sq ?_
  refine Sq (Rg [0, 1, 2, 3, 4] ?_)
  refine V 5 3 (mv 4 (.int .i64 s7.2) e14) ?_
  refine V 6 0 (fa 25 1 0 0 1 b1 0 0 e12) ?_
  refine V 7 22 (ld 22 6 b1 0 false 1 (.slice a0_0 x0.Tracks.length n0_0) (hs9.ownAt (k := 0) rfl)) ?_
  refine V 8 3 (ln 7 22 a0_0 x0.Tracks.length n0_0 54 4 64) ?_
  refine V 9 4 (run_lss (t := 3) (t' := 3) (x := (.tmp 5)) (y := (.tmp 8)) (k := .i64) (a := s7.2) (b := (x0.Tracks.length : Int)) rfl rfl) ?_
  refine Nt ?_
  refine CWP.cond (t := (decide (s7.2 < (x0.Tracks.length : Int)))) (by kernel_rfl) rfl (fun hb28 => ?_) (fun hb28 => ?_)
  ·have h29 := cond_t hb26 hb28
   refine Sc ?_
   refine thenQ_nrm ?_
   refine Sq ?_
   refine Bk ?_
   refine Sq (Rg [0, 1, 2, 3, 4, 5, 6, 7, 8, 9] ?_)
   refine V 12 3 (mv 3 (.int .i64 s7.1) e13) ?_
   refine V 13 0 (fa 25 1 0 0 1 b1 0 0 e12) ?_
   refine V 14 22 (ld 22 13 b1 0 false 1 (.slice a0_0 x0.Tracks.length n0_0) (hs9.ownAt (k := 0) rfl)) ?_
   refine V 15 3 (mv 4 (.int .i64 s7.2) e14) ?_
   obtain ⟨x30, hx31, h33⟩ := bind_some h29
   obtain ⟨hi32, hx31'⟩ := idx_spec hx31
   obtain ⟨b34, o35, C36, E37, fz38, rfl, hF40, hE41⟩ := SlA.open (SlA.mono hs0_0 le10) hx31'
   obtain ⟨ae42_2, ne42_2, ae42_3, ne42_3, hc43, hbe42_2, hse42_2, hbe42_3, hse42_3⟩ := hE41 _ _ hx31'
   refine V 16 0 (ix 22 14 15 b34 o35 54 4 64 hi32) ?_
   refine V 17 0 (fa 54 16 1 3 1 b34 (o35 + (s7.2 : Int).toNat * 4) ((o35 + (s7.2 : Int).toNat * 4) + 3)) ?_
   refine V 18 50 (lx 50 17 3 4 false 1 (.slice ae42_3 x30.Times.length ne42_3) (hs9.pers _ _ hF40) hc43) ?_
   refine V 19 3 (ln 18 50 ae42_3 x30.Times.length ne42_3 3 1 8) ?_
   refine V 20 3 (run_add (t := 3) (t' := 3) (x := (.tmp 12)) (y := (.tmp 19)) (k := .i64) (a := s7.1) (b := (x30.Times.length : Int)) rfl rfl) ?_
   refine V 3 3 (ma 20 (.int .i64 (W64 (s7.1 + (x30.Times.length : Int))))) ?_
   refine Nss (Rg [0, 1, 2, 3, 4, 5, 6, 7, 8] ?_)
   refine V 21 0 (fa 25 1 0 0 1 b1 0 0 e12) ?_
   refine V 22 22 (ld 22 21 b1 0 false 1 (.slice (some ⟨b34, o35, none⟩) x0.Tracks.length n0_0) (hs9.ownAt (k := 0) rfl)) ?_
   refine V 23 3 (mv 4 (.int .i64 s7.2) e14) ?_
   obtain ⟨x44, hx45, h47⟩ := bind_some h33
   obtain ⟨hi46, hx45'⟩ := idx_spec hx45
   obtain ⟨ae48_2, ne48_2, ae48_3, ne48_3, hc49, hbe48_2, hse48_2, hbe48_3, hse48_3⟩ := hE41 _ _ hx45'
   refine V 24 0 (ix 22 22 23 b34 o35 54 4 64 hi46) ?_
   refine V 25 0 (fa 54 24 0 0 3 b34 (o35 + (s7.2 : Int).toNat * 4) (o35 + (s7.2 : Int).toNat * 4)) ?_
   refine V 26 0 (fa 52 25 2 2 1 b34 (o35 + (s7.2 : Int).toNat * 4) ((o35 + (s7.2 : Int).toNat * 4) + 2)) ?_
   refine V 27 50 (lx 50 26 2 4 false 1 (.slice ae48_2 x44.Clock.Jumps.length ne48_2) (hs9.pers _ _ hF40) hc49) ?_
   refine V 28 3 (ln 27 50 ae48_2 x44.Clock.Jumps.length ne48_2 3 1 8) ?_
   refine V 29 4 (run_gtr (t := 3) (t' := 3) (x := (.tmp 28)) (y := (.const (.int .i64 40))) (k := .i64) (a := (x44.Clock.Jumps.length : Int)) (b := 40) rfl rfl) ?_
   refine Nt ?_
   refine CWP.cond (t := (decide ((x44.Clock.Jumps.length : Int) > 40))) (by kernel_rfl) rfl (fun hb50 => ?_) (fun hb50 => ?_)
   ·have h51 := cond_t h47 hb50
    refine Sq (Rg [0] ?_)
    refine V 2 4 (mc (.bool false) (.bool false)) ?_
    refine Nt ?_
    refine CWP.ret (by kernel_rfl) ?_
    refine blockQ_ret ?_
    refine thenQ_ret ?_
    refine thenQ_ret ?_
    refine blockQ_ret ?_
    have hret := iter_ret h51 hnx27
    subst hret
    refine .inr ?_
    refine thenQ_ret ?_
    have hfin := some_inj h6
    subst hfin
    exact ⟨e11, (.bool false), res_of (l := [.tmp 2]) (by kernel_rfl) (vs := [(.bool false)]) ⟨rfl, trivial⟩, (.bool false), F1, rfl, hs9.clear, rfl⟩
   ·have h52 := cond_f h47 hb50
    refine Sc ?_
    refine blockQ_nrm ?_
    refine thenQ_nrm ?_
    refine Rg [0, 1, 2] ?_
    refine V 10 3 (mv 4 (.int .i64 s7.2) e14) ?_
    refine V 11 3 (run_add (t := 3) (t' := 3) (x := (.tmp 10)) (y := (.const (.int .i64 1))) (k := .i64) (a := s7.2) (b := 1) rfl rfl) ?_
    refine V 4 3 (ma 11 (.int .i64 (W64 (s7.2 + 1)))) ?_
    refine RWP.nil ?_
    have hn53 := iter_next h52 hnx27
    exact ⟨m24, Nat.lt_succ_self _, ((W64 (s7.1 + (x30.Times.length : Int))), (W64 (s7.2 + 1))), F1, hn53, hs9, le10, e11, e12, rfl, rfl⟩
  ·have h54 := cond_f hb26 hb28
   refine CWP.exit (by kernel_rfl) ?_
   refine thenQ_ex ?_
   refine thenQ_ex ?_
   refine blockQ_hit rfl ?_
   have ho55 := iter_done h54 hnx27
   exact .inl ⟨rfl, (s7.1, s7.2), F1, ho55, hs9, le10, e11, e12, e13⟩
 ·rintro f w16 ⟨s15, F2, rfl, hs17, le18, e19, e20, e21⟩
  have h56 := k_done h6
  refine thenQ_nrm ?_
  refine Sq (Rg [0, 1, 2, 3, 4, 5, 6, 7, 8, 9, 10, 11, 12, 13, 14, 15, 16, 17, 18, 19, 20, 21, 22, 23, 24, 25, 26] ?_)
  refine RWP.cut (fun f w => ∃ (F3 : Mem), HS w0 F0 w F3 [] ∧ Mem.le F2 F3 ∧ f.d = [] ∧ f 2 = (.bool ((decide (s15.1 ≤ 40)) && ((decide ((x0.Tracks.length : Int) ≤ 100)) && ((decide ((x0.Ties.length : Int) ≤ 30)) || ((decide ((x0.Ties.length : Int) > 400)) && (decide ((x0.Ties.length : Int) ≤ 500)))))))) ?_ ?_
  ·refine V 30 3 (mv 3 (.int .i64 s15.1) e21) ?_
   refine V 31 4 (run_leq (t := 3) (t' := 3) (x := (.tmp 30)) (y := (.const (.int .i64 40))) (k := .i64) (a := s15.1) (b := 40) rfl rfl) ?_
   refine V 32 4 (mv 31 (.bool (decide (s15.1 ≤ 40)))) ?_
   refine RWP.split (decide (s15.1 ≤ 40)) (fun hb62 => ?_) (fun hb62 => ?_)
   ·refine Vg 33 0 2 true 32 hb62 (fa 25 1 0 0 1 b1 0 0 e20) ?_
    refine Vg 34 22 2 true 32 hb62 (ld 22 33 b1 0 false 1 (.slice a0_0 x0.Tracks.length n0_0) (hs17.ownAt (k := 0) rfl)) ?_
    refine Vg 35 3 2 true 32 hb62 (ln 34 22 a0_0 x0.Tracks.length n0_0 54 4 64) ?_
    refine Vg 36 4 2 true 32 hb62 (run_leq (t := 3) (t' := 3) (x := (.tmp 35)) (y := (.const (.int .i64 100))) (k := .i64) (a := (x0.Tracks.length : Int)) (b := 100) rfl rfl) ?_
    refine V 37 4 (p1 32 (.tmp 36) (.const (.bool false)) (.bool (decide ((x0.Tracks.length : Int) ≤ 100))) hb62) ?_
    refine V 38 4 (mv 37 (.bool (decide ((x0.Tracks.length : Int) ≤ 100)))) ?_
    refine RWP.split (decide ((x0.Tracks.length : Int) ≤ 100)) (fun hb63 => ?_) (fun hb63 => ?_)
    ·refine Vg 39 0 8 true 38 hb63 (fa 25 1 1 1 1 b1 0 1 e20) ?_
     refine Vg 40 23 8 true 38 hb63 (ld 23 39 b1 1 false 1 (.slice a0_1 x0.Ties.length n0_1) (hs17.ownAt (k := 0) rfl)) ?_
     refine Vg 41 3 8 true 38 hb63 (ln 40 23 a0_1 x0.Ties.length n0_1 46 4 32) ?_
     refine Vg 42 4 8 true 38 hb63 (run_leq (t := 3) (t' := 3) (x := (.tmp 41)) (y := (.const (.int .i64 30))) (k := .i64) (a := (x0.Ties.length : Int)) (b := 30) rfl rfl) ?_
     refine Vg 43 4 8 true 38 hb63 (mv 42 (.bool (decide ((x0.Ties.length : Int) ≤ 30)))) ?_
     refine RWP.split (decide ((x0.Ties.length : Int) ≤ 30)) (fun hb64 => ?_) (fun hb64 => ?_)
     ·refine Sk [44, 45, 46, 47, 48] 13 false 43 hb64 ?_
      refine Su [49, 50, 51, 52] 18 true 48 ?_
      refine Sk [53] 13 false 43 hb64 ?_
      refine Vg 54 4 8 true 38 hb63 (p1 43 (.const (.bool true)) (.tmp 53) (.bool true) hb64) ?_
      refine V 55 4 (p1 38 (.tmp 54) (.const (.bool false)) (.bool true) hb63) ?_
      refine V 2 4 (ma 55 (.bool true)) ?_
      have hs65 : HS w0 F0 w16 F2 [] := hs17.drop 0
      exact RWP.nil ⟨rfl, F2, hs65, (Mem.le.refl _), e19, (congrArg Value.bool (and_t hb62 (and_t hb63 (or_t hb64 (rfl)))))⟩
     ·refine Vg 44 0 13 false 43 hb64 (fa 25 1 1 1 1 b1 0 1 e20) ?_
      refine Vg 45 23 13 false 43 hb64 (ld 23 44 b1 1 false 1 (.slice a0_1 x0.Ties.length n0_1) (hs17.ownAt (k := 0) rfl)) ?_
      refine Vg 46 3 13 false 43 hb64 (ln 45 23 a0_1 x0.Ties.length n0_1 46 4 32) ?_
      refine Vg 47 4 13 false 43 hb64 (run_gtr (t := 3) (t' := 3) (x := (.tmp 46)) (y := (.const (.int .i64 400))) (k := .i64) (a := (x0.Ties.length : Int)) (b := 400) rfl rfl) ?_
      refine Vg 48 4 13 false 43 hb64 (mv 47 (.bool (decide ((x0.Ties.length : Int) > 400)))) ?_
      refine RWP.split (decide ((x0.Ties.length : Int) > 400)) (fun hb66 => ?_) (fun hb66 => ?_)
      ·refine Vg 49 0 18 true 48 hb66 (fa 25 1 1 1 1 b1 0 1 e20) ?_
       refine Vg 50 23 18 true 48 hb66 (ld 23 49 b1 1 false 1 (.slice a0_1 x0.Ties.length n0_1) (hs17.ownAt (k := 0) rfl)) ?_
       refine Vg 51 3 18 true 48 hb66 (ln 50 23 a0_1 x0.Ties.length n0_1 46 4 32) ?_
       refine Vg 52 4 18 true 48 hb66 (run_leq (t := 3) (t' := 3) (x := (.tmp 51)) (y := (.const (.int .i64 500))) (k := .i64) (a := (x0.Ties.length : Int)) (b := 500) rfl rfl) ?_
       refine Vg 53 4 13 false 43 hb64 (p1 48 (.tmp 52) (.const (.bool false)) (.bool (decide ((x0.Ties.length : Int) ≤ 500))) hb66) ?_
       refine Vg 54 4 8 true 38 hb63 (p0 43 (.const (.bool true)) (.tmp 53) (.bool (decide ((x0.Ties.length : Int) ≤ 500))) hb64) ?_
       refine V 55 4 (p1 38 (.tmp 54) (.const (.bool false)) (.bool (decide ((x0.Ties.length : Int) ≤ 500))) hb63) ?_
       refine V 2 4 (ma 55 (.bool (decide ((x0.Ties.length : Int) ≤ 500)))) ?_
       have hs67 : HS w0 F0 w16 F2 [] := hs17.drop 0
       exact RWP.nil ⟨rfl, F2, hs67, (Mem.le.refl _), e19, (congrArg Value.bool (and_t hb62 (and_t hb63 (or_f hb64 (and_t hb66 (rfl))))))⟩
      ·refine Sk [49, 50, 51, 52] 18 true 48 hb66 ?_
       refine Vg 53 4 13 false 43 hb64 (p0 48 (.tmp 52) (.const (.bool false)) (.bool false) hb66) ?_
       refine Vg 54 4 8 true 38 hb63 (p0 43 (.const (.bool true)) (.tmp 53) (.bool false) hb64) ?_
       refine V 55 4 (p1 38 (.tmp 54) (.const (.bool false)) (.bool false) hb63) ?_
       refine V 2 4 (ma 55 (.bool false)) ?_
       have hs68 : HS w0 F0 w16 F2 [] := hs17.drop 0
       exact RWP.nil ⟨rfl, F2, hs68, (Mem.le.refl _), e19, (congrArg Value.bool (and_t hb62 (and_t hb63 (or_f hb64 (and_f hb66 (rfl))))))⟩
    ·refine Sk [39, 40, 41, 42, 43] 8 true 38 hb63 ?_
     refine Su [44, 45, 46, 47, 48] 13 false 43 ?_
     refine Su [49, 50, 51, 52] 18 true 48 ?_
     refine Su [53] 13 false 43 ?_
     refine Sk [54] 8 true 38 hb63 ?_
     refine V 55 4 (p0 38 (.tmp 54) (.const (.bool false)) (.bool false) hb63) ?_
     refine V 2 4 (ma 55 (.bool false)) ?_
     have hs69 : HS w0 F0 w16 F2 [] := hs17.drop 0
     exact RWP.nil ⟨rfl, F2, hs69, (Mem.le.refl _), e19, (congrArg Value.bool (and_t hb62 (and_f hb63 (rfl))))⟩
   ·refine Sk [33, 34, 35, 36] 2 true 32 hb62 ?_
    refine V 37 4 (p0 32 (.tmp 36) (.const (.bool false)) (.bool false) hb62) ?_
    refine V 38 4 (mv 37 (.bool false)) ?_
    refine Sk [39, 40, 41, 42, 43] 8 true 38 rfl ?_
    refine Su [44, 45, 46, 47, 48] 13 false 43 ?_
    refine Su [49, 50, 51, 52] 18 true 48 ?_
    refine Su [53] 13 false 43 ?_
    refine Sk [54] 8 true 38 rfl ?_
    refine V 55 4 (p0 38 (.tmp 54) (.const (.bool false)) (.bool false) rfl) ?_
    refine V 2 4 (ma 55 (.bool false)) ?_
    have hs70 : HS w0 F0 w16 F2 [] := hs17.drop 0
    exact RWP.nil ⟨rfl, F2, hs70, (Mem.le.refl _), e19, (congrArg Value.bool (and_f hb62 (rfl)))⟩
  ·rintro f w57 ⟨F3, hs58, le59, e60, e61⟩
   refine thenQ_nrm ?_
   refine CWP.ret (by kernel_rfl) ?_
   have hfin := some_inj h56
   subst hfin
   exact ⟨e60, (.bool ((decide (s15.1 ≤ 40)) && ((decide ((x0.Tracks.length : Int) ≤ 100)) && ((decide ((x0.Ties.length : Int) ≤ 30)) || ((decide ((x0.Ties.length : Int) > 400)) && (decide ((x0.Ties.length : Int) ≤ 500))))))), res_of (l := [.tmp 2]) (by kernel_rfl) (vs := [(.bool ((decide (s15.1 ≤ 40)) && ((decide ((x0.Tracks.length : Int) ≤ 100)) && ((decide ((x0.Ties.length : Int) ≤ 30)) || ((decide ((x0.Ties.length : Int) > 400)) && (decide ((x0.Ties.length : Int) ≤ 500)))))))]) ⟨e61, trivial⟩, (.bool ((decide (s15.1 ≤ 40)) && ((decide ((x0.Tracks.length : Int) ≤ 100)) && ((decide ((x0.Ties.length : Int) ≤ 30)) || ((decide ((x0.Ties.length : Int) > 400)) && (decide ((x0.Ties.length : Int) ≤ 500))))))), F3, rfl, hs58.clear, rfl⟩
end Go.Proofs.Ythbcnabeabcmlaa
namespace Go.Proofs.Ythbcnabeabcmlaa
set_option maxRecDepth 1000000 in
theorem awake_ok (m : Nat) : law03_awake (m + 100) = some true := by kernel_rfl
theorem awake_at {N : Nat} (h : 100 ≤ N) : law03_awake N = some true := by
  obtain ⟨m, rfl⟩ : ∃ m, N = m + 100 := ⟨N - 100, by omega⟩
  exact awake_ok m
theorem few_some {N : Nat} {s : System} (h : FitS N s) : ∃ b, law03_few N s = some b := by
  unfold law03_few
  have hn := h.n.1
  obtain ⟨o, ho, hR⟩ := iter_ex (body := law03_few_L0 N s) s.Tracks.length (fun i q => q.2 = (i : Int)) (fun o => ∀ q, o ≠ .next q) (by
    rintro i ⟨a, b⟩ hi hb
    simp only at hb
    subst hb
    unfold law03_few_L0
    simp only
    by_cases hlt : i < s.Tracks.length
    · simp only [lt_t hlt, cond_true, idx_nat hlt, Option.bind_some]
      cases decide ((s.Tracks[i].Clock.Jumps.length : Int) > 40) with
      | true => exact .inr ⟨_, rfl, (fun _ h => by cases h), fun _ h => by cases h⟩
      | false => exact .inl ⟨_, rfl, by simp only; rw [W64_succ (by omega)], hlt⟩
    · have : i = s.Tracks.length := by omega
      subst this
      simp only [lt_f, cond_false]
      exact .inr ⟨_, rfl, (fun _ h => by cases h), fun _ h => by cases h⟩) s.Tracks.length N 0 (0, 0) (by omega) rfl h.n.2
  rw [ho]
  cases o with
  | next q => exact absurd rfl (hR q)
  | done q => exact ⟨_, rfl⟩
  | ret r => exact ⟨_, rfl⟩
end Go.Proofs.Ythbcnabeabcmlaa
namespace Go.Proofs.Ythbcnabeabcmlaa
abbrev NN : Nat := 9223372036854775808
theorem fitL {α : Type} {l : List α} {Q : Prop} (h : l.length < 9223372036854775808 ∧ Q) : Fit NN l.length := ⟨h.1, h.1⟩
theorem fitT {t : Track} (q : qTrack t) : FitT NN t := ⟨fitL q.1.2.2, fitL q.2⟩
theorem fitS {s : System} (q : qSystem s) : FitS NN s := ⟨fitL q.1, fun t ht => fitT (q.1.2 t ht), fitL q.2.1⟩
end Go.Proofs.Ythbcnabeabcmlaa
namespace Go.Proofs.Ythbcnabeabcmlaa
open Go.Proofs
def law03_moved_L1 (N : Nat) (x0 : System) (x1 : Int) (s17 : (Int × List Track)) (j49 : (Int × Int)) : (Int × List Int) → Option (Flow System (Int × List Int)) := fun s89 =>
 ((idx x0.Tracks s17.1).bind fun x118 => (bif (decide (s89.1 < (x118.Clock.Jumps.length : Int))) then (((idx x0.Tracks s17.1).bind fun x150 => ((idx x150.Clock.Jumps s89.1).bind fun x156 => ((apnd s89.2 [(W64 (x156 + x1))]).bind fun r175 => some r175))).bind fun j139 => some (.next ((W64 (s89.1 + 1)), j139))) else some (.done (s89.1, s89.2))))
def law03_moved_L2 (N : Nat) (x0 : System) (x1 : Int) (s17 : (Int × List Track)) (j49 : (Int × Int)) (s101 : (Int × List Int)) : (Int × List Int) → Option (Flow System (Int × List Int)) := fun s196 =>
 ((idx x0.Tracks s17.1).bind fun x225 => (bif (decide (s196.1 < (x225.Times.length : Int))) then (((idx x0.Tracks s17.1).bind fun x257 => ((idx x257.Times s196.1).bind fun x263 => ((apnd s196.2 [(W64 (x263 + x1))]).bind fun r282 => some r282))).bind fun j246 => some (.next ((W64 (s196.1 + 1)), j246))) else some (.done (s196.1, s196.2))))
def law03_moved_L0 (N : Nat) (x0 : System) (x1 : Int) : (Int × List Track) → Option (Flow System (Int × List Track)) := fun s17 =>
 (bif (decide (s17.1 < (x0.Tracks.length : Int))) then (((idx x0.Tracks s17.1).bind fun x59 => ((idx x0.Tracks s17.1).bind fun x73 => some (x59.Clock.Slip, x73.Clock.Drift))).bind fun j49 => ((iter (law03_moved_L1 N x0 x1 s17 j49) N (0, ([] : List Int))).bind fun o => o.k (fun r => some (.ret r)) (fun s101 => ((iter (law03_moved_L2 N x0 x1 s17 j49 s101) N (0, ([] : List Int))).bind fun o => o.k (fun r => some (.ret r)) (fun s208 => ((apnd s17.2 [({ Clock := ({ Slip := j49.1, Drift := j49.2, Jumps := s101.2 } : Clock), Times := s208.2 } : Track)]).bind fun r311 => some (.next ((W64 (s17.1 + 1)), r311)))))))) else some (.done (s17.1, s17.2)))
def law03_moved_L3 (N : Nat) (x0 : System) (x1 : Int) (s27 : (Int × List Track)) : (Int × List Tie) → Option (Flow System (Int × List Tie)) := fun s333 =>
 (bif (decide (s333.1 ≥ 0)) then (((idx x0.Ties s333.1).bind fun x370 => ((apnd s333.2 [x370]).bind fun r389 => some r389)).bind fun j362 => some (.next ((W64 (s333.1 - 1)), j362))) else some (.done (s333.1, s333.2)))
def law03_moved (N : Nat) (x0 : System) (x1 : Int) : Option System :=
 ((iter (law03_moved_L0 N x0 x1) N (0, ([] : List Track))).bind fun o => o.k (fun r => some r) (fun s27 => ((iter (law03_moved_L3 N x0 x1 s27) N ((W64 ((x0.Ties.length : Int) - 1)), ([] : List Tie))).bind fun o => o.k (fun r => some r) (fun s342 => some ({ Tracks := s27.2, Ties := s342.2, Window := x0.Window } : System)))))
theorem co_law03_moved : CallOk Try.prog 18 := fun _ _ => by kernel_rfl
set_option maxHeartbeats 4000000 in
set_option maxRecDepth 100000 in
theorem c_law03_moved (N : Nat) (w0 : World) (F0 : Mem) (hF : ∀ b o, F0 b = some o → w0.heap[b]? = some o) (x0 : System) (a0_0 : Option Addr) (n0_0 : Nat) (hb0_0 : LC x0.Tracks.length n0_0) (hs0_0 : SlA tTrack F0 a0_0 x0.Tracks) (a0_1 : Option Addr) (n0_1 : Nat) (hb0_1 : LC x0.Ties.length n0_1) (hs0_1 : SlA tTie F0 a0_1 x0.Ties) (x1 : Int) (r : System) (h : law03_moved N x0 x1 = some r) :
  Calls Try.prog 18 ([(.agg #[(.slice a0_0 x0.Tracks.length n0_0), (.slice a0_1 x0.Ties.length n0_1), (.int .i64 x0.Window)]), (.int .i64 x1)] : List Value).toArray w0 (FRet w0 F0 fun F' v => ∃ (aq0_0 : Option Addr) (nq0_0 : Nat) (aq0_1 : Option Addr) (nq0_1 : Nat), v = (.agg #[(.slice aq0_0 r.Tracks.length nq0_0), (.slice aq0_1 r.Ties.length nq0_1), (.int .i64 r.Window)]) ∧ LC r.Tracks.length nq0_0 ∧ SlA tTrack F' aq0_0 r.Tracks ∧ LC r.Ties.length nq0_1 ∧ SlA tTie F' aq0_1 r.Ties) := by
 have hs0 := HS.start hF
 refine calls_of (n := 120) (c := bodyOf Try.f18) Try.func18 (by kernel_rfl) (by kernel_rfl) (by kernel_rfl) ?_
 refine Sq (Rg [0, 1] ?_)
 refine Bx 2 0 0 25 #[(.slice a0_0 x0.Tracks.length n0_0), (.slice a0_1 x0.Ties.length n0_1), (.int .i64 x0.Window)] hs0 (fun b1 w2 (hs3 : HS w0 F0 w2 F0 [(some b1, (.cells #[(.slice a0_0 x0.Tracks.length n0_0), (.slice a0_1 x0.Ties.length n0_1), (.int .i64 x0.Window)] 25 (0, 0)))]) => ?_)
 refine Al 4 0 25 #[(.slice none ([] : List Track).length 0), (.slice none ([] : List Tie).length 0), (.int .i64 0)] hs3 (fun b4 w5 (hs6 : HS w0 F0 w5 F0 [(some b4, (.cells #[(.slice none ([] : List Track).length 0), (.slice none ([] : List Tie).length 0), (.int .i64 0)] 25 (0, 0))), (some b1, (.cells #[(.slice a0_0 x0.Tracks.length n0_0), (.slice a0_1 x0.Ties.length n0_1), (.int .i64 x0.Window)] 25 (0, 0)))]) => ?_)
 refine Nss (Rg [0, 1, 2, 3, 4] ?_)
 refine V 11 0 (fa 25 2 2 2 1 b1 0 2) ?_
 refine V 12 3 (ld 3 11 b1 2 false 1 (.int .i64 x0.Window) (hs6.ownAt (k := 1) rfl)) ?_
 refine V 13 25 (run_build2 (t := 25) (parts := #[(2, (.tmp 12))]) (vs := [(2, (.int .i64 x0.Window))]) (rfl) (cs := [(.slice none ([] : List Track).length 0), (.slice none ([] : List Tie).length 0), (.int .i64 x0.Window)]) (by kernel_rfl)) ?_
 refine Al 5 0 25 #[(.slice none ([] : List Track).length 0), (.slice none ([] : List Tie).length 0), (.int .i64 0)] hs6 (fun b7 w8 (hs9 : HS w0 F0 w8 F0 [(some b7, (.cells #[(.slice none ([] : List Track).length 0), (.slice none ([] : List Tie).length 0), (.int .i64 0)] 25 (0, 0))), (some b4, (.cells #[(.slice none ([] : List Track).length 0), (.slice none ([] : List Tie).length 0), (.int .i64 0)] 25 (0, 0))), (some b1, (.cells #[(.slice a0_0 x0.Tracks.length n0_0), (.slice a0_1 x0.Ties.length n0_1), (.int .i64 x0.Window)] 25 (0, 0)))]) => ?_)
 refine RWP.store (ty := 0) (g := none) (by kernel_rfl) rfl (x := (.tmp 5)) (y := (.tmp 13)) (t := 25) (gg := true) (s := 3) (v := (.agg #[(.slice none ([] : List Track).length 0), (.slice none ([] : List Tie).length 0), (.int .i64 x0.Window)])) (b := b7) (o := 0) (C := #[(.slice none ([] : List Track).length 0), (.slice none ([] : List Tie).length 0), (.int .i64 0)]) rfl rfl (by kernel_rfl) hs9 (k := 0) rfl rfl rfl rfl (C' := #[(.slice none ([] : List Track).length 0), (.slice none ([] : List Tie).length 0), (.int .i64 x0.Window)]) rfl (fun w10 (hs11 : HS w0 F0 w10 F0 [(some b7, (.cells #[(.slice none ([] : List Track).length 0), (.slice none ([] : List Tie).length 0), (.int .i64 x0.Window)] 25 (0, 0))), (some b4, (.cells #[(.slice none ([] : List Track).length 0), (.slice none ([] : List Tie).length 0), (.int .i64 0)] 25 (0, 0))), (some b1, (.cells #[(.slice a0_0 x0.Tracks.length n0_0), (.slice a0_1 x0.Ties.length n0_1), (.int .i64 x0.Window)] 25 (0, 0)))]) => ?_)
 refine Nss ?_
 refine Sq (Rg [0] ?_)
 refine V 6 3 (mc (.int .i64 0) (.int .i64 0)) ?_
 refine Nt ?_
 have hs12 : HS w0 F0 w10 F0 [(none, .cells #[] 0 (0, 0)), (some b7, (.cells #[(.slice none ([] : List Track).length 0), (.slice none ([] : List Tie).length 0), (.int .i64 x0.Window)] 25 (0, 0))), (some b4, (.cells #[(.slice none ([] : List Track).length 0), (.slice none ([] : List Tie).length 0), (.int .i64 0)] 25 (0, 0))), (some b1, (.cells #[(.slice a0_0 x0.Tracks.length n0_0), (.slice a0_1 x0.Ties.length n0_1), (.int .i64 x0.Window)] 25 (0, 0)))] := hs11.dummy _
 obtain ⟨o14, ho15, h16⟩ := bind_some h
 refine CWP.cut (fun f w => ∃ (s27 : (Int × List Track)) (F2 : Mem) (as27_1 : Option Addr) (ns27_1 : Nat) (es27_1 : Option Nat × Obj), o14 = .done s27 ∧ HS w0 F0 w F2 [es27_1, (some b7, (.cells #[(.slice as27_1 s27.2.length ns27_1), (.slice none ([] : List Tie).length 0), (.int .i64 x0.Window)] 25 (0, 0))), (some b4, (.cells #[(.slice none ([] : List Track).length 0), (.slice none ([] : List Tie).length 0), (.int .i64 0)] 25 (0, 0))), (some b1, (.cells #[(.slice a0_0 x0.Tracks.length n0_0), (.slice a0_1 x0.Ties.length n0_1), (.int .i64 x0.Window)] 25 (0, 0)))] ∧ Mem.le F0 F2 ∧ f.d = [] ∧ f 2 = (.pointer (some ⟨b1, 0, none⟩)) ∧ f 4 = (.pointer (some ⟨b4, 0, none⟩)) ∧ f 5 = (.pointer (some ⟨b7, 0, none⟩)) ∧ RowR tTrack 54 F2 as27_1 ns27_1 s27.2 es27_1) ?_ ?_
 ·refine Bk ?_
  refine CWP.loop (by kernel_rfl) (fun m f w => ∃ (s17 : (Int × List Track)) (F1 : Mem) (as17_1 : Option Addr) (ns17_1 : Nat) (es17_1 : Option Nat × Obj), iter (law03_moved_L0 N x0 x1) m s17 = some o14 ∧ HS w0 F0 w F1 [es17_1, (some b7, (.cells #[(.slice as17_1 s17.2.length ns17_1), (.slice none ([] : List Tie).length 0), (.int .i64 x0.Window)] 25 (0, 0))), (some b4, (.cells #[(.slice none ([] : List Track).length 0), (.slice none ([] : List Tie).length 0), (.int .i64 0)] 25 (0, 0))), (some b1, (.cells #[(.slice a0_0 x0.Tracks.length n0_0), (.slice a0_1 x0.Ties.length n0_1), (.int .i64 x0.Window)] 25 (0, 0)))] ∧ Mem.le F0 F1 ∧ f.d = [] ∧ f 1 = (.int .i64 x1) ∧ f 2 = (.pointer (some ⟨b1, 0, none⟩)) ∧ f 4 = (.pointer (some ⟨b4, 0, none⟩)) ∧ f 5 = (.pointer (some ⟨b7, 0, none⟩)) ∧ f 6 = (.int .i64 s17.1) ∧ RowR tTrack 54 F1 as17_1 ns17_1 s17.2 es17_1) N ⟨(0, ([] : List Track)), F0, none, 0, (none, .cells #[] 0 (0, 0)), ho15, hs12, (Mem.le.refl _), rfl, rfl, rfl, rfl, rfl, rfl, (RowR.nil tTrack 54 F0 _)⟩ ?_
  rintro m35 f w18 ⟨s17, F1, as17_1, ns17_1, es17_1, hit36, hs19, le20, e21, e22, e23, e24, e25, e26, hrs17_1⟩
  obtain ⟨m37, fl38, rfl, hb39, hnx40⟩ := iter_step hit36
  refine Sq ?_
  refine Sq (Rg [0, 1, 2, 3, 4] ?_)
  refine V 14 3 (mv 6 (.int .i64 s17.1) e26) ?_
  refine V 15 0 (fa 25 2 0 0 1 b1 0 0 e23) ?_
  refine V 16 22 (ld 22 15 b1 0 false 1 (.slice a0_0 x0.Tracks.length n0_0) (hs19.ownAt (k := 3) rfl)) ?_
  refine V 17 3 (ln 16 22 a0_0 x0.Tracks.length n0_0 54 4 64) ?_
  refine V 18 4 (run_lss (t := 3) (t' := 3) (x := (.tmp 14)) (y := (.tmp 17)) (k := .i64) (a := s17.1) (b := (x0.Tracks.length : Int)) rfl rfl) ?_
  refine Nt ?_
  refine CWP.cond (t := (decide (s17.1 < (x0.Tracks.length : Int)))) (by kernel_rfl) rfl (fun hb41 => ?_) (fun hb41 => ?_)
  ·have h42 := cond_t hb39 hb41
   refine Sc ?_
   refine thenQ_nrm ?_
   refine Sq ?_
   refine Bk ?_
   refine Sq ?_
   obtain ⟨j49, hj57, h58⟩ := bind_some h42
   refine CWP.regionD (by kernel_rfl) (by kernel_rfl) (by kernel_rfl) (by kernel_rfl) (z := 17) (F := F1) (Lc := [es17_1, (some b7, (.cells #[(.slice as17_1 s17.2.length ns17_1), (.slice none ([] : List Tie).length 0), (.int .i64 x0.Window)] 25 (0, 0))), (some b4, (.cells #[(.slice none ([] : List Track).length 0), (.slice none ([] : List Tie).length 0), (.int .i64 0)] 25 (0, 0))), (some b1, (.cells #[(.slice a0_0 x0.Tracks.length n0_0), (.slice a0_1 x0.Ties.length n0_1), (.int .i64 x0.Window)] 25 (0, 0)))]) (Lz := []) (l := [false, false, false, false, false, false, false, false, false, false, false, false, false, false, false, false, false, false]) (fuel := 18) (by kernel_rfl) (by kernel_rfl) hs19 (by simp) (by simp) (fun f w => ∃ (F3 : Mem) (b48 : Nat), HS w0 F0 w F3 [(some b48, (.cells #[(.int .i64 j49.1), (.int .i64 j49.2), (.slice none ([] : List Int).length 0), (.slice none ([] : List Int).length 0)] 54 (0, 0))), es17_1, (some b7, (.cells #[(.slice as17_1 s17.2.length ns17_1), (.slice none ([] : List Tie).length 0), (.int .i64 x0.Window)] 25 (0, 0))), (some b4, (.cells #[(.slice none ([] : List Track).length 0), (.slice none ([] : List Tie).length 0), (.int .i64 0)] 25 (0, 0))), (some b1, (.cells #[(.slice a0_0 x0.Tracks.length n0_0), (.slice a0_1 x0.Ties.length n0_1), (.int .i64 x0.Window)] 25 (0, 0)))] ∧ Mem.le F1 F3 ∧ f.d = [] ∧ f 1 = (.int .i64 x1) ∧ f 2 = (.pointer (some ⟨b1, 0, none⟩)) ∧ f 4 = (.pointer (some ⟨b4, 0, none⟩)) ∧ f 5 = (.pointer (some ⟨b7, 0, none⟩)) ∧ f 6 = (.int .i64 s17.1) ∧ f 7 = (.pointer (some ⟨b48, 0, none⟩))) (fun wd43 hw44 => ?_) ?_
   ·refine Df 0 21 0 (.pointer (some ⟨b1, 0, none⟩)) (fun _ hq => fa 25 2 0 0 1 b1 0 0 e23) ?_
    refine Df 1 22 22 _ (fun _ hq => ld 22 21 b1 0 false 1 (.slice a0_0 x0.Tracks.length n0_0) (hq.1.2 3 _ _ rfl)) ?_
    refine Df 2 23 3 _ (fun _ hq => mv 6 (.int .i64 s17.1) e26) ?_
    obtain ⟨x59, hx60, h62⟩ := bind_some hj57
    obtain ⟨hi61, hx60'⟩ := idx_spec hx60
    obtain ⟨b63, o64, C65, E66, fz67, rfl, hF69, hE70⟩ := SlA.open (SlA.mono hs0_0 le20) hx60'
    obtain ⟨ae71_2, ne71_2, ae71_3, ne71_3, hc72, hbe71_2, hse71_2, hbe71_3, hse71_3⟩ := hE70 _ _ hx60'
    refine Df 3 24 0 (.pointer (some ⟨b63, (o64 + (s17.1 : Int).toNat * 4), none⟩)) (fun _ hq => ix 22 22 23 b63 o64 54 4 64 hi61) ?_
    refine Df 4 25 0 (.pointer (some ⟨b63, (o64 + (s17.1 : Int).toNat * 4), none⟩)) (fun _ hq => fa 54 24 0 0 3 b63 (o64 + (s17.1 : Int).toNat * 4) (o64 + (s17.1 : Int).toNat * 4)) ?_
    refine Df 5 26 0 (.pointer (some ⟨b63, (o64 + (s17.1 : Int).toNat * 4), none⟩)) (fun _ hq => fa 52 25 0 0 1 b63 (o64 + (s17.1 : Int).toNat * 4) (o64 + (s17.1 : Int).toNat * 4)) ?_
    refine Df 6 27 3 _ (fun _ hq => lx 3 26 0 4 false 1 (.int .i64 x59.Clock.Slip) (hq.1.1 _ _ hF69) hc72) ?_
    refine Df 7 28 0 (.pointer (some ⟨b1, 0, none⟩)) (fun _ hq => fa 25 2 0 0 1 b1 0 0 e23) ?_
    refine Df 8 29 22 _ (fun _ hq => ld 22 28 b1 0 false 1 (.slice (some ⟨b63, o64, none⟩) x0.Tracks.length n0_0) (hq.1.2 3 _ _ rfl)) ?_
    refine Df 9 30 3 _ (fun _ hq => mv 6 (.int .i64 s17.1) e26) ?_
    obtain ⟨x73, hx74, h76⟩ := bind_some h62
    obtain ⟨hi75, hx74'⟩ := idx_spec hx74
    obtain ⟨ae77_2, ne77_2, ae77_3, ne77_3, hc78, hbe77_2, hse77_2, hbe77_3, hse77_3⟩ := hE70 _ _ hx74'
    refine Df 10 31 0 (.pointer (some ⟨b63, (o64 + (s17.1 : Int).toNat * 4), none⟩)) (fun _ hq => ix 22 29 30 b63 o64 54 4 64 hi75) ?_
    refine Df 11 32 0 (.pointer (some ⟨b63, (o64 + (s17.1 : Int).toNat * 4), none⟩)) (fun _ hq => fa 54 31 0 0 3 b63 (o64 + (s17.1 : Int).toNat * 4) (o64 + (s17.1 : Int).toNat * 4)) ?_
    refine Df 12 33 0 (.pointer (some ⟨b63, ((o64 + (s17.1 : Int).toNat * 4) + 1), none⟩)) (fun _ hq => fa 52 32 1 1 1 b63 (o64 + (s17.1 : Int).toNat * 4) ((o64 + (s17.1 : Int).toNat * 4) + 1)) ?_
    refine Df 13 34 3 _ (fun _ hq => lx 3 33 1 4 false 1 (.int .i64 x73.Clock.Drift) (hq.1.1 _ _ hF69) hc78) ?_
    refine Df 14 35 52 (.agg #[(.int .i64 x59.Clock.Slip), (.int .i64 x73.Clock.Drift), (.slice none ([] : List Int).length 0)]) (fun _ hq => run_build2 (t := 52) (parts := #[(0, (.tmp 27)), (1, (.tmp 34))]) (vs := [(0, (.int .i64 x59.Clock.Slip)), (1, (.int .i64 x73.Clock.Drift))]) (rfl) (cs := [(.int .i64 x59.Clock.Slip), (.int .i64 x73.Clock.Drift), (.slice none ([] : List Int).length 0)]) (by kernel_rfl)) ?_
    refine Df 15 36 54 (.agg #[(.int .i64 x59.Clock.Slip), (.int .i64 x73.Clock.Drift), (.slice none ([] : List Int).length 0), (.slice none ([] : List Int).length 0)]) (fun _ hq => run_build2 (t := 54) (parts := #[(0, (.tmp 35))]) (vs := [(0, (.agg #[(.int .i64 x59.Clock.Slip), (.int .i64 x73.Clock.Drift), (.slice none ([] : List Int).length 0)]))]) (rfl) (cs := [(.int .i64 x59.Clock.Slip), (.int .i64 x73.Clock.Drift), (.slice none ([] : List Int).length 0), (.slice none ([] : List Int).length 0)]) (by kernel_rfl)) ?_
    refine DWP.one (i := 16) (by kernel_rfl) ?_
    refine DStep.alloc (l' := [true, true, true, true, true, true, true, true, true, true, true, true, true, true, true, true, true, false]) (zd := false) (by kernel_rfl) (by kernel_rfl) (dst := (some 7)) (ty := 0) (g := none) (by kernel_rfl) rfl (t := 54) (z := (.agg #[(.int .i64 0), (.int .i64 0), (.slice none ([] : List Int).length 0), (.slice none ([] : List Int).length 0)])) (by kernel_rfl) (C := #[(.int .i64 0), (.int .i64 0), (.slice none ([] : List Int).length 0), (.slice none ([] : List Int).length 0)]) rfl hw44 (Mem.le.refl _) (by simp) (fun _ => by simp) (fun b79 w80 (hs81 : HS w0 F0 w80 F1 [(some b79, (.cells #[(.int .i64 0), (.int .i64 0), (.slice none ([] : List Int).length 0), (.slice none ([] : List Int).length 0)] 54 (0, 0))), es17_1, (some b7, (.cells #[(.slice as17_1 s17.2.length ns17_1), (.slice none ([] : List Tie).length 0), (.int .i64 x0.Window)] 25 (0, 0))), (some b4, (.cells #[(.slice none ([] : List Track).length 0), (.slice none ([] : List Tie).length 0), (.int .i64 0)] 25 (0, 0))), (some b1, (.cells #[(.slice (some ⟨b63, o64, none⟩) x0.Tracks.length n0_0), (.slice a0_1 x0.Ties.length n0_1), (.int .i64 x0.Window)] 25 (0, 0)))]) => ?_)
    refine DWP.one (i := 17) (by kernel_rfl) ?_
    refine DStep.store (l' := [true, true, true, true, true, true, true, true, true, true, true, true, true, true, true, true, true, true]) (zd := true) (by kernel_rfl) (by kernel_rfl) (ty := 0) (g := none) (by kernel_rfl) rfl (x := (.tmp 7)) (y := (.tmp 36)) (t := 54) (gg := true) (s := 4) (v := (.agg #[(.int .i64 x59.Clock.Slip), (.int .i64 x73.Clock.Drift), (.slice none ([] : List Int).length 0), (.slice none ([] : List Int).length 0)])) (b := b79) (o := 0) (C := #[(.int .i64 0), (.int .i64 0), (.slice none ([] : List Int).length 0), (.slice none ([] : List Int).length 0)]) rfl rfl (by kernel_rfl) hs81 (k := 0) rfl rfl rfl rfl (C' := #[(.int .i64 x59.Clock.Slip), (.int .i64 x73.Clock.Drift), (.slice none ([] : List Int).length 0), (.slice none ([] : List Int).length 0)]) rfl (Mem.le.refl _) (by simp) (fun e => by cases e) (fun w82 (hs83 : HS w0 F0 w82 F1 [(some b79, (.cells #[(.int .i64 x59.Clock.Slip), (.int .i64 x73.Clock.Drift), (.slice none ([] : List Int).length 0), (.slice none ([] : List Int).length 0)] 54 (0, 0))), es17_1, (some b7, (.cells #[(.slice as17_1 s17.2.length ns17_1), (.slice none ([] : List Tie).length 0), (.int .i64 x0.Window)] 25 (0, 0))), (some b4, (.cells #[(.slice none ([] : List Track).length 0), (.slice none ([] : List Tie).length 0), (.int .i64 0)] 25 (0, 0))), (some b1, (.cells #[(.slice (some ⟨b63, o64, none⟩) x0.Tracks.length n0_0), (.slice a0_1 x0.Ties.length n0_1), (.int .i64 x0.Window)] 25 (0, 0)))]) => ?_)
    obtain rfl := some_inj h76
    exact DWP.done (by kernel_rfl) ⟨F1, b79, hs83, (Mem.le.refl _), e21, e22, e23, e24, e25, e26, rfl⟩
   ·rintro f w45 ⟨F3, b48, hs46, le47, e50, e51, e52, e53, e54, e55, e56⟩
    refine thenQ_nrm ?_
    refine Sq ?_
    refine Sq (Rg [0] ?_)
    refine V 8 3 (mc (.int .i64 0) (.int .i64 0)) ?_
    refine Nt ?_
    have hs84 : HS w0 F0 w45 F3 [(none, .cells #[] 0 (0, 0)), (some b48, (.cells #[(.int .i64 j49.1), (.int .i64 j49.2), (.slice none ([] : List Int).length 0), (.slice none ([] : List Int).length 0)] 54 (0, 0))), es17_1, (some b7, (.cells #[(.slice as17_1 s17.2.length ns17_1), (.slice none ([] : List Tie).length 0), (.int .i64 x0.Window)] 25 (0, 0))), (some b4, (.cells #[(.slice none ([] : List Track).length 0), (.slice none ([] : List Tie).length 0), (.int .i64 0)] 25 (0, 0))), (some b1, (.cells #[(.slice a0_0 x0.Tracks.length n0_0), (.slice a0_1 x0.Ties.length n0_1), (.int .i64 x0.Window)] 25 (0, 0)))] := hs46.dummy _
    obtain ⟨o86, ho87, h88⟩ := bind_some h58
    refine CWP.cut (fun f w => ∃ (s101 : (Int × List Int)) (F5 : Mem) (as101_1 : Option Addr) (ns101_1 : Nat) (es101_1 : Option Nat × Obj), o86 = .done s101 ∧ HS w0 F0 w F5 [es101_1, (some b48, (.cells #[(.int .i64 j49.1), (.int .i64 j49.2), (.slice as101_1 s101.2.length ns101_1), (.slice none ([] : List Int).length 0)] 54 (0, 0))), es17_1, (some b7, (.cells #[(.slice as17_1 s17.2.length ns17_1), (.slice none ([] : List Tie).length 0), (.int .i64 x0.Window)] 25 (0, 0))), (some b4, (.cells #[(.slice none ([] : List Track).length 0), (.slice none ([] : List Tie).length 0), (.int .i64 0)] 25 (0, 0))), (some b1, (.cells #[(.slice a0_0 x0.Tracks.length n0_0), (.slice a0_1 x0.Ties.length n0_1), (.int .i64 x0.Window)] 25 (0, 0)))] ∧ Mem.le F3 F5 ∧ f.d = [] ∧ f 1 = (.int .i64 x1) ∧ f 2 = (.pointer (some ⟨b1, 0, none⟩)) ∧ f 4 = (.pointer (some ⟨b4, 0, none⟩)) ∧ f 5 = (.pointer (some ⟨b7, 0, none⟩)) ∧ f 6 = (.int .i64 s17.1) ∧ f 7 = (.pointer (some ⟨b48, 0, none⟩)) ∧ RowR tInt 3 F5 as101_1 ns101_1 s101.2 es101_1) ?_ ?_
    ·refine Bk ?_
     refine CWP.loop (by kernel_rfl) (fun m f w => ∃ (s89 : (Int × List Int)) (F4 : Mem) (as89_1 : Option Addr) (ns89_1 : Nat) (es89_1 : Option Nat × Obj), iter (law03_moved_L1 N x0 x1 s17 j49) m s89 = some o86 ∧ HS w0 F0 w F4 [es89_1, (some b48, (.cells #[(.int .i64 j49.1), (.int .i64 j49.2), (.slice as89_1 s89.2.length ns89_1), (.slice none ([] : List Int).length 0)] 54 (0, 0))), es17_1, (some b7, (.cells #[(.slice as17_1 s17.2.length ns17_1), (.slice none ([] : List Tie).length 0), (.int .i64 x0.Window)] 25 (0, 0))), (some b4, (.cells #[(.slice none ([] : List Track).length 0), (.slice none ([] : List Tie).length 0), (.int .i64 0)] 25 (0, 0))), (some b1, (.cells #[(.slice a0_0 x0.Tracks.length n0_0), (.slice a0_1 x0.Ties.length n0_1), (.int .i64 x0.Window)] 25 (0, 0)))] ∧ Mem.le F3 F4 ∧ f.d = [] ∧ f 1 = (.int .i64 x1) ∧ f 2 = (.pointer (some ⟨b1, 0, none⟩)) ∧ f 4 = (.pointer (some ⟨b4, 0, none⟩)) ∧ f 5 = (.pointer (some ⟨b7, 0, none⟩)) ∧ f 6 = (.int .i64 s17.1) ∧ f 7 = (.pointer (some ⟨b48, 0, none⟩)) ∧ f 8 = (.int .i64 s89.1) ∧ RowR tInt 3 F4 as89_1 ns89_1 s89.2 es89_1) N ⟨(0, ([] : List Int)), F3, none, 0, (none, .cells #[] 0 (0, 0)), ho87, hs84, (Mem.le.refl _), e50, e51, e52, e53, e54, e55, e56, rfl, (RowR.nil tInt 3 F3 _)⟩ ?_
     rintro m112 f w90 ⟨s89, F4, as89_1, ns89_1, es89_1, hit113, hs91, le92, e93, e94, e95, e96, e97, e98, e99, e100, hrs89_1⟩
     obtain ⟨m114, fl115, rfl, hb116, hnx117⟩ := iter_step hit113
     refine Sq ?_
     refine Sq (Rg [0, 1, 2, 3, 4, 5, 6, 7, 8, 9] ?_)
     refine V 37 3 (mv 8 (.int .i64 s89.1) e100) ?_
     refine V 38 0 (fa 25 2 0 0 1 b1 0 0 e95) ?_
     refine V 39 22 (ld 22 38 b1 0 false 1 (.slice a0_0 x0.Tracks.length n0_0) (hs91.ownAt (k := 5) rfl)) ?_
     refine V 40 3 (mv 6 (.int .i64 s17.1) e98) ?_
     obtain ⟨x118, hx119, h121⟩ := bind_some hb116
     obtain ⟨hi120, hx119'⟩ := idx_spec hx119
     obtain ⟨b122, o123, C124, E125, fz126, rfl, hF128, hE129⟩ := SlA.open (SlA.mono hs0_0 ((le20.trans le47).trans le92)) hx119'
     obtain ⟨ae130_2, ne130_2, ae130_3, ne130_3, hc131, hbe130_2, hse130_2, hbe130_3, hse130_3⟩ := hE129 _ _ hx119'
     refine V 41 0 (ix 22 39 40 b122 o123 54 4 64 hi120) ?_
     refine V 42 0 (fa 54 41 0 0 3 b122 (o123 + (s17.1 : Int).toNat * 4) (o123 + (s17.1 : Int).toNat * 4)) ?_
     refine V 43 0 (fa 52 42 2 2 1 b122 (o123 + (s17.1 : Int).toNat * 4) ((o123 + (s17.1 : Int).toNat * 4) + 2)) ?_
     refine V 44 50 (lx 50 43 2 4 false 1 (.slice ae130_2 x118.Clock.Jumps.length ne130_2) (hs91.pers _ _ hF128) hc131) ?_
     refine V 45 3 (ln 44 50 ae130_2 x118.Clock.Jumps.length ne130_2 3 1 8) ?_
     refine V 46 4 (run_lss (t := 3) (t' := 3) (x := (.tmp 37)) (y := (.tmp 45)) (k := .i64) (a := s89.1) (b := (x118.Clock.Jumps.length : Int)) rfl rfl) ?_
     refine Nt ?_
     refine CWP.cond (t := (decide (s89.1 < (x118.Clock.Jumps.length : Int)))) (by kernel_rfl) rfl (fun hb132 => ?_) (fun hb132 => ?_)
     ·have h133 := cond_t h121 hb132
      refine Sc ?_
      refine thenQ_nrm ?_
      refine Sq ?_
      refine Bk ?_
      obtain ⟨j139, hj148, h149⟩ := bind_some h133
      refine CWP.regionD (by kernel_rfl) (by kernel_rfl) (by kernel_rfl) (by kernel_rfl) (z := 19) (F := F4) (Lc := [es17_1, (some b7, (.cells #[(.slice as17_1 s17.2.length ns17_1), (.slice none ([] : List Tie).length 0), (.int .i64 x0.Window)] 25 (0, 0))), (some b4, (.cells #[(.slice none ([] : List Track).length 0), (.slice none ([] : List Tie).length 0), (.int .i64 0)] 25 (0, 0))), (some b1, (.cells #[(.slice (some ⟨b122, o123, none⟩) x0.Tracks.length n0_0), (.slice a0_1 x0.Ties.length n0_1), (.int .i64 x0.Window)] 25 (0, 0)))]) (Lz := [(some b48, (.cells #[(.int .i64 j49.1), (.int .i64 j49.2), (.slice as89_1 s89.2.length ns89_1), (.slice none ([] : List Int).length 0)] 54 (0, 0)))]) (l := [false, false, false, false, false, false, false, false, false, false, false, false, false, false, false, false, false, false, false, false]) (fuel := 20) (by kernel_rfl) (by kernel_rfl) hs91 (by simp) (by simp) (fun f w => ∃ (F6 : Mem) (aj139_0 : Option Addr) (nj139_0 : Nat) (ej139_0 : Option Nat × Obj), HS w0 F0 w F6 [ej139_0, (some b48, (.cells #[(.int .i64 j49.1), (.int .i64 j49.2), (.slice aj139_0 j139.length nj139_0), (.slice none ([] : List Int).length 0)] 54 (0, 0))), es17_1, (some b7, (.cells #[(.slice as17_1 s17.2.length ns17_1), (.slice none ([] : List Tie).length 0), (.int .i64 x0.Window)] 25 (0, 0))), (some b4, (.cells #[(.slice none ([] : List Track).length 0), (.slice none ([] : List Tie).length 0), (.int .i64 0)] 25 (0, 0))), (some b1, (.cells #[(.slice (some ⟨b122, o123, none⟩) x0.Tracks.length n0_0), (.slice a0_1 x0.Ties.length n0_1), (.int .i64 x0.Window)] 25 (0, 0)))] ∧ Mem.le F4 F6 ∧ f.d = [] ∧ f 1 = (.int .i64 x1) ∧ f 2 = (.pointer (some ⟨b1, 0, none⟩)) ∧ f 4 = (.pointer (some ⟨b4, 0, none⟩)) ∧ f 5 = (.pointer (some ⟨b7, 0, none⟩)) ∧ f 6 = (.int .i64 s17.1) ∧ f 7 = (.pointer (some ⟨b48, 0, none⟩)) ∧ f 8 = (.int .i64 s89.1) ∧ RowR tInt 3 F6 aj139_0 nj139_0 j139 ej139_0) (fun wd134 hw135 => ?_) ?_
      ·refine Dfl 0 49 0 (.pointer (some ⟨b48, 0, none⟩)) [tt, ff, ff, ff, ff, ff, ff, ff, ff, ff, ff, ff, ff, ff, ff, ff, ff, ff, ff, ff] (fun _ hq => fa 54 7 0 0 3 b48 0 0 e99) ?_
       refine Dfl 1 50 0 (.pointer (some ⟨b48, 2, none⟩)) [tt, tt, ff, ff, ff, ff, ff, ff, ff, ff, ff, ff, ff, ff, ff, ff, ff, ff, ff, ff] (fun _ hq => fa 52 49 2 2 1 b48 0 2) ?_
       refine Dfl 2 51 50 _ [tt, tt, tt, ff, ff, ff, ff, ff, ff, ff, ff, ff, ff, ff, ff, ff, ff, ff, ff, ff] (fun _ hq => ld 50 50 b48 2 false 1 (.slice as89_1 s89.2.length ns89_1) ((hq.2 rfl).2 0 _ _ rfl)) ?_
       refine Dfl 3 52 0 (.pointer (some ⟨b1, 0, none⟩)) [tt, tt, tt, tt, ff, ff, ff, ff, ff, ff, ff, ff, ff, ff, ff, ff, ff, ff, ff, ff] (fun _ hq => fa 25 2 0 0 1 b1 0 0 e95) ?_
       refine Dfl 4 53 22 _ [tt, tt, tt, tt, tt, ff, ff, ff, ff, ff, ff, ff, ff, ff, ff, ff, ff, ff, ff, ff] (fun _ hq => ld 22 52 b1 0 false 1 (.slice (some ⟨b122, o123, none⟩) x0.Tracks.length n0_0) (hq.1.2 3 _ _ rfl)) ?_
       refine Dfl 5 54 3 _ [tt, tt, tt, tt, tt, tt, ff, ff, ff, ff, ff, ff, ff, ff, ff, ff, ff, ff, ff, ff] (fun _ hq => mv 6 (.int .i64 s17.1) e98) ?_
       obtain ⟨x150, hx151, h153⟩ := bind_some hj148
       obtain ⟨hi152, hx151'⟩ := idx_spec hx151
       obtain ⟨ae154_2, ne154_2, ae154_3, ne154_3, hc155, hbe154_2, hse154_2, hbe154_3, hse154_3⟩ := hE129 _ _ hx151'
       refine Dfl 6 55 0 (.pointer (some ⟨b122, (o123 + (s17.1 : Int).toNat * 4), none⟩)) [tt, tt, tt, tt, tt, tt, tt, ff, ff, ff, ff, ff, ff, ff, ff, ff, ff, ff, ff, ff] (fun _ hq => ix 22 53 54 b122 o123 54 4 64 hi152) ?_
       refine Dfl 7 56 0 (.pointer (some ⟨b122, (o123 + (s17.1 : Int).toNat * 4), none⟩)) [tt, tt, tt, tt, tt, tt, tt, tt, ff, ff, ff, ff, ff, ff, ff, ff, ff, ff, ff, ff] (fun _ hq => fa 54 55 0 0 3 b122 (o123 + (s17.1 : Int).toNat * 4) (o123 + (s17.1 : Int).toNat * 4)) ?_
       refine Dfl 8 57 0 (.pointer (some ⟨b122, ((o123 + (s17.1 : Int).toNat * 4) + 2), none⟩)) [tt, tt, tt, tt, tt, tt, tt, tt, tt, ff, ff, ff, ff, ff, ff, ff, ff, ff, ff, ff] (fun _ hq => fa 52 56 2 2 1 b122 (o123 + (s17.1 : Int).toNat * 4) ((o123 + (s17.1 : Int).toNat * 4) + 2)) ?_
       refine Dfl 9 58 50 _ [tt, tt, tt, tt, tt, tt, tt, tt, tt, tt, ff, ff, ff, ff, ff, ff, ff, ff, ff, ff] (fun _ hq => lx 50 57 2 4 false 1 (.slice ae154_2 x150.Clock.Jumps.length ne154_2) (hq.1.1 _ _ hF128) hc155) ?_
       refine Dfl 10 59 3 _ [tt, tt, tt, tt, tt, tt, tt, tt, tt, tt, tt, ff, ff, ff, ff, ff, ff, ff, ff, ff] (fun _ hq => mv 8 (.int .i64 s89.1) e100) ?_
       obtain ⟨x156, hx157, h159⟩ := bind_some h153
       obtain ⟨hi158, hx157'⟩ := idx_spec hx157
       obtain ⟨b160, o161, C162, E163, fz164, rfl, hF166, hE167⟩ := SlA.open hse154_2 hx157'
       have hc169 := hE167 _ _ hx157'
       refine Dfl 11 60 0 (.pointer (some ⟨b160, (o161 + (s89.1 : Int).toNat * 1), none⟩)) [tt, tt, tt, tt, tt, tt, tt, tt, tt, tt, tt, tt, ff, ff, ff, ff, ff, ff, ff, ff] (fun _ hq => ix 50 58 59 b160 o161 3 1 8 hi158) ?_
       refine Dfl 12 61 3 _ [tt, tt, tt, tt, tt, tt, tt, tt, tt, tt, tt, tt, tt, ff, ff, ff, ff, ff, ff, ff] (fun _ hq => lx 3 60 0 1 false 1 (.int .i64 x156) (hq.1.1 _ _ hF166) hc169) ?_
       refine Dfl 13 62 3 _ [tt, tt, tt, tt, tt, tt, tt, tt, tt, tt, tt, tt, tt, tt, ff, ff, ff, ff, ff, ff] (fun _ hq => mv 1 (.int .i64 x1) e94) ?_
       refine Dfl 14 63 3 (.int .i64 (W64 (x156 + x1))) [tt, tt, tt, tt, tt, tt, tt, tt, tt, tt, tt, tt, tt, tt, tt, ff, ff, ff, ff, ff] (fun _ hq => run_add (t := 3) (t' := 3) (x := (.tmp 61)) (y := (.tmp 62)) (k := .i64) (a := x156) (b := x1) rfl rfl) ?_
       refine DWP.one (i := 15) (by kernel_rfl) ?_
       refine DStep.buildSlice (l' := [true, true, true, true, true, true, true, true, true, true, true, true, true, true, true, true, false, false, false, false]) (zd := false) (by kernel_rfl) (by kernel_rfl) (dst := (some 64)) (ty := 50) (g := none) (by kernel_rfl) rfl (t := 50) (len := 1) (parts := #[(0, (.tmp 63))]) (vs := [(0, (.int .i64 (W64 (x156 + x1))))]) (rfl) (E := 3) (cs := [(.int .i64 (W64 (x156 + x1)))]) (by kernel_rfl) hw135 (Mem.le.refl _) (by simp) (fun _ => by simp) (fun b170 w171 (hs172 : HS w0 F0 w171 F4 [(some b170, .cells ([(.int .i64 (W64 (x156 + x1)))] : List Value).toArray 3 (0, 0)), es89_1, (some b48, (.cells #[(.int .i64 j49.1), (.int .i64 j49.2), (.slice as89_1 s89.2.length ns89_1), (.slice none ([] : List Int).length 0)] 54 (0, 0))), es17_1, (some b7, (.cells #[(.slice as17_1 s17.2.length ns17_1), (.slice none ([] : List Tie).length 0), (.int .i64 x0.Window)] 25 (0, 0))), (some b4, (.cells #[(.slice none ([] : List Track).length 0), (.slice none ([] : List Tie).length 0), (.int .i64 0)] 25 (0, 0))), (some b1, (.cells #[(.slice (some ⟨b122, o123, none⟩) x0.Tracks.length n0_0), (.slice a0_1 x0.Ties.length n0_1), (.int .i64 x0.Window)] 25 (0, 0)))]) => ?_)
       have hr174 : RowR tInt 3 F4 (some ⟨b170, 0, none⟩) 1 [(W64 (x156 + x1))] (some b170, .cells ([(.int .i64 (W64 (x156 + x1)))] : List Value).toArray 3 (0, 0)) := RowR.lit ⟨rfl, rfl⟩ (by simp)
       refine DWP.one (i := 16) (by kernel_rfl) ?_
       obtain ⟨r175, hap176, h177⟩ := bind_some h159
       refine DStep.append (l' := [true, true, true, true, true, true, true, true, true, true, true, true, true, true, true, true, true, false, false, false]) (zd := false) (by kernel_rfl) (by kernel_rfl) (dst := (some 65)) (ty := 50) (g := none) (by kernel_rfl) rfl (x := (.tmp 51)) (y := (.tmp 64)) (t := 50) (t2 := 50) (by_ := 8) (z := (.int .i64 0)) (a2 := (some ⟨b170, 0, none⟩)) (c2 := 1) (m := [(W64 (x156 + x1))]) (T := tInt) (E := 3) (a := as89_1) (cap := ns89_1) (l := s89.2) rfl rfl (by kernel_rfl) (by decide) (by kernel_rfl) (by kernel_rfl) rfl oInt hs172 (k := 1) rfl hrs89_1 (RowR.rd hs172 (k := 0) rfl hr174) (r := r175) hap176 (Mem.le.refl _) (fun _ => by simp) (fun _ _ => by simp) (fun a178 n179 e180 w181 (hs182 : HS w0 F0 w181 F4 [(some b170, .cells ([(.int .i64 (W64 (x156 + x1)))] : List Value).toArray 3 (0, 0)), e180, (some b48, (.cells #[(.int .i64 j49.1), (.int .i64 j49.2), (.slice as89_1 s89.2.length ns89_1), (.slice none ([] : List Int).length 0)] 54 (0, 0))), es17_1, (some b7, (.cells #[(.slice as17_1 s17.2.length ns17_1), (.slice none ([] : List Tie).length 0), (.int .i64 x0.Window)] 25 (0, 0))), (some b4, (.cells #[(.slice none ([] : List Track).length 0), (.slice none ([] : List Tie).length 0), (.int .i64 0)] 25 (0, 0))), (some b1, (.cells #[(.slice (some ⟨b122, o123, none⟩) x0.Tracks.length n0_0), (.slice a0_1 x0.Ties.length n0_1), (.int .i64 x0.Window)] 25 (0, 0)))]) hr183 => ?_)
       refine DWP.one (i := 17) (by kernel_rfl) ?_
       refine DStep.val (l' := [true, true, true, true, true, true, true, true, true, true, true, true, true, true, true, true, true, true, false, false]) (zd := false) (by kernel_rfl) (by kernel_rfl) (dst := (some 66)) (ty := 0) (g := none) (by kernel_rfl) rfl (run_fieldAddr (s := 54) (x := (.tmp 7)) (i := 0) (o := 0) (k := 3) (b := b48) (o0 := 0) e99 (by kernel_rfl) rfl (o1 := 0) rfl) (dz_of hs182 (Mem.le.refl _) (by simp) (fun _ => by simp)) ?_
       refine Dfl 18 67 0 (.pointer (some ⟨b48, 2, none⟩)) [tt, tt, tt, tt, tt, tt, tt, tt, tt, tt, tt, tt, tt, tt, tt, tt, tt, tt, tt, ff] (fun _ hq => fa 52 66 2 2 1 b48 0 2) ?_
       refine DWP.one (i := 19) (by kernel_rfl) ?_
       refine DStep.store (l' := [true, true, true, true, true, true, true, true, true, true, true, true, true, true, true, true, true, true, true, true]) (zd := true) (by kernel_rfl) (by kernel_rfl) (ty := 0) (g := none) (by kernel_rfl) rfl (x := (.tmp 67)) (y := (.tmp 65)) (t := 50) (gg := false) (s := 1) (v := (.slice a178 r175.length n179)) (b := b48) (o := 2) (C := #[(.int .i64 j49.1), (.int .i64 j49.2), (.slice as89_1 s89.2.length ns89_1), (.slice none ([] : List Int).length 0)]) rfl rfl (by kernel_rfl) hs182 (k := 2) rfl rfl rfl rfl (C' := #[(.int .i64 j49.1), (.int .i64 j49.2), (.slice a178 r175.length n179), (.slice none ([] : List Int).length 0)]) rfl (Mem.le.refl _) (by simp) (fun e => by cases e) (fun w184 (hs185 : HS w0 F0 w184 F4 [(some b170, .cells ([(.int .i64 (W64 (x156 + x1)))] : List Value).toArray 3 (0, 0)), e180, (some b48, (.cells #[(.int .i64 j49.1), (.int .i64 j49.2), (.slice a178 r175.length n179), (.slice none ([] : List Int).length 0)] 54 (0, 0))), es17_1, (some b7, (.cells #[(.slice as17_1 s17.2.length ns17_1), (.slice none ([] : List Tie).length 0), (.int .i64 x0.Window)] 25 (0, 0))), (some b4, (.cells #[(.slice none ([] : List Track).length 0), (.slice none ([] : List Tie).length 0), (.int .i64 0)] 25 (0, 0))), (some b1, (.cells #[(.slice (some ⟨b122, o123, none⟩) x0.Tracks.length n0_0), (.slice a0_1 x0.Ties.length n0_1), (.int .i64 x0.Window)] 25 (0, 0)))]) => ?_)
       obtain rfl := some_inj h177
       have hs186 : HS w0 F0 w184 F4 [e180, (some b48, (.cells #[(.int .i64 j49.1), (.int .i64 j49.2), (.slice a178 r175.length n179), (.slice none ([] : List Int).length 0)] 54 (0, 0))), es17_1, (some b7, (.cells #[(.slice as17_1 s17.2.length ns17_1), (.slice none ([] : List Tie).length 0), (.int .i64 x0.Window)] 25 (0, 0))), (some b4, (.cells #[(.slice none ([] : List Track).length 0), (.slice none ([] : List Tie).length 0), (.int .i64 0)] 25 (0, 0))), (some b1, (.cells #[(.slice (some ⟨b122, o123, none⟩) x0.Tracks.length n0_0), (.slice a0_1 x0.Ties.length n0_1), (.int .i64 x0.Window)] 25 (0, 0)))] := hs185.drop 0
       exact DWP.done (by kernel_rfl) ⟨F4, a178, n179, e180, hs186, (Mem.le.refl _), e93, e94, e95, e96, e97, e98, e99, e100, hr183⟩
      ·rintro f w136 ⟨F6, aj139_0, nj139_0, ej139_0, hs137, le138, e140, e141, e142, e143, e144, e145, e146, e147, hrj139_0⟩
       refine blockQ_nrm ?_
       refine thenQ_nrm ?_
       refine Rg [0, 1, 2] ?_
       refine V 47 3 (mv 8 (.int .i64 s89.1) e147) ?_
       refine V 48 3 (run_add (t := 3) (t' := 3) (x := (.tmp 47)) (y := (.const (.int .i64 1))) (k := .i64) (a := s89.1) (b := 1) rfl rfl) ?_
       refine V 8 3 (ma 48 (.int .i64 (W64 (s89.1 + 1)))) ?_
       refine RWP.nil ?_
       have hn187 := iter_next h149 hnx117
       exact ⟨m114, Nat.lt_succ_self _, ((W64 (s89.1 + 1)), j139), F6, aj139_0, nj139_0, ej139_0, hn187, hs137, (le92.trans le138), e140, e141, e142, e143, e144, e145, e146, rfl, hrj139_0⟩
     ·have h188 := cond_f h121 hb132
      refine CWP.exit (by kernel_rfl) ?_
      refine thenQ_ex ?_
      refine thenQ_ex ?_
      refine blockQ_hit rfl ?_
      have ho189 := iter_done h188 hnx117
      exact .inl ⟨rfl, (s89.1, s89.2), F4, as89_1, ns89_1, es89_1, ho189, hs91, le92, e93, e94, e95, e96, e97, e98, e99, hrs89_1⟩
    ·rintro f w102 ⟨s101, F5, as101_1, ns101_1, es101_1, rfl, hs103, le104, e105, e106, e107, e108, e109, e110, e111, hrs101_1⟩
     have h190 := k_done h88
     refine thenQ_nrm ?_
     refine Sq ?_
     refine Sq (Rg [0] ?_)
     refine V 9 3 (mc (.int .i64 0) (.int .i64 0)) ?_
     refine Nt ?_
     have hs191 : HS w0 F0 w102 F5 [(none, .cells #[] 0 (0, 0)), es101_1, (some b48, (.cells #[(.int .i64 j49.1), (.int .i64 j49.2), (.slice as101_1 s101.2.length ns101_1), (.slice none ([] : List Int).length 0)] 54 (0, 0))), es17_1, (some b7, (.cells #[(.slice as17_1 s17.2.length ns17_1), (.slice none ([] : List Tie).length 0), (.int .i64 x0.Window)] 25 (0, 0))), (some b4, (.cells #[(.slice none ([] : List Track).length 0), (.slice none ([] : List Tie).length 0), (.int .i64 0)] 25 (0, 0))), (some b1, (.cells #[(.slice a0_0 x0.Tracks.length n0_0), (.slice a0_1 x0.Ties.length n0_1), (.int .i64 x0.Window)] 25 (0, 0)))] := hs103.dummy _
     obtain ⟨o193, ho194, h195⟩ := bind_some h190
     refine CWP.cut (fun f w => ∃ (s208 : (Int × List Int)) (F8 : Mem) (as208_1 : Option Addr) (ns208_1 : Nat) (es208_1 : Option Nat × Obj), o193 = .done s208 ∧ HS w0 F0 w F8 [es208_1, es101_1, (some b48, (.cells #[(.int .i64 j49.1), (.int .i64 j49.2), (.slice as101_1 s101.2.length ns101_1), (.slice as208_1 s208.2.length ns208_1)] 54 (0, 0))), es17_1, (some b7, (.cells #[(.slice as17_1 s17.2.length ns17_1), (.slice none ([] : List Tie).length 0), (.int .i64 x0.Window)] 25 (0, 0))), (some b4, (.cells #[(.slice none ([] : List Track).length 0), (.slice none ([] : List Tie).length 0), (.int .i64 0)] 25 (0, 0))), (some b1, (.cells #[(.slice a0_0 x0.Tracks.length n0_0), (.slice a0_1 x0.Ties.length n0_1), (.int .i64 x0.Window)] 25 (0, 0)))] ∧ Mem.le F5 F8 ∧ f.d = [] ∧ f 1 = (.int .i64 x1) ∧ f 2 = (.pointer (some ⟨b1, 0, none⟩)) ∧ f 4 = (.pointer (some ⟨b4, 0, none⟩)) ∧ f 5 = (.pointer (some ⟨b7, 0, none⟩)) ∧ f 6 = (.int .i64 s17.1) ∧ f 7 = (.pointer (some ⟨b48, 0, none⟩)) ∧ RowR tInt 3 F8 as208_1 ns208_1 s208.2 es208_1) ?_ ?_
     ·refine Bk ?_
      refine CWP.loop (by kernel_rfl) (fun m f w => ∃ (s196 : (Int × List Int)) (F7 : Mem) (as196_1 : Option Addr) (ns196_1 : Nat) (es196_1 : Option Nat × Obj), iter (law03_moved_L2 N x0 x1 s17 j49 s101) m s196 = some o193 ∧ HS w0 F0 w F7 [es196_1, es101_1, (some b48, (.cells #[(.int .i64 j49.1), (.int .i64 j49.2), (.slice as101_1 s101.2.length ns101_1), (.slice as196_1 s196.2.length ns196_1)] 54 (0, 0))), es17_1, (some b7, (.cells #[(.slice as17_1 s17.2.length ns17_1), (.slice none ([] : List Tie).length 0), (.int .i64 x0.Window)] 25 (0, 0))), (some b4, (.cells #[(.slice none ([] : List Track).length 0), (.slice none ([] : List Tie).length 0), (.int .i64 0)] 25 (0, 0))), (some b1, (.cells #[(.slice a0_0 x0.Tracks.length n0_0), (.slice a0_1 x0.Ties.length n0_1), (.int .i64 x0.Window)] 25 (0, 0)))] ∧ Mem.le F5 F7 ∧ f.d = [] ∧ f 1 = (.int .i64 x1) ∧ f 2 = (.pointer (some ⟨b1, 0, none⟩)) ∧ f 4 = (.pointer (some ⟨b4, 0, none⟩)) ∧ f 5 = (.pointer (some ⟨b7, 0, none⟩)) ∧ f 6 = (.int .i64 s17.1) ∧ f 7 = (.pointer (some ⟨b48, 0, none⟩)) ∧ f 9 = (.int .i64 s196.1) ∧ RowR tInt 3 F7 as196_1 ns196_1 s196.2 es196_1) N ⟨(0, ([] : List Int)), F5, none, 0, (none, .cells #[] 0 (0, 0)), ho194, hs191, (Mem.le.refl _), e105, e106, e107, e108, e109, e110, e111, rfl, (RowR.nil tInt 3 F5 _)⟩ ?_
      rintro m219 f w197 ⟨s196, F7, as196_1, ns196_1, es196_1, hit220, hs198, le199, e200, e201, e202, e203, e204, e205, e206, e207, hrs196_1⟩
      obtain ⟨m221, fl222, rfl, hb223, hnx224⟩ := iter_step hit220
      refine Sq ?_
      refine Sq (Rg [0, 1, 2, 3, 4, 5, 6, 7, 8] ?_)
      refine V 68 3 (mv 9 (.int .i64 s196.1) e207) ?_
      refine V 69 0 (fa 25 2 0 0 1 b1 0 0 e202) ?_
      refine V 70 22 (ld 22 69 b1 0 false 1 (.slice a0_0 x0.Tracks.length n0_0) (hs198.ownAt (k := 6) rfl)) ?_
      refine V 71 3 (mv 6 (.int .i64 s17.1) e205) ?_
      obtain ⟨x225, hx226, h228⟩ := bind_some hb223
      obtain ⟨hi227, hx226'⟩ := idx_spec hx226
      obtain ⟨b229, o230, C231, E232, fz233, rfl, hF235, hE236⟩ := SlA.open (SlA.mono hs0_0 (((le20.trans le47).trans le104).trans le199)) hx226'
      obtain ⟨ae237_2, ne237_2, ae237_3, ne237_3, hc238, hbe237_2, hse237_2, hbe237_3, hse237_3⟩ := hE236 _ _ hx226'
      refine V 72 0 (ix 22 70 71 b229 o230 54 4 64 hi227) ?_
      refine V 73 0 (fa 54 72 1 3 1 b229 (o230 + (s17.1 : Int).toNat * 4) ((o230 + (s17.1 : Int).toNat * 4) + 3)) ?_
      refine V 74 50 (lx 50 73 3 4 false 1 (.slice ae237_3 x225.Times.length ne237_3) (hs198.pers _ _ hF235) hc238) ?_
      refine V 75 3 (ln 74 50 ae237_3 x225.Times.length ne237_3 3 1 8) ?_
      refine V 76 4 (run_lss (t := 3) (t' := 3) (x := (.tmp 68)) (y := (.tmp 75)) (k := .i64) (a := s196.1) (b := (x225.Times.length : Int)) rfl rfl) ?_
      refine Nt ?_
      refine CWP.cond (t := (decide (s196.1 < (x225.Times.length : Int)))) (by kernel_rfl) rfl (fun hb239 => ?_) (fun hb239 => ?_)
      ·have h240 := cond_t h228 hb239
       refine Sc ?_
       refine thenQ_nrm ?_
       refine Sq ?_
       refine Bk ?_
       obtain ⟨j246, hj255, h256⟩ := bind_some h240
       refine CWP.regionD (by kernel_rfl) (by kernel_rfl) (by kernel_rfl) (by kernel_rfl) (z := 16) (F := F7) (Lc := [es101_1, es17_1, (some b7, (.cells #[(.slice as17_1 s17.2.length ns17_1), (.slice none ([] : List Tie).length 0), (.int .i64 x0.Window)] 25 (0, 0))), (some b4, (.cells #[(.slice none ([] : List Track).length 0), (.slice none ([] : List Tie).length 0), (.int .i64 0)] 25 (0, 0))), (some b1, (.cells #[(.slice (some ⟨b229, o230, none⟩) x0.Tracks.length n0_0), (.slice a0_1 x0.Ties.length n0_1), (.int .i64 x0.Window)] 25 (0, 0)))]) (Lz := [(some b48, (.cells #[(.int .i64 j49.1), (.int .i64 j49.2), (.slice as101_1 s101.2.length ns101_1), (.slice as196_1 s196.2.length ns196_1)] 54 (0, 0)))]) (l := [false, false, false, false, false, false, false, false, false, false, false, false, false, false, false, false, false]) (fuel := 17) (by kernel_rfl) (by kernel_rfl) hs198 (by simp) (by simp) (fun f w => ∃ (F9 : Mem) (aj246_0 : Option Addr) (nj246_0 : Nat) (ej246_0 : Option Nat × Obj), HS w0 F0 w F9 [ej246_0, es101_1, (some b48, (.cells #[(.int .i64 j49.1), (.int .i64 j49.2), (.slice as101_1 s101.2.length ns101_1), (.slice aj246_0 j246.length nj246_0)] 54 (0, 0))), es17_1, (some b7, (.cells #[(.slice as17_1 s17.2.length ns17_1), (.slice none ([] : List Tie).length 0), (.int .i64 x0.Window)] 25 (0, 0))), (some b4, (.cells #[(.slice none ([] : List Track).length 0), (.slice none ([] : List Tie).length 0), (.int .i64 0)] 25 (0, 0))), (some b1, (.cells #[(.slice (some ⟨b229, o230, none⟩) x0.Tracks.length n0_0), (.slice a0_1 x0.Ties.length n0_1), (.int .i64 x0.Window)] 25 (0, 0)))] ∧ Mem.le F7 F9 ∧ f.d = [] ∧ f 1 = (.int .i64 x1) ∧ f 2 = (.pointer (some ⟨b1, 0, none⟩)) ∧ f 4 = (.pointer (some ⟨b4, 0, none⟩)) ∧ f 5 = (.pointer (some ⟨b7, 0, none⟩)) ∧ f 6 = (.int .i64 s17.1) ∧ f 7 = (.pointer (some ⟨b48, 0, none⟩)) ∧ f 9 = (.int .i64 s196.1) ∧ RowR tInt 3 F9 aj246_0 nj246_0 j246 ej246_0) (fun wd241 hw242 => ?_) ?_
       ·refine Df 0 79 0 (.pointer (some ⟨b48, 3, none⟩)) (fun _ hq => fa 54 7 1 3 1 b48 0 3 e206) ?_
        refine Df 1 80 50 _ (fun _ hq => ld 50 79 b48 3 false 1 (.slice as196_1 s196.2.length ns196_1) ((hq.2 rfl).2 0 _ _ rfl)) ?_
        refine Df 2 81 0 (.pointer (some ⟨b1, 0, none⟩)) (fun _ hq => fa 25 2 0 0 1 b1 0 0 e202) ?_
        refine Df 3 82 22 _ (fun _ hq => ld 22 81 b1 0 false 1 (.slice (some ⟨b229, o230, none⟩) x0.Tracks.length n0_0) (hq.1.2 4 _ _ rfl)) ?_
        refine Df 4 83 3 _ (fun _ hq => mv 6 (.int .i64 s17.1) e205) ?_
        obtain ⟨x257, hx258, h260⟩ := bind_some hj255
        obtain ⟨hi259, hx258'⟩ := idx_spec hx258
        obtain ⟨ae261_2, ne261_2, ae261_3, ne261_3, hc262, hbe261_2, hse261_2, hbe261_3, hse261_3⟩ := hE236 _ _ hx258'
        refine Df 5 84 0 (.pointer (some ⟨b229, (o230 + (s17.1 : Int).toNat * 4), none⟩)) (fun _ hq => ix 22 82 83 b229 o230 54 4 64 hi259) ?_
        refine Df 6 85 0 (.pointer (some ⟨b229, ((o230 + (s17.1 : Int).toNat * 4) + 3), none⟩)) (fun _ hq => fa 54 84 1 3 1 b229 (o230 + (s17.1 : Int).toNat * 4) ((o230 + (s17.1 : Int).toNat * 4) + 3)) ?_
        refine Df 7 86 50 _ (fun _ hq => lx 50 85 3 4 false 1 (.slice ae261_3 x257.Times.length ne261_3) (hq.1.1 _ _ hF235) hc262) ?_
        refine Df 8 87 3 _ (fun _ hq => mv 9 (.int .i64 s196.1) e207) ?_
        obtain ⟨x263, hx264, h266⟩ := bind_some h260
        obtain ⟨hi265, hx264'⟩ := idx_spec hx264
        obtain ⟨b267, o268, C269, E270, fz271, rfl, hF273, hE274⟩ := SlA.open hse261_3 hx264'
        have hc276 := hE274 _ _ hx264'
        refine Df 9 88 0 (.pointer (some ⟨b267, (o268 + (s196.1 : Int).toNat * 1), none⟩)) (fun _ hq => ix 50 86 87 b267 o268 3 1 8 hi265) ?_
        refine Df 10 89 3 _ (fun _ hq => lx 3 88 0 1 false 1 (.int .i64 x263) (hq.1.1 _ _ hF273) hc276) ?_
        refine Df 11 90 3 _ (fun _ hq => mv 1 (.int .i64 x1) e201) ?_
        refine Df 12 91 3 (.int .i64 (W64 (x263 + x1))) (fun _ hq => run_add (t := 3) (t' := 3) (x := (.tmp 89)) (y := (.tmp 90)) (k := .i64) (a := x263) (b := x1) rfl rfl) ?_
        refine DWP.one (i := 13) (by kernel_rfl) ?_
        refine DStep.buildSlice (l' := [true, true, true, true, true, true, true, true, true, true, true, true, true, true, false, false, false]) (zd := false) (by kernel_rfl) (by kernel_rfl) (dst := (some 92)) (ty := 50) (g := none) (by kernel_rfl) rfl (t := 50) (len := 1) (parts := #[(0, (.tmp 91))]) (vs := [(0, (.int .i64 (W64 (x263 + x1))))]) (rfl) (E := 3) (cs := [(.int .i64 (W64 (x263 + x1)))]) (by kernel_rfl) hw242 (Mem.le.refl _) (by simp) (fun _ => by simp) (fun b277 w278 (hs279 : HS w0 F0 w278 F7 [(some b277, .cells ([(.int .i64 (W64 (x263 + x1)))] : List Value).toArray 3 (0, 0)), es196_1, es101_1, (some b48, (.cells #[(.int .i64 j49.1), (.int .i64 j49.2), (.slice as101_1 s101.2.length ns101_1), (.slice as196_1 s196.2.length ns196_1)] 54 (0, 0))), es17_1, (some b7, (.cells #[(.slice as17_1 s17.2.length ns17_1), (.slice none ([] : List Tie).length 0), (.int .i64 x0.Window)] 25 (0, 0))), (some b4, (.cells #[(.slice none ([] : List Track).length 0), (.slice none ([] : List Tie).length 0), (.int .i64 0)] 25 (0, 0))), (some b1, (.cells #[(.slice (some ⟨b229, o230, none⟩) x0.Tracks.length n0_0), (.slice a0_1 x0.Ties.length n0_1), (.int .i64 x0.Window)] 25 (0, 0)))]) => ?_)
        have hr281 : RowR tInt 3 F7 (some ⟨b277, 0, none⟩) 1 [(W64 (x263 + x1))] (some b277, .cells ([(.int .i64 (W64 (x263 + x1)))] : List Value).toArray 3 (0, 0)) := RowR.lit ⟨rfl, rfl⟩ (by simp)
        refine DWP.one (i := 14) (by kernel_rfl) ?_
        obtain ⟨r282, hap283, h284⟩ := bind_some h266
        refine DStep.append (l' := [true, true, true, true, true, true, true, true, true, true, true, true, true, true, true, false, false]) (zd := false) (by kernel_rfl) (by kernel_rfl) (dst := (some 93)) (ty := 50) (g := none) (by kernel_rfl) rfl (x := (.tmp 80)) (y := (.tmp 92)) (t := 50) (t2 := 50) (by_ := 8) (z := (.int .i64 0)) (a2 := (some ⟨b277, 0, none⟩)) (c2 := 1) (m := [(W64 (x263 + x1))]) (T := tInt) (E := 3) (a := as196_1) (cap := ns196_1) (l := s196.2) rfl rfl (by kernel_rfl) (by decide) (by kernel_rfl) (by kernel_rfl) rfl oInt hs279 (k := 1) rfl hrs196_1 (RowR.rd hs279 (k := 0) rfl hr281) (r := r282) hap283 (Mem.le.refl _) (fun _ => by simp) (fun _ _ => by simp) (fun a285 n286 e287 w288 (hs289 : HS w0 F0 w288 F7 [(some b277, .cells ([(.int .i64 (W64 (x263 + x1)))] : List Value).toArray 3 (0, 0)), e287, es101_1, (some b48, (.cells #[(.int .i64 j49.1), (.int .i64 j49.2), (.slice as101_1 s101.2.length ns101_1), (.slice as196_1 s196.2.length ns196_1)] 54 (0, 0))), es17_1, (some b7, (.cells #[(.slice as17_1 s17.2.length ns17_1), (.slice none ([] : List Tie).length 0), (.int .i64 x0.Window)] 25 (0, 0))), (some b4, (.cells #[(.slice none ([] : List Track).length 0), (.slice none ([] : List Tie).length 0), (.int .i64 0)] 25 (0, 0))), (some b1, (.cells #[(.slice (some ⟨b229, o230, none⟩) x0.Tracks.length n0_0), (.slice a0_1 x0.Ties.length n0_1), (.int .i64 x0.Window)] 25 (0, 0)))]) hr290 => ?_)
        refine Df 15 94 0 (.pointer (some ⟨b48, 3, none⟩)) (fun _ hq => fa 54 7 1 3 1 b48 0 3 e206) ?_
        refine DWP.one (i := 16) (by kernel_rfl) ?_
        refine DStep.store (l' := [true, true, true, true, true, true, true, true, true, true, true, true, true, true, true, true, true]) (zd := true) (by kernel_rfl) (by kernel_rfl) (ty := 0) (g := none) (by kernel_rfl) rfl (x := (.tmp 94)) (y := (.tmp 93)) (t := 50) (gg := false) (s := 1) (v := (.slice a285 r282.length n286)) (b := b48) (o := 3) (C := #[(.int .i64 j49.1), (.int .i64 j49.2), (.slice as101_1 s101.2.length ns101_1), (.slice as196_1 s196.2.length ns196_1)]) rfl rfl (by kernel_rfl) hs289 (k := 3) rfl rfl rfl rfl (C' := #[(.int .i64 j49.1), (.int .i64 j49.2), (.slice as101_1 s101.2.length ns101_1), (.slice a285 r282.length n286)]) rfl (Mem.le.refl _) (by simp) (fun e => by cases e) (fun w291 (hs292 : HS w0 F0 w291 F7 [(some b277, .cells ([(.int .i64 (W64 (x263 + x1)))] : List Value).toArray 3 (0, 0)), e287, es101_1, (some b48, (.cells #[(.int .i64 j49.1), (.int .i64 j49.2), (.slice as101_1 s101.2.length ns101_1), (.slice a285 r282.length n286)] 54 (0, 0))), es17_1, (some b7, (.cells #[(.slice as17_1 s17.2.length ns17_1), (.slice none ([] : List Tie).length 0), (.int .i64 x0.Window)] 25 (0, 0))), (some b4, (.cells #[(.slice none ([] : List Track).length 0), (.slice none ([] : List Tie).length 0), (.int .i64 0)] 25 (0, 0))), (some b1, (.cells #[(.slice (some ⟨b229, o230, none⟩) x0.Tracks.length n0_0), (.slice a0_1 x0.Ties.length n0_1), (.int .i64 x0.Window)] 25 (0, 0)))]) => ?_)
        obtain rfl := some_inj h284
        have hs293 : HS w0 F0 w291 F7 [e287, es101_1, (some b48, (.cells #[(.int .i64 j49.1), (.int .i64 j49.2), (.slice as101_1 s101.2.length ns101_1), (.slice a285 r282.length n286)] 54 (0, 0))), es17_1, (some b7, (.cells #[(.slice as17_1 s17.2.length ns17_1), (.slice none ([] : List Tie).length 0), (.int .i64 x0.Window)] 25 (0, 0))), (some b4, (.cells #[(.slice none ([] : List Track).length 0), (.slice none ([] : List Tie).length 0), (.int .i64 0)] 25 (0, 0))), (some b1, (.cells #[(.slice (some ⟨b229, o230, none⟩) x0.Tracks.length n0_0), (.slice a0_1 x0.Ties.length n0_1), (.int .i64 x0.Window)] 25 (0, 0)))] := hs292.drop 0
        exact DWP.done (by kernel_rfl) ⟨F7, a285, n286, e287, hs293, (Mem.le.refl _), e200, e201, e202, e203, e204, e205, e206, e207, hr290⟩
       ·rintro f w243 ⟨F9, aj246_0, nj246_0, ej246_0, hs244, le245, e247, e248, e249, e250, e251, e252, e253, e254, hrj246_0⟩
        refine blockQ_nrm ?_
        refine thenQ_nrm ?_
        refine Rg [0, 1, 2] ?_
        refine V 77 3 (mv 9 (.int .i64 s196.1) e254) ?_
        refine V 78 3 (run_add (t := 3) (t' := 3) (x := (.tmp 77)) (y := (.const (.int .i64 1))) (k := .i64) (a := s196.1) (b := 1) rfl rfl) ?_
        refine V 9 3 (ma 78 (.int .i64 (W64 (s196.1 + 1)))) ?_
        refine RWP.nil ?_
        have hn294 := iter_next h256 hnx224
        exact ⟨m221, Nat.lt_succ_self _, ((W64 (s196.1 + 1)), j246), F9, aj246_0, nj246_0, ej246_0, hn294, hs244, (le199.trans le245), e247, e248, e249, e250, e251, e252, e253, rfl, hrj246_0⟩
      ·have h295 := cond_f h228 hb239
       refine CWP.exit (by kernel_rfl) ?_
       refine thenQ_ex ?_
       refine thenQ_ex ?_
       refine blockQ_hit rfl ?_
       have ho296 := iter_done h295 hnx224
       exact .inl ⟨rfl, (s196.1, s196.2), F7, as196_1, ns196_1, es196_1, ho296, hs198, le199, e200, e201, e202, e203, e204, e205, e206, hrs196_1⟩
     ·rintro f w209 ⟨s208, F8, as208_1, ns208_1, es208_1, rfl, hs210, le211, e212, e213, e214, e215, e216, e217, e218, hrs208_1⟩
      have h297 := k_done h195
      refine thenQ_nrm ?_
      refine Rg [0, 1, 2, 3, 4, 5, 6] ?_
      refine V 95 0 (fa 25 5 0 0 1 b7 0 0 e216) ?_
      refine V 96 22 (ld 22 95 b7 0 false 1 (.slice as17_1 s17.2.length ns17_1) (hs210.ownAt (k := 4) rfl)) ?_
      refine V 97 54 (ld 54 7 b48 0 true 4 (.agg #[(.int .i64 j49.1), (.int .i64 j49.2), (.slice as101_1 s101.2.length ns101_1), (.slice as208_1 s208.2.length ns208_1)]) (hs210.ownAt (k := 2) rfl) e218) ?_
      have hb301 := RowR.bound (hrs101_1.mono le211)
      obtain ⟨F10, hs298, le299, hs300⟩ : ∃ Fq, HS w0 F0 w209 Fq [es208_1, (some b48, (.cells #[(.int .i64 j49.1), (.int .i64 j49.2), (.slice as101_1 s101.2.length ns101_1), (.slice as208_1 s208.2.length ns208_1)] 54 (0, 0))), es17_1, (some b7, (.cells #[(.slice as17_1 s17.2.length ns17_1), (.slice none ([] : List Tie).length 0), (.int .i64 x0.Window)] 25 (0, 0))), (some b4, (.cells #[(.slice none ([] : List Track).length 0), (.slice none ([] : List Tie).length 0), (.int .i64 0)] 25 (0, 0))), (some b1, (.cells #[(.slice a0_0 x0.Tracks.length n0_0), (.slice a0_1 x0.Ties.length n0_1), (.int .i64 x0.Window)] 25 (0, 0)))] ∧ Mem.le F8 Fq ∧ SlA tInt Fq as101_1 s101.2 := HS.freezeRow hs210 (k := 1) rfl (hrs101_1.mono le211)
      have hb305 := RowR.bound (hrs208_1.mono le299)
      obtain ⟨F11, hs302, le303, hs304⟩ : ∃ Fq, HS w0 F0 w209 Fq [(some b48, (.cells #[(.int .i64 j49.1), (.int .i64 j49.2), (.slice as101_1 s101.2.length ns101_1), (.slice as208_1 s208.2.length ns208_1)] 54 (0, 0))), es17_1, (some b7, (.cells #[(.slice as17_1 s17.2.length ns17_1), (.slice none ([] : List Tie).length 0), (.int .i64 x0.Window)] 25 (0, 0))), (some b4, (.cells #[(.slice none ([] : List Track).length 0), (.slice none ([] : List Tie).length 0), (.int .i64 0)] 25 (0, 0))), (some b1, (.cells #[(.slice a0_0 x0.Tracks.length n0_0), (.slice a0_1 x0.Ties.length n0_1), (.int .i64 x0.Window)] 25 (0, 0)))] ∧ Mem.le F10 Fq ∧ SlA tInt Fq as208_1 s208.2 := HS.freezeRow hs298 (k := 0) rfl (hrs208_1.mono le299)
      refine RWP.buildSlice (dst := (some 98)) (ty := 22) (g := none) (by kernel_rfl) rfl (t := 22) (len := 1) (parts := #[(0, (.tmp 97))]) (vs := [(0, (.agg #[(.int .i64 j49.1), (.int .i64 j49.2), (.slice as101_1 s101.2.length ns101_1), (.slice as208_1 s208.2.length ns208_1)]))]) (rfl) (E := 54) (cs := [(.int .i64 j49.1), (.int .i64 j49.2), (.slice as101_1 s101.2.length ns101_1), (.slice as208_1 s208.2.length ns208_1)]) (by kernel_rfl) hs302 (fun b306 w307 (hs308 : HS w0 F0 w307 F11 [(some b306, .cells ([(.int .i64 j49.1), (.int .i64 j49.2), (.slice as101_1 s101.2.length ns101_1), (.slice as208_1 s208.2.length ns208_1)] : List Value).toArray 54 (0, 0)), (some b48, (.cells #[(.int .i64 j49.1), (.int .i64 j49.2), (.slice as101_1 s101.2.length ns101_1), (.slice as208_1 s208.2.length ns208_1)] 54 (0, 0))), es17_1, (some b7, (.cells #[(.slice as17_1 s17.2.length ns17_1), (.slice none ([] : List Tie).length 0), (.int .i64 x0.Window)] 25 (0, 0))), (some b4, (.cells #[(.slice none ([] : List Track).length 0), (.slice none ([] : List Tie).length 0), (.int .i64 0)] 25 (0, 0))), (some b1, (.cells #[(.slice a0_0 x0.Tracks.length n0_0), (.slice a0_1 x0.Ties.length n0_1), (.int .i64 x0.Window)] 25 (0, 0)))]) => ?_)
      have hr310 : RowR tTrack 54 F11 (some ⟨b306, 0, none⟩) 1 [({ Clock := ({ Slip := j49.1, Drift := j49.2, Jumps := s101.2 } : Clock), Times := s208.2 } : Track)] (some b306, .cells ([(.int .i64 j49.1), (.int .i64 j49.2), (.slice as101_1 s101.2.length ns101_1), (.slice as208_1 s208.2.length ns208_1)] : List Value).toArray 54 (0, 0)) := RowR.lit ⟨⟨as101_1, ns101_1, as208_1, ns208_1, rfl, hb301, (SlA.mono hs300 le303), hb305, hs304⟩, rfl⟩ (by simp)
      obtain ⟨r311, hap312, h313⟩ := bind_some h297
      refine RWP.append (dst := (some 99)) (ty := 22) (g := none) (by kernel_rfl) rfl (x := (.tmp 96)) (y := (.tmp 98)) (t := 22) (t2 := 22) (by_ := 64) (z := (.agg #[(.int .i64 0), (.int .i64 0), (.slice none ([] : List Int).length 0), (.slice none ([] : List Int).length 0)])) (a2 := (some ⟨b306, 0, none⟩)) (c2 := 1) (m := [({ Clock := ({ Slip := j49.1, Drift := j49.2, Jumps := s101.2 } : Clock), Times := s208.2 } : Track)]) (T := tTrack) (E := 54) (a := as17_1) (cap := ns17_1) (l := s17.2) rfl rfl (by kernel_rfl) (by decide) (by kernel_rfl) (by kernel_rfl) rfl oTrack hs308 (k := 2) rfl (hrs17_1.mono ((((le47.trans le104).trans le211).trans le299).trans le303)) (RowR.rd hs308 (k := 0) rfl hr310) (r := r311) hap312 (fun a314 n315 e316 w317 (hs318 : HS w0 F0 w317 F11 [(some b306, .cells ([(.int .i64 j49.1), (.int .i64 j49.2), (.slice as101_1 s101.2.length ns101_1), (.slice as208_1 s208.2.length ns208_1)] : List Value).toArray 54 (0, 0)), (some b48, (.cells #[(.int .i64 j49.1), (.int .i64 j49.2), (.slice as101_1 s101.2.length ns101_1), (.slice as208_1 s208.2.length ns208_1)] 54 (0, 0))), e316, (some b7, (.cells #[(.slice as17_1 s17.2.length ns17_1), (.slice none ([] : List Tie).length 0), (.int .i64 x0.Window)] 25 (0, 0))), (some b4, (.cells #[(.slice none ([] : List Track).length 0), (.slice none ([] : List Tie).length 0), (.int .i64 0)] 25 (0, 0))), (some b1, (.cells #[(.slice a0_0 x0.Tracks.length n0_0), (.slice a0_1 x0.Ties.length n0_1), (.int .i64 x0.Window)] 25 (0, 0)))]) hr319 => ?_)
      refine V 100 0 (fa 25 5 0 0 1 b7 0 0 e216) ?_
      refine RWP.store (ty := 0) (g := none) (by kernel_rfl) rfl (x := (.tmp 100)) (y := (.tmp 99)) (t := 22) (gg := false) (s := 1) (v := (.slice a314 r311.length n315)) (b := b7) (o := 0) (C := #[(.slice as17_1 s17.2.length ns17_1), (.slice none ([] : List Tie).length 0), (.int .i64 x0.Window)]) rfl rfl (by kernel_rfl) hs318 (k := 3) rfl rfl rfl rfl (C' := #[(.slice a314 r311.length n315), (.slice none ([] : List Tie).length 0), (.int .i64 x0.Window)]) rfl (fun w320 (hs321 : HS w0 F0 w320 F11 [(some b306, .cells ([(.int .i64 j49.1), (.int .i64 j49.2), (.slice as101_1 s101.2.length ns101_1), (.slice as208_1 s208.2.length ns208_1)] : List Value).toArray 54 (0, 0)), (some b48, (.cells #[(.int .i64 j49.1), (.int .i64 j49.2), (.slice as101_1 s101.2.length ns101_1), (.slice as208_1 s208.2.length ns208_1)] 54 (0, 0))), e316, (some b7, (.cells #[(.slice a314 r311.length n315), (.slice none ([] : List Tie).length 0), (.int .i64 x0.Window)] 25 (0, 0))), (some b4, (.cells #[(.slice none ([] : List Track).length 0), (.slice none ([] : List Tie).length 0), (.int .i64 0)] 25 (0, 0))), (some b1, (.cells #[(.slice a0_0 x0.Tracks.length n0_0), (.slice a0_1 x0.Ties.length n0_1), (.int .i64 x0.Window)] 25 (0, 0)))]) => ?_)
      refine RWP.nil ?_
      refine blockQ_nrm ?_
      refine thenQ_nrm ?_
      refine Rg [0, 1, 2] ?_
      refine V 19 3 (mv 6 (.int .i64 s17.1) e217) ?_
      refine V 20 3 (run_add (t := 3) (t' := 3) (x := (.tmp 19)) (y := (.const (.int .i64 1))) (k := .i64) (a := s17.1) (b := 1) rfl rfl) ?_
      refine V 6 3 (ma 20 (.int .i64 (W64 (s17.1 + 1)))) ?_
      refine RWP.nil ?_
      have hs322 : HS w0 F0 w320 F11 [(some b48, (.cells #[(.int .i64 j49.1), (.int .i64 j49.2), (.slice as101_1 s101.2.length ns101_1), (.slice as208_1 s208.2.length ns208_1)] 54 (0, 0))), e316, (some b7, (.cells #[(.slice a314 r311.length n315), (.slice none ([] : List Tie).length 0), (.int .i64 x0.Window)] 25 (0, 0))), (some b4, (.cells #[(.slice none ([] : List Track).length 0), (.slice none ([] : List Tie).length 0), (.int .i64 0)] 25 (0, 0))), (some b1, (.cells #[(.slice a0_0 x0.Tracks.length n0_0), (.slice a0_1 x0.Ties.length n0_1), (.int .i64 x0.Window)] 25 (0, 0)))] := hs321.drop 0
      have hs323 : HS w0 F0 w320 F11 [e316, (some b7, (.cells #[(.slice a314 r311.length n315), (.slice none ([] : List Tie).length 0), (.int .i64 x0.Window)] 25 (0, 0))), (some b4, (.cells #[(.slice none ([] : List Track).length 0), (.slice none ([] : List Tie).length 0), (.int .i64 0)] 25 (0, 0))), (some b1, (.cells #[(.slice a0_0 x0.Tracks.length n0_0), (.slice a0_1 x0.Ties.length n0_1), (.int .i64 x0.Window)] 25 (0, 0)))] := hs322.drop 0
      have hn324 := iter_next h313 hnx40
      exact ⟨m37, Nat.lt_succ_self _, ((W64 (s17.1 + 1)), r311), F11, a314, n315, e316, hn324, hs323, (((((le20.trans le47).trans le104).trans le211).trans le299).trans le303), e212, e213, e214, e215, e216, rfl, hr319⟩
  ·have h325 := cond_f hb39 hb41
   refine CWP.exit (by kernel_rfl) ?_
   refine thenQ_ex ?_
   refine thenQ_ex ?_
   refine blockQ_hit rfl ?_
   have ho326 := iter_done h325 hnx40
   exact .inl ⟨rfl, (s17.1, s17.2), F1, as17_1, ns17_1, es17_1, ho326, hs19, le20, e21, e23, e24, e25, hrs17_1⟩
 ·rintro f w28 ⟨s27, F2, as27_1, ns27_1, es27_1, rfl, hs29, le30, e31, e32, e33, e34, hrs27_1⟩
  have h327 := k_done h16
  refine thenQ_nrm ?_
  refine Sq ?_
  refine Sq (Rg [0, 1, 2, 3, 4] ?_)
  refine V 101 0 (fa 25 2 1 1 1 b1 0 1 e32) ?_
  refine V 102 23 (ld 23 101 b1 1 false 1 (.slice a0_1 x0.Ties.length n0_1) (hs29.ownAt (k := 3) rfl)) ?_
  refine V 103 3 (ln 102 23 a0_1 x0.Ties.length n0_1 46 4 32) ?_
  refine V 104 3 (run_sub (t := 3) (t' := 3) (x := (.tmp 103)) (y := (.const (.int .i64 1))) (k := .i64) (a := (x0.Ties.length : Int)) (b := 1) rfl rfl) ?_
  refine V 10 3 (ma 104 (.int .i64 (W64 ((x0.Ties.length : Int) - 1)))) ?_
  refine Nt ?_
  have hs328 : HS w0 F0 w28 F2 [(none, .cells #[] 0 (0, 0)), es27_1, (some b7, (.cells #[(.slice as27_1 s27.2.length ns27_1), (.slice none ([] : List Tie).length 0), (.int .i64 x0.Window)] 25 (0, 0))), (some b4, (.cells #[(.slice none ([] : List Track).length 0), (.slice none ([] : List Tie).length 0), (.int .i64 0)] 25 (0, 0))), (some b1, (.cells #[(.slice a0_0 x0.Tracks.length n0_0), (.slice a0_1 x0.Ties.length n0_1), (.int .i64 x0.Window)] 25 (0, 0)))] := hs29.dummy _
  obtain ⟨o330, ho331, h332⟩ := bind_some h327
  refine CWP.cut (fun f w => ∃ (s342 : (Int × List Tie)) (F13 : Mem) (as342_1 : Option Addr) (ns342_1 : Nat) (es342_1 : Option Nat × Obj), o330 = .done s342 ∧ HS w0 F0 w F13 [es342_1, es27_1, (some b7, (.cells #[(.slice as27_1 s27.2.length ns27_1), (.slice as342_1 s342.2.length ns342_1), (.int .i64 x0.Window)] 25 (0, 0))), (some b4, (.cells #[(.slice none ([] : List Track).length 0), (.slice none ([] : List Tie).length 0), (.int .i64 0)] 25 (0, 0)))] ∧ Mem.le F2 F13 ∧ f.d = [] ∧ f 4 = (.pointer (some ⟨b4, 0, none⟩)) ∧ f 5 = (.pointer (some ⟨b7, 0, none⟩)) ∧ RowR tTie 46 F13 as342_1 ns342_1 s342.2 es342_1) ?_ ?_
  ·refine Bk ?_
   refine CWP.loop (by kernel_rfl) (fun m f w => ∃ (s333 : (Int × List Tie)) (F12 : Mem) (as333_1 : Option Addr) (ns333_1 : Nat) (es333_1 : Option Nat × Obj), iter (law03_moved_L3 N x0 x1 s27) m s333 = some o330 ∧ HS w0 F0 w F12 [es333_1, es27_1, (some b7, (.cells #[(.slice as27_1 s27.2.length ns27_1), (.slice as333_1 s333.2.length ns333_1), (.int .i64 x0.Window)] 25 (0, 0))), (some b4, (.cells #[(.slice none ([] : List Track).length 0), (.slice none ([] : List Tie).length 0), (.int .i64 0)] 25 (0, 0))), (some b1, (.cells #[(.slice a0_0 x0.Tracks.length n0_0), (.slice a0_1 x0.Ties.length n0_1), (.int .i64 x0.Window)] 25 (0, 0)))] ∧ Mem.le F2 F12 ∧ f.d = [] ∧ f 2 = (.pointer (some ⟨b1, 0, none⟩)) ∧ f 4 = (.pointer (some ⟨b4, 0, none⟩)) ∧ f 5 = (.pointer (some ⟨b7, 0, none⟩)) ∧ f 10 = (.int .i64 s333.1) ∧ RowR tTie 46 F12 as333_1 ns333_1 s333.2 es333_1) N ⟨((W64 ((x0.Ties.length : Int) - 1)), ([] : List Tie)), F2, none, 0, (none, .cells #[] 0 (0, 0)), ho331, hs328, (Mem.le.refl _), e31, e32, e33, e34, rfl, (RowR.nil tTie 46 F2 _)⟩ ?_
   rintro m349 f w334 ⟨s333, F12, as333_1, ns333_1, es333_1, hit350, hs335, le336, e337, e338, e339, e340, e341, hrs333_1⟩
   obtain ⟨m351, fl352, rfl, hb353, hnx354⟩ := iter_step hit350
   refine Sq ?_
   refine Sq (Rg [0, 1] ?_)
   refine V 105 3 (mv 10 (.int .i64 s333.1) e341) ?_
   refine V 106 4 (run_geq (t := 3) (t' := 3) (x := (.tmp 105)) (y := (.const (.int .i64 0))) (k := .i64) (a := s333.1) (b := 0) rfl rfl) ?_
   refine Nt ?_
   refine CWP.cond (t := (decide (s333.1 ≥ 0))) (by kernel_rfl) rfl (fun hb355 => ?_) (fun hb355 => ?_)
   ·have h356 := cond_t hb353 hb355
    refine Sc ?_
    refine thenQ_nrm ?_
    refine Sq ?_
    refine Bk ?_
    obtain ⟨j362, hj368, h369⟩ := bind_some h356
    refine CWP.regionD (by kernel_rfl) (by kernel_rfl) (by kernel_rfl) (by kernel_rfl) (z := 10) (F := F12) (Lc := [es27_1, (some b4, (.cells #[(.slice none ([] : List Track).length 0), (.slice none ([] : List Tie).length 0), (.int .i64 0)] 25 (0, 0))), (some b1, (.cells #[(.slice a0_0 x0.Tracks.length n0_0), (.slice a0_1 x0.Ties.length n0_1), (.int .i64 x0.Window)] 25 (0, 0)))]) (Lz := [(some b7, (.cells #[(.slice as27_1 s27.2.length ns27_1), (.slice as333_1 s333.2.length ns333_1), (.int .i64 x0.Window)] 25 (0, 0)))]) (l := [false, false, false, false, false, false, false, false, false, false, false]) (fuel := 11) (by kernel_rfl) (by kernel_rfl) hs335 (by simp) (by simp) (fun f w => ∃ (F14 : Mem) (aj362_0 : Option Addr) (nj362_0 : Nat) (ej362_0 : Option Nat × Obj), HS w0 F0 w F14 [ej362_0, es27_1, (some b7, (.cells #[(.slice as27_1 s27.2.length ns27_1), (.slice aj362_0 j362.length nj362_0), (.int .i64 x0.Window)] 25 (0, 0))), (some b4, (.cells #[(.slice none ([] : List Track).length 0), (.slice none ([] : List Tie).length 0), (.int .i64 0)] 25 (0, 0))), (some b1, (.cells #[(.slice a0_0 x0.Tracks.length n0_0), (.slice a0_1 x0.Ties.length n0_1), (.int .i64 x0.Window)] 25 (0, 0)))] ∧ Mem.le F12 F14 ∧ f.d = [] ∧ f 2 = (.pointer (some ⟨b1, 0, none⟩)) ∧ f 4 = (.pointer (some ⟨b4, 0, none⟩)) ∧ f 5 = (.pointer (some ⟨b7, 0, none⟩)) ∧ f 10 = (.int .i64 s333.1) ∧ RowR tTie 46 F14 aj362_0 nj362_0 j362 ej362_0) (fun wd357 hw358 => ?_) ?_
    ·refine Df 0 109 0 (.pointer (some ⟨b7, 1, none⟩)) (fun _ hq => fa 25 5 1 1 1 b7 0 1 e340) ?_
     refine Df 1 110 23 _ (fun _ hq => ld 23 109 b7 1 false 1 (.slice as333_1 s333.2.length ns333_1) ((hq.2 rfl).2 0 _ _ rfl)) ?_
     refine Df 2 111 0 (.pointer (some ⟨b1, 1, none⟩)) (fun _ hq => fa 25 2 1 1 1 b1 0 1 e338) ?_
     refine Df 3 112 23 _ (fun _ hq => ld 23 111 b1 1 false 1 (.slice a0_1 x0.Ties.length n0_1) (hq.1.2 2 _ _ rfl)) ?_
     refine Df 4 113 3 _ (fun _ hq => mv 10 (.int .i64 s333.1) e341) ?_
     obtain ⟨x370, hx371, h373⟩ := bind_some hj368
     obtain ⟨hi372, hx371'⟩ := idx_spec hx371
     obtain ⟨b374, o375, C376, E377, fz378, rfl, hF380, hE381⟩ := SlA.open (SlA.mono hs0_1 (le30.trans le336)) hx371'
     have hc383 := hE381 _ _ hx371'
     refine Df 5 114 0 (.pointer (some ⟨b374, (o375 + (s333.1 : Int).toNat * 4), none⟩)) (fun _ hq => ix 23 112 113 b374 o375 46 4 32 hi372) ?_
     refine Df 6 115 46 _ (fun _ hq => lx 46 114 0 4 true 4 (.agg #[(.int .i64 x370.A.Log), (.int .i64 x370.A.Line), (.int .i64 x370.B.Log), (.int .i64 x370.B.Line)]) (hq.1.1 _ _ hF380) hc383) ?_
     refine DWP.one (i := 7) (by kernel_rfl) ?_
     refine DStep.buildSlice (l' := [true, true, true, true, true, true, true, true, false, false, false]) (zd := false) (by kernel_rfl) (by kernel_rfl) (dst := (some 116)) (ty := 23) (g := none) (by kernel_rfl) rfl (t := 23) (len := 1) (parts := #[(0, (.tmp 115))]) (vs := [(0, (.agg #[(.int .i64 x370.A.Log), (.int .i64 x370.A.Line), (.int .i64 x370.B.Log), (.int .i64 x370.B.Line)]))]) (rfl) (E := 46) (cs := [(.int .i64 x370.A.Log), (.int .i64 x370.A.Line), (.int .i64 x370.B.Log), (.int .i64 x370.B.Line)]) (by kernel_rfl) hw358 (Mem.le.refl _) (by simp) (fun _ => by simp) (fun b384 w385 (hs386 : HS w0 F0 w385 F12 [(some b384, .cells ([(.int .i64 x370.A.Log), (.int .i64 x370.A.Line), (.int .i64 x370.B.Log), (.int .i64 x370.B.Line)] : List Value).toArray 46 (0, 0)), es333_1, es27_1, (some b7, (.cells #[(.slice as27_1 s27.2.length ns27_1), (.slice as333_1 s333.2.length ns333_1), (.int .i64 x0.Window)] 25 (0, 0))), (some b4, (.cells #[(.slice none ([] : List Track).length 0), (.slice none ([] : List Tie).length 0), (.int .i64 0)] 25 (0, 0))), (some b1, (.cells #[(.slice a0_0 x0.Tracks.length n0_0), (.slice (some ⟨b374, o375, none⟩) x0.Ties.length n0_1), (.int .i64 x0.Window)] 25 (0, 0)))]) => ?_)
     have hr388 : RowR tTie 46 F12 (some ⟨b384, 0, none⟩) 1 [x370] (some b384, .cells ([(.int .i64 x370.A.Log), (.int .i64 x370.A.Line), (.int .i64 x370.B.Log), (.int .i64 x370.B.Line)] : List Value).toArray 46 (0, 0)) := RowR.lit ⟨rfl, rfl⟩ (by simp)
     refine DWP.one (i := 8) (by kernel_rfl) ?_
     obtain ⟨r389, hap390, h391⟩ := bind_some h373
     refine DStep.append (l' := [true, true, true, true, true, true, true, true, true, false, false]) (zd := false) (by kernel_rfl) (by kernel_rfl) (dst := (some 117)) (ty := 23) (g := none) (by kernel_rfl) rfl (x := (.tmp 110)) (y := (.tmp 116)) (t := 23) (t2 := 23) (by_ := 32) (z := (.agg #[(.int .i64 0), (.int .i64 0), (.int .i64 0), (.int .i64 0)])) (a2 := (some ⟨b384, 0, none⟩)) (c2 := 1) (m := [x370]) (T := tTie) (E := 46) (a := as333_1) (cap := ns333_1) (l := s333.2) rfl rfl (by kernel_rfl) (by decide) (by kernel_rfl) (by kernel_rfl) rfl oTie hs386 (k := 1) rfl hrs333_1 (RowR.rd hs386 (k := 0) rfl hr388) (r := r389) hap390 (Mem.le.refl _) (fun _ => by simp) (fun _ _ => by simp) (fun a392 n393 e394 w395 (hs396 : HS w0 F0 w395 F12 [(some b384, .cells ([(.int .i64 x370.A.Log), (.int .i64 x370.A.Line), (.int .i64 x370.B.Log), (.int .i64 x370.B.Line)] : List Value).toArray 46 (0, 0)), e394, es27_1, (some b7, (.cells #[(.slice as27_1 s27.2.length ns27_1), (.slice as333_1 s333.2.length ns333_1), (.int .i64 x0.Window)] 25 (0, 0))), (some b4, (.cells #[(.slice none ([] : List Track).length 0), (.slice none ([] : List Tie).length 0), (.int .i64 0)] 25 (0, 0))), (some b1, (.cells #[(.slice a0_0 x0.Tracks.length n0_0), (.slice (some ⟨b374, o375, none⟩) x0.Ties.length n0_1), (.int .i64 x0.Window)] 25 (0, 0)))]) hr397 => ?_)
     refine Df 9 118 0 (.pointer (some ⟨b7, 1, none⟩)) (fun _ hq => fa 25 5 1 1 1 b7 0 1 e340) ?_
     refine DWP.one (i := 10) (by kernel_rfl) ?_
     refine DStep.store (l' := [true, true, true, true, true, true, true, true, true, true, true]) (zd := true) (by kernel_rfl) (by kernel_rfl) (ty := 0) (g := none) (by kernel_rfl) rfl (x := (.tmp 118)) (y := (.tmp 117)) (t := 23) (gg := false) (s := 1) (v := (.slice a392 r389.length n393)) (b := b7) (o := 1) (C := #[(.slice as27_1 s27.2.length ns27_1), (.slice as333_1 s333.2.length ns333_1), (.int .i64 x0.Window)]) rfl rfl (by kernel_rfl) hs396 (k := 3) rfl rfl rfl rfl (C' := #[(.slice as27_1 s27.2.length ns27_1), (.slice a392 r389.length n393), (.int .i64 x0.Window)]) rfl (Mem.le.refl _) (by simp) (fun e => by cases e) (fun w398 (hs399 : HS w0 F0 w398 F12 [(some b384, .cells ([(.int .i64 x370.A.Log), (.int .i64 x370.A.Line), (.int .i64 x370.B.Log), (.int .i64 x370.B.Line)] : List Value).toArray 46 (0, 0)), e394, es27_1, (some b7, (.cells #[(.slice as27_1 s27.2.length ns27_1), (.slice a392 r389.length n393), (.int .i64 x0.Window)] 25 (0, 0))), (some b4, (.cells #[(.slice none ([] : List Track).length 0), (.slice none ([] : List Tie).length 0), (.int .i64 0)] 25 (0, 0))), (some b1, (.cells #[(.slice a0_0 x0.Tracks.length n0_0), (.slice (some ⟨b374, o375, none⟩) x0.Ties.length n0_1), (.int .i64 x0.Window)] 25 (0, 0)))]) => ?_)
     obtain rfl := some_inj h391
     have hs400 : HS w0 F0 w398 F12 [e394, es27_1, (some b7, (.cells #[(.slice as27_1 s27.2.length ns27_1), (.slice a392 r389.length n393), (.int .i64 x0.Window)] 25 (0, 0))), (some b4, (.cells #[(.slice none ([] : List Track).length 0), (.slice none ([] : List Tie).length 0), (.int .i64 0)] 25 (0, 0))), (some b1, (.cells #[(.slice a0_0 x0.Tracks.length n0_0), (.slice (some ⟨b374, o375, none⟩) x0.Ties.length n0_1), (.int .i64 x0.Window)] 25 (0, 0)))] := hs399.drop 0
     exact DWP.done (by kernel_rfl) ⟨F12, a392, n393, e394, hs400, (Mem.le.refl _), e337, e338, e339, e340, e341, hr397⟩
    ·rintro f w359 ⟨F14, aj362_0, nj362_0, ej362_0, hs360, le361, e363, e364, e365, e366, e367, hrj362_0⟩
     refine blockQ_nrm ?_
     refine thenQ_nrm ?_
     refine Rg [0, 1, 2] ?_
     refine V 107 3 (mv 10 (.int .i64 s333.1) e367) ?_
     refine V 108 3 (run_sub (t := 3) (t' := 3) (x := (.tmp 107)) (y := (.const (.int .i64 1))) (k := .i64) (a := s333.1) (b := 1) rfl rfl) ?_
     refine V 10 3 (ma 108 (.int .i64 (W64 (s333.1 - 1)))) ?_
     refine RWP.nil ?_
     have hn401 := iter_next h369 hnx354
     exact ⟨m351, Nat.lt_succ_self _, ((W64 (s333.1 - 1)), j362), F14, aj362_0, nj362_0, ej362_0, hn401, hs360, (le336.trans le361), e363, e364, e365, e366, rfl, hrj362_0⟩
   ·have h402 := cond_f hb353 hb355
    refine CWP.exit (by kernel_rfl) ?_
    refine thenQ_ex ?_
    refine thenQ_ex ?_
    refine blockQ_hit rfl ?_
    have hs403 : HS w0 F0 w334 F12 [es333_1, es27_1, (some b7, (.cells #[(.slice as27_1 s27.2.length ns27_1), (.slice as333_1 s333.2.length ns333_1), (.int .i64 x0.Window)] 25 (0, 0))), (some b4, (.cells #[(.slice none ([] : List Track).length 0), (.slice none ([] : List Tie).length 0), (.int .i64 0)] 25 (0, 0)))] := hs335.drop 4
    have ho404 := iter_done h402 hnx354
    exact .inl ⟨rfl, (s333.1, s333.2), F12, as333_1, ns333_1, es333_1, ho404, hs403, le336, e337, e339, e340, hrs333_1⟩
  ·rintro f w343 ⟨s342, F13, as342_1, ns342_1, es342_1, rfl, hs344, le345, e346, e347, e348, hrs342_1⟩
   have h405 := k_done h332
   refine thenQ_nrm ?_
   refine Sq (Rg [0, 1] ?_)
   refine V 119 25 (ld 25 5 b7 0 true 3 (.agg #[(.slice as27_1 s27.2.length ns27_1), (.slice as342_1 s342.2.length ns342_1), (.int .i64 x0.Window)]) (hs344.ownAt (k := 2) rfl) e348) ?_
   refine RWP.store (ty := 0) (g := none) (by kernel_rfl) rfl (x := (.tmp 4)) (y := (.tmp 119)) (t := 25) (gg := true) (s := 3) (v := (.agg #[(.slice as27_1 s27.2.length ns27_1), (.slice as342_1 s342.2.length ns342_1), (.int .i64 x0.Window)])) (b := b4) (o := 0) (C := #[(.slice none ([] : List Track).length 0), (.slice none ([] : List Tie).length 0), (.int .i64 0)]) e347 rfl (by kernel_rfl) hs344 (k := 3) rfl rfl rfl rfl (C' := #[(.slice as27_1 s27.2.length ns27_1), (.slice as342_1 s342.2.length ns342_1), (.int .i64 x0.Window)]) rfl (fun w406 (hs407 : HS w0 F0 w406 F13 [es342_1, es27_1, (some b7, (.cells #[(.slice as27_1 s27.2.length ns27_1), (.slice as342_1 s342.2.length ns342_1), (.int .i64 x0.Window)] 25 (0, 0))), (some b4, (.cells #[(.slice as27_1 s27.2.length ns27_1), (.slice as342_1 s342.2.length ns342_1), (.int .i64 x0.Window)] 25 (0, 0)))]) => ?_)
   refine Nt ?_
   refine CWP.ret (by kernel_rfl) ?_
   have hb411 := RowR.bound (hrs27_1.mono le345)
   obtain ⟨F15, hs408, le409, hs410⟩ : ∃ Fq, HS w0 F0 w406 Fq [es342_1, (some b7, (.cells #[(.slice as27_1 s27.2.length ns27_1), (.slice as342_1 s342.2.length ns342_1), (.int .i64 x0.Window)] 25 (0, 0))), (some b4, (.cells #[(.slice as27_1 s27.2.length ns27_1), (.slice as342_1 s342.2.length ns342_1), (.int .i64 x0.Window)] 25 (0, 0)))] ∧ Mem.le F13 Fq ∧ SlA tTrack Fq as27_1 s27.2 := HS.freezeRow hs407 (k := 1) rfl (hrs27_1.mono le345)
   have hb415 := RowR.bound (hrs342_1.mono le409)
   obtain ⟨F16, hs412, le413, hs414⟩ : ∃ Fq, HS w0 F0 w406 Fq [(some b7, (.cells #[(.slice as27_1 s27.2.length ns27_1), (.slice as342_1 s342.2.length ns342_1), (.int .i64 x0.Window)] 25 (0, 0))), (some b4, (.cells #[(.slice as27_1 s27.2.length ns27_1), (.slice as342_1 s342.2.length ns342_1), (.int .i64 x0.Window)] 25 (0, 0)))] ∧ Mem.le F15 Fq ∧ SlA tTie Fq as342_1 s342.2 := HS.freezeRow hs408 (k := 0) rfl (hrs342_1.mono le409)
   have hfin := some_inj h405
   subst hfin
   exact ⟨e346, (.agg #[(.slice as27_1 s27.2.length ns27_1), (.slice as342_1 s342.2.length ns342_1), (.int .i64 x0.Window)]), res_of (l := [.cell 4 25]) (by kernel_rfl) (vs := [(.agg #[(.slice as27_1 s27.2.length ns27_1), (.slice as342_1 s342.2.length ns342_1), (.int .i64 x0.Window)])]) ⟨b4, 0, e347, run_loadVar' (t := 25) (g := true) (s := 3) (by kernel_rfl) (hs412.ownAt (k := 1) rfl) rfl (by decide), trivial⟩, (.agg #[(.slice as27_1 s27.2.length ns27_1), (.slice as342_1 s342.2.length ns342_1), (.int .i64 x0.Window)]), F16, rfl, hs412.clear, ⟨as27_1, ns27_1, as342_1, ns342_1, rfl, hb411, (SlA.mono hs410 le413), hb415, hs414⟩⟩
end Go.Proofs.Ythbcnabeabcmlaa
namespace Go.Proofs.Ythbcnabeabcmlaa
open Go.Proofs
def law03_ClocksMoves_L1 (N : Nat) (x0 : System) (x1 : Int) (x2 : Ref) (x3 : Ref) (r10 : Bool) (j21 : (Bool)) (r59 : System) (r72 : Int) (r83 : ((List (List Span)) × Int)) (r91 : ((List (List Span)) × Int)) (s119 : Int) : Int → Option (Flow Bool Int) := fun s154 =>
 ((idx r83.1 s119).bind fun x189 => (bif (decide (s154 < (x189.length : Int))) then (((idx r91.1 s119).bind fun x225 => (bif (decide (s154 ≥ (x225.length : Int))) then some true else ((idx r91.1 s119).bind fun x242 => ((idx x242 s154).bind fun x248 => ((idx r83.1 s119).bind fun x262 => ((idx x262 s154).bind fun x268 => ((idx r83.1 s119).bind fun x282 => ((idx x282 s154).bind fun x288 => some (!((x248.Lo == (W64 (x268.Lo + x1))) && ((x248.Hi == (W64 (x288.Hi + x1))) && true))))))))))).bind fun j210 => (bif j210 then some (.ret false) else some (.next (W64 (s154 + 1))))) else some (.done s154)))
def law03_ClocksMoves_L0 (N : Nat) (x0 : System) (x1 : Int) (x2 : Ref) (x3 : Ref) (r10 : Bool) (j21 : (Bool)) (r59 : System) (r72 : Int) (r83 : ((List (List Span)) × Int)) (r91 : ((List (List Span)) × Int)) : Int → Option (Flow Bool Int) := fun s119 =>
 (bif (decide (s119 < (r83.1.length : Int))) then ((iter (law03_ClocksMoves_L1 N x0 x1 x2 x3 r10 j21 r59 r72 r83 r91 s119) N 0).bind fun o => o.k (fun r => some (.ret r)) (fun s169 => some (.next (W64 (s119 + 1))))) else some (.done s119))
def law03_ClocksMoves (N : Nat) (x0 : System) (x1 : Int) (x2 : Ref) (x3 : Ref) : Option Bool :=
 ((law03_awake N ).bind fun r10 => (((law03_few N x0).bind fun r31 => (bif (!r31) then some true else (bif (decide (x1 < (-20000))) then some true else (bif (decide (x1 > 20000)) then some true else ((clocks_Check N x0).bind fun r48 => some (r48 != 0)))))).bind fun j21 => (bif j21 then some r10 else ((law03_moved N x0 x1).bind fun r59 => ((clocks_Check N r59).bind fun r72 => (bif (r72 != 0) then some r10 else ((clocks_Times N x0).bind fun r83 => ((clocks_Times N r59).bind fun r91 => (bif ((r83.2 != r91.2) || ((r83.1.length : Int) != (r91.1.length : Int))) then some false else ((iter (law03_ClocksMoves_L0 N x0 x1 x2 x3 r10 j21 r59 r72 r83 r91) N 0).bind fun o => o.k (fun r => some r) (fun s133 => ((clocks_Relation N x0 x2 x3).bind fun r313 => ((clocks_Relation N r59 x2 x3).bind fun r326 => some (r10 && ((r313.2 == r326.2) && ((r313.1.Lo == r326.1.Lo) && ((r313.1.Hi == r326.1.Hi) && true)))))))))))))))))
theorem co_law03_ClocksMoves : CallOk Try.prog 3 := fun _ _ => by kernel_rfl
set_option maxHeartbeats 4000000 in
set_option maxRecDepth 100000 in
theorem c_law03_ClocksMoves (N : Nat) (w0 : World) (F0 : Mem) (hF : ∀ b o, F0 b = some o → w0.heap[b]? = some o) (x0 : System) (a0_0 : Option Addr) (n0_0 : Nat) (hb0_0 : LC x0.Tracks.length n0_0) (hs0_0 : SlA tTrack F0 a0_0 x0.Tracks) (a0_1 : Option Addr) (n0_1 : Nat) (hb0_1 : LC x0.Ties.length n0_1) (hs0_1 : SlA tTie F0 a0_1 x0.Ties) (x1 : Int) (x2 : Ref) (x3 : Ref) (r : Bool) (h : law03_ClocksMoves N x0 x1 x2 x3 = some r) :
  Calls Try.prog 3 ([(.agg #[(.slice a0_0 x0.Tracks.length n0_0), (.slice a0_1 x0.Ties.length n0_1), (.int .i64 x0.Window)]), (.int .i64 x1), (.agg #[(.int .i64 x2.Log), (.int .i64 x2.Line)]), (.agg #[(.int .i64 x3.Log), (.int .i64 x3.Line)])] : List Value).toArray w0 (FRet w0 F0 fun F' v => v = (.bool r)) := by
 have hs0 := HS.start hF
 refine calls_of (n := 144) (c := bodyOf Try.f3) Try.func3 (by kernel_rfl) (by kernel_rfl) (by kernel_rfl) ?_
 refine Sq (Rg [0, 1, 2, 3] ?_)
 refine Bx 4 0 0 25 #[(.slice a0_0 x0.Tracks.length n0_0), (.slice a0_1 x0.Ties.length n0_1), (.int .i64 x0.Window)] hs0 (fun b1 w2 (hs3 : HS w0 F0 w2 F0 [(some b1, (.cells #[(.slice a0_0 x0.Tracks.length n0_0), (.slice a0_1 x0.Ties.length n0_1), (.int .i64 x0.Window)] 25 (0, 0)))]) => ?_)
 refine Bx 6 0 2 27 #[(.int .i64 x2.Log), (.int .i64 x2.Line)] hs3 (fun b4 w5 (hs6 : HS w0 F0 w5 F0 [(some b4, (.cells #[(.int .i64 x2.Log), (.int .i64 x2.Line)] 27 (0, 0))), (some b1, (.cells #[(.slice a0_0 x0.Tracks.length n0_0), (.slice a0_1 x0.Ties.length n0_1), (.int .i64 x0.Window)] 25 (0, 0)))]) => ?_)
 refine Bx 7 0 3 27 #[(.int .i64 x3.Log), (.int .i64 x3.Line)] hs6 (fun b7 w8 (hs9 : HS w0 F0 w8 F0 [(some b7, (.cells #[(.int .i64 x3.Log), (.int .i64 x3.Line)] 27 (0, 0))), (some b4, (.cells #[(.int .i64 x2.Log), (.int .i64 x2.Line)] 27 (0, 0))), (some b1, (.cells #[(.slice a0_0 x0.Tracks.length n0_0), (.slice a0_1 x0.Ties.length n0_1), (.int .i64 x0.Window)] 25 (0, 0)))]) => ?_)
 refine V 8 4 (mc (.bool false) (.bool false)) ?_
 refine Nss (Rg [0, 1] ?_)
 obtain ⟨r10, hr11, h12⟩ := bind_some h
 refine Cl 21 4 15 #[] #[] co_law03_awake hs9 (c_law03_awake N w8 F0 hs9.pers  _ hr11) ?_
 intro v13 F1 w14 hs15 le16 hp17
 obtain rfl := hp17
 refine V 9 4 (ma 21 (.bool r10)) ?_
 refine Nss ?_
 refine Sq (Rg [0, 1, 2, 3, 4, 5, 6, 7, 8, 9, 10, 11, 12, 13, 14, 15] ?_)
 obtain ⟨j21, hj29, h30⟩ := bind_some h12
 refine RWP.cut (fun f w => ∃ (F2 : Mem), HS w0 F0 w F2 [(some b7, (.cells #[(.int .i64 x3.Log), (.int .i64 x3.Line)] 27 (0, 0))), (some b4, (.cells #[(.int .i64 x2.Log), (.int .i64 x2.Line)] 27 (0, 0))), (some b1, (.cells #[(.slice a0_0 x0.Tracks.length n0_0), (.slice a0_1 x0.Ties.length n0_1), (.int .i64 x0.Window)] 25 (0, 0)))] ∧ Mem.le F1 F2 ∧ f.d = [] ∧ f 1 = (.int .i64 x1) ∧ f 4 = (.pointer (some ⟨b1, 0, none⟩)) ∧ f 6 = (.pointer (some ⟨b4, 0, none⟩)) ∧ f 7 = (.pointer (some ⟨b7, 0, none⟩)) ∧ f 9 = (.bool r10) ∧ f 37 = (.bool j21)) ?_ ?_
 ·refine V 22 25 (ld 25 4 b1 0 true 3 (.agg #[(.slice a0_0 x0.Tracks.length n0_0), (.slice a0_1 x0.Ties.length n0_1), (.int .i64 x0.Window)]) (hs15.ownAt (k := 2) rfl)) ?_
  obtain ⟨r31, hr32, h33⟩ := bind_some hj29
  refine Cl 23 4 16 #[(.tmp 22)] #[25] co_law03_few hs15 (c_law03_few N w14 F1 hs15.pers (x0) a0_0 n0_0 hb0_0 (SlA.mono hs0_0 le16) a0_1 n0_1 hb0_1 (SlA.mono hs0_1 le16) _ hr32) ?_
  intro v34 F3 w35 hs36 le37 hp38
  obtain rfl := hp38
  refine V 24 4 (run_not (t := 4) (x := (.tmp 23)) (a := r31) rfl) ?_
  refine V 25 4 (mv 24 (.bool (!r31))) ?_
  refine RWP.split (!r31) (fun hb39 => ?_) (fun hb39 => ?_)
  ·have h40 := cond_t h33 hb39
   refine Sk [26, 27] 3 false 25 hb39 ?_
   refine V 28 4 (p1 25 (.const (.bool true)) (.tmp 27) (.bool true) hb39) ?_
   refine V 29 4 (mv 28 (.bool true)) ?_
   refine Sk [30, 31] 7 false 29 rfl ?_
   refine V 32 4 (p1 29 (.const (.bool true)) (.tmp 31) (.bool true) rfl) ?_
   refine V 33 4 (mv 32 (.bool true)) ?_
   refine Sk [34, 35, 36] 11 false 33 rfl ?_
   refine V 37 4 (p1 33 (.const (.bool true)) (.tmp 36) (.bool true) rfl) ?_
   obtain rfl := some_inj h40
   exact RWP.nil ⟨rfl, F3, hs36, le37, rfl, rfl, rfl, rfl, rfl, rfl, rfl⟩
  ·have h41 := cond_f h33 hb39
   refine Vg 26 3 3 false 25 hb39 (mv 1 (.int .i64 x1)) ?_
   refine Vg 27 4 3 false 25 hb39 (run_lss (t := 3) (t' := 3) (x := (.tmp 26)) (y := (.const (.int .i64 (-20000)))) (k := .i64) (a := x1) (b := (-20000)) rfl rfl) ?_
   refine V 28 4 (p0 25 (.const (.bool true)) (.tmp 27) (.bool (decide (x1 < (-20000)))) hb39) ?_
   refine V 29 4 (mv 28 (.bool (decide (x1 < (-20000))))) ?_
   refine RWP.split (decide (x1 < (-20000))) (fun hb42 => ?_) (fun hb42 => ?_)
   ·have h43 := cond_t h41 hb42
    refine Sk [30, 31] 7 false 29 hb42 ?_
    refine V 32 4 (p1 29 (.const (.bool true)) (.tmp 31) (.bool true) hb42) ?_
    refine V 33 4 (mv 32 (.bool true)) ?_
    refine Sk [34, 35, 36] 11 false 33 rfl ?_
    refine V 37 4 (p1 33 (.const (.bool true)) (.tmp 36) (.bool true) rfl) ?_
    obtain rfl := some_inj h43
    exact RWP.nil ⟨rfl, F3, hs36, le37, rfl, rfl, rfl, rfl, rfl, rfl, rfl⟩
   ·have h44 := cond_f h41 hb42
    refine Vg 30 3 7 false 29 hb42 (mv 1 (.int .i64 x1)) ?_
    refine Vg 31 4 7 false 29 hb42 (run_gtr (t := 3) (t' := 3) (x := (.tmp 30)) (y := (.const (.int .i64 20000))) (k := .i64) (a := x1) (b := 20000) rfl rfl) ?_
    refine V 32 4 (p0 29 (.const (.bool true)) (.tmp 31) (.bool (decide (x1 > 20000))) hb42) ?_
    refine V 33 4 (mv 32 (.bool (decide (x1 > 20000)))) ?_
    refine RWP.split (decide (x1 > 20000)) (fun hb45 => ?_) (fun hb45 => ?_)
    ·have h46 := cond_t h44 hb45
     refine Sk [34, 35, 36] 11 false 33 hb45 ?_
     refine V 37 4 (p1 33 (.const (.bool true)) (.tmp 36) (.bool true) hb45) ?_
     obtain rfl := some_inj h46
     exact RWP.nil ⟨rfl, F3, hs36, le37, rfl, rfl, rfl, rfl, rfl, rfl, rfl⟩
    ·have h47 := cond_f h44 hb45
     refine Vg 34 25 11 false 33 hb45 (ld 25 4 b1 0 true 3 (.agg #[(.slice a0_0 x0.Tracks.length n0_0), (.slice a0_1 x0.Ties.length n0_1), (.int .i64 x0.Window)]) (hs36.ownAt (k := 2) rfl)) ?_
     obtain ⟨r48, hr49, h50⟩ := bind_some h47
     refine RWP.call (dst := (some 35)) (ty := 30) (g := (some (11, false))) (by kernel_rfl) (gd_y (d := 33) (by kernel_rfl) rfl hb45) (f0 := (.func 17)) (aos := #[(.tmp 34)]) (ats := #[25]) (fid := 17) (first := #[]) (cap := #[]) (args := [(.agg #[(.slice a0_0 x0.Tracks.length n0_0), (.slice a0_1 x0.Ties.length n0_1), (.int .i64 x0.Window)])]) rfl co_clocks_Check (rfl) hs36 (c_clocks_Check N w35 F3 hs36.pers (x0) a0_0 n0_0 hb0_0 (SlA.mono hs0_0 (le16.trans le37)) a0_1 n0_1 hb0_1 (SlA.mono hs0_1 (le16.trans le37)) _ hr49) ?_
     intro v51 F4 w52 hs53 le54 hp55
     obtain rfl := hp55
     refine Vg 36 4 11 false 33 hb45 (run_neq (t := 30) (t' := 30) (x := (.tmp 35)) (y := (.const (.int .i64 0))) (k := .i64) (a := r48) (b := 0) rfl rfl) ?_
     refine V 37 4 (p0 33 (.const (.bool true)) (.tmp 36) (.bool (r48 != 0)) hb45) ?_
     obtain rfl := some_inj h50
     exact RWP.nil ⟨rfl, F4, hs53, (le37.trans le54), rfl, rfl, rfl, rfl, rfl, rfl, rfl⟩
 ·rintro f w18 ⟨F2, hs19, le20, e22, e23, e24, e25, e26, e27, e28⟩
  refine thenQ_nrm ?_
  refine CWP.cond (t := j21) (by kernel_rfl) e28 (fun hb56 => ?_) (fun hb56 => ?_)
  ·have h57 := cond_t h30 hb56
   refine Sq (Rg [0, 1] ?_)
   refine V 38 4 (mv 9 (.bool r10) e27) ?_
   refine V 8 4 (ma 38 (.bool r10)) ?_
   refine Nt ?_
   refine CWP.ret (by kernel_rfl) ?_
   refine thenQ_ret ?_
   have hfin := some_inj h57
   subst hfin
   exact ⟨e22, (.bool r10), res_of (l := [.tmp 8]) (by kernel_rfl) (vs := [(.bool r10)]) ⟨rfl, trivial⟩, (.bool r10), F2, rfl, hs19.clear, rfl⟩
  ·have h58 := cond_f h30 hb56
   refine Sc ?_
   refine thenQ_nrm ?_
   refine Sq (Rg [0, 1, 2, 3, 4] ?_)
   refine V 39 25 (ld 25 4 b1 0 true 3 (.agg #[(.slice a0_0 x0.Tracks.length n0_0), (.slice a0_1 x0.Ties.length n0_1), (.int .i64 x0.Window)]) (hs19.ownAt (k := 2) rfl) e24) ?_
   refine V 40 3 (mv 1 (.int .i64 x1) e23) ?_
   obtain ⟨r59, hr60, h61⟩ := bind_some h58
   refine Cl 41 25 18 #[(.tmp 39), (.tmp 40)] #[25, 3] co_law03_moved hs19 (c_law03_moved N w18 F2 hs19.pers (x0) a0_0 n0_0 hb0_0 (SlA.mono hs0_0 (le16.trans le20)) a0_1 n0_1 hb0_1 (SlA.mono hs0_1 (le16.trans le20)) (x1) _ hr60) ?_
   intro v62 F5 w63 hs64 le65 hp66
   obtain ⟨ar59_0_0, nr59_0_0, ar59_0_1, nr59_0_1, rfl, hbr59_0_0, hsr59_0_0, hbr59_0_1, hsr59_0_1⟩ := hp66
   refine Al 10 0 25 #[(.slice none ([] : List Track).length 0), (.slice none ([] : List Tie).length 0), (.int .i64 0)] hs64 (fun b67 w68 (hs69 : HS w0 F0 w68 F5 [(some b67, (.cells #[(.slice none ([] : List Track).length 0), (.slice none ([] : List Tie).length 0), (.int .i64 0)] 25 (0, 0))), (some b7, (.cells #[(.int .i64 x3.Log), (.int .i64 x3.Line)] 27 (0, 0))), (some b4, (.cells #[(.int .i64 x2.Log), (.int .i64 x2.Line)] 27 (0, 0))), (some b1, (.cells #[(.slice a0_0 x0.Tracks.length n0_0), (.slice a0_1 x0.Ties.length n0_1), (.int .i64 x0.Window)] 25 (0, 0)))]) => ?_)
   refine RWP.store (ty := 0) (g := none) (by kernel_rfl) rfl (x := (.tmp 10)) (y := (.tmp 41)) (t := 25) (gg := true) (s := 3) (v := (.agg #[(.slice ar59_0_0 r59.Tracks.length nr59_0_0), (.slice ar59_0_1 r59.Ties.length nr59_0_1), (.int .i64 r59.Window)])) (b := b67) (o := 0) (C := #[(.slice none ([] : List Track).length 0), (.slice none ([] : List Tie).length 0), (.int .i64 0)]) rfl rfl (by kernel_rfl) hs69 (k := 0) rfl rfl rfl rfl (C' := #[(.slice ar59_0_0 r59.Tracks.length nr59_0_0), (.slice ar59_0_1 r59.Ties.length nr59_0_1), (.int .i64 r59.Window)]) rfl (fun w70 (hs71 : HS w0 F0 w70 F5 [(some b67, (.cells #[(.slice ar59_0_0 r59.Tracks.length nr59_0_0), (.slice ar59_0_1 r59.Ties.length nr59_0_1), (.int .i64 r59.Window)] 25 (0, 0))), (some b7, (.cells #[(.int .i64 x3.Log), (.int .i64 x3.Line)] 27 (0, 0))), (some b4, (.cells #[(.int .i64 x2.Log), (.int .i64 x2.Line)] 27 (0, 0))), (some b1, (.cells #[(.slice a0_0 x0.Tracks.length n0_0), (.slice a0_1 x0.Ties.length n0_1), (.int .i64 x0.Window)] 25 (0, 0)))]) => ?_)
   refine Nss ?_
   refine Sq (Rg [0, 1, 2] ?_)
   refine V 42 25 (ld 25 10 b67 0 true 3 (.agg #[(.slice ar59_0_0 r59.Tracks.length nr59_0_0), (.slice ar59_0_1 r59.Ties.length nr59_0_1), (.int .i64 r59.Window)]) (hs71.ownAt (k := 0) rfl)) ?_
   obtain ⟨r72, hr73, h74⟩ := bind_some h61
   refine Cl 43 30 17 #[(.tmp 42)] #[25] co_clocks_Check hs71 (c_clocks_Check N w70 F5 hs71.pers (r59) ar59_0_0 nr59_0_0 hbr59_0_0 hsr59_0_0 ar59_0_1 nr59_0_1 hbr59_0_1 hsr59_0_1 _ hr73) ?_
   intro v75 F6 w76 hs77 le78 hp79
   obtain rfl := hp79
   refine V 44 4 (run_neq (t := 30) (t' := 30) (x := (.tmp 43)) (y := (.const (.int .i64 0))) (k := .i64) (a := r72) (b := 0) rfl rfl) ?_
   refine Nt ?_
   refine CWP.cond (t := (r72 != 0)) (by kernel_rfl) rfl (fun hb80 => ?_) (fun hb80 => ?_)
   ·have h81 := cond_t h74 hb80
    refine Sq (Rg [0, 1] ?_)
    refine V 45 4 (mv 9 (.bool r10) e27) ?_
    refine V 8 4 (ma 45 (.bool r10)) ?_
    refine Nt ?_
    refine CWP.ret (by kernel_rfl) ?_
    refine thenQ_ret ?_
    have hfin := some_inj h81
    subst hfin
    exact ⟨e22, (.bool r10), res_of (l := [.tmp 8]) (by kernel_rfl) (vs := [(.bool r10)]) ⟨rfl, trivial⟩, (.bool r10), F6, rfl, hs77.clear, rfl⟩
   ·have h82 := cond_f h74 hb80
    refine Sc ?_
    refine thenQ_nrm ?_
    refine Sq (Rg [0, 1, 2, 3, 4, 5, 6] ?_)
    refine V 47 25 (ld 25 4 b1 0 true 3 (.agg #[(.slice a0_0 x0.Tracks.length n0_0), (.slice a0_1 x0.Ties.length n0_1), (.int .i64 x0.Window)]) (hs77.ownAt (k := 3) rfl) e24) ?_
    obtain ⟨r83, hr84, h85⟩ := bind_some h82
    refine Cl 48 34 19 #[(.tmp 47)] #[25] co_clocks_Times hs77 (c_clocks_Times N w76 F6 hs77.pers (x0) a0_0 n0_0 hb0_0 (SlA.mono hs0_0 (((le16.trans le20).trans le65).trans le78)) a0_1 n0_1 hb0_1 (SlA.mono hs0_1 (((le16.trans le20).trans le65).trans le78)) _ hr84) ?_
    intro v86 F7 w87 hs88 le89 hp90
    obtain ⟨ar83_0_0, nr83_0_0, rfl, hbr83_0_0, hsr83_0_0⟩ := hp90
    refine V 46 34 (mv 48 (.tuple #[(.slice ar83_0_0 r83.1.length nr83_0_0), (.int .i64 r83.2)])) ?_
    refine V 49 33 (ex 46 0 (.slice ar83_0_0 r83.1.length nr83_0_0) (vs := #[(.slice ar83_0_0 r83.1.length nr83_0_0), (.int .i64 r83.2)])) ?_
    refine V 50 30 (ex 46 1 (.int .i64 r83.2) (vs := #[(.slice ar83_0_0 r83.1.length nr83_0_0), (.int .i64 r83.2)])) ?_
    refine V 11 33 (ma 49 (.slice ar83_0_0 r83.1.length nr83_0_0)) ?_
    refine V 12 30 (ma 50 (.int .i64 r83.2)) ?_
    refine Nss (Rg [0, 1, 2, 3, 4, 5, 6] ?_)
    refine V 52 25 (ld 25 10 b67 0 true 3 (.agg #[(.slice ar59_0_0 r59.Tracks.length nr59_0_0), (.slice ar59_0_1 r59.Ties.length nr59_0_1), (.int .i64 r59.Window)]) (hs88.ownAt (k := 0) rfl)) ?_
    obtain ⟨r91, hr92, h93⟩ := bind_some h85
    refine Cl 53 34 19 #[(.tmp 52)] #[25] co_clocks_Times hs88 (c_clocks_Times N w87 F7 hs88.pers (r59) ar59_0_0 nr59_0_0 hbr59_0_0 (SlA.mono hsr59_0_0 (le78.trans le89)) ar59_0_1 nr59_0_1 hbr59_0_1 (SlA.mono hsr59_0_1 (le78.trans le89)) _ hr92) ?_
    intro v94 F8 w95 hs96 le97 hp98
    obtain ⟨ar91_0_0, nr91_0_0, rfl, hbr91_0_0, hsr91_0_0⟩ := hp98
    refine V 51 34 (mv 53 (.tuple #[(.slice ar91_0_0 r91.1.length nr91_0_0), (.int .i64 r91.2)])) ?_
    refine V 54 33 (ex 51 0 (.slice ar91_0_0 r91.1.length nr91_0_0) (vs := #[(.slice ar91_0_0 r91.1.length nr91_0_0), (.int .i64 r91.2)])) ?_
    refine V 55 30 (ex 51 1 (.int .i64 r91.2) (vs := #[(.slice ar91_0_0 r91.1.length nr91_0_0), (.int .i64 r91.2)])) ?_
    refine V 13 33 (ma 54 (.slice ar91_0_0 r91.1.length nr91_0_0)) ?_
    refine V 14 30 (ma 55 (.int .i64 r91.2)) ?_
    refine Nss ?_
    refine Sq (Rg [0, 1, 2, 3, 4, 5, 6, 7, 8, 9] ?_)
    refine RWP.cut (fun f w => ∃ (F9 : Mem), HS w0 F0 w F9 [(some b67, (.cells #[(.slice ar59_0_0 r59.Tracks.length nr59_0_0), (.slice ar59_0_1 r59.Ties.length nr59_0_1), (.int .i64 r59.Window)] 25 (0, 0))), (some b7, (.cells #[(.int .i64 x3.Log), (.int .i64 x3.Line)] 27 (0, 0))), (some b4, (.cells #[(.int .i64 x2.Log), (.int .i64 x2.Line)] 27 (0, 0))), (some b1, (.cells #[(.slice a0_0 x0.Tracks.length n0_0), (.slice a0_1 x0.Ties.length n0_1), (.int .i64 x0.Window)] 25 (0, 0)))] ∧ Mem.le F8 F9 ∧ f.d = [] ∧ f 1 = (.int .i64 x1) ∧ f 4 = (.pointer (some ⟨b1, 0, none⟩)) ∧ f 6 = (.pointer (some ⟨b4, 0, none⟩)) ∧ f 7 = (.pointer (some ⟨b7, 0, none⟩)) ∧ f 9 = (.bool r10) ∧ f 10 = (.pointer (some ⟨b67, 0, none⟩)) ∧ f 11 = (.slice ar83_0_0 r83.1.length nr83_0_0) ∧ f 13 = (.slice ar91_0_0 r91.1.length nr91_0_0) ∧ f 65 = (.bool ((r83.2 != r91.2) || ((r83.1.length : Int) != (r91.1.length : Int))))) ?_ ?_
    ·refine V 56 30 (mv 12 (.int .i64 r83.2)) ?_
     refine V 57 30 (mv 14 (.int .i64 r91.2)) ?_
     refine V 58 4 (run_neq (t := 30) (t' := 30) (x := (.tmp 56)) (y := (.tmp 57)) (k := .i64) (a := r83.2) (b := r91.2) rfl rfl) ?_
     refine V 59 4 (mv 58 (.bool (r83.2 != r91.2))) ?_
     refine RWP.split (r83.2 != r91.2) (fun hb112 => ?_) (fun hb112 => ?_)
     ·refine Sk [60, 61, 62, 63, 64] 3 false 59 hb112 ?_
      refine V 65 4 (p1 59 (.const (.bool true)) (.tmp 64) (.bool true) hb112) ?_
      exact RWP.nil ⟨rfl, F8, hs96, (Mem.le.refl _), e22, e23, e24, e25, e26, e27, rfl, rfl, rfl, (congrArg Value.bool (or_t hb112 (rfl)))⟩
     ·refine Vg 60 33 3 false 59 hb112 (mv 11 (.slice ar83_0_0 r83.1.length nr83_0_0)) ?_
      refine Vg 61 3 3 false 59 hb112 (ln 60 33 ar83_0_0 r83.1.length nr83_0_0 36 1 24) ?_
      refine Vg 62 33 3 false 59 hb112 (mv 13 (.slice ar91_0_0 r91.1.length nr91_0_0)) ?_
      refine Vg 63 3 3 false 59 hb112 (ln 62 33 ar91_0_0 r91.1.length nr91_0_0 36 1 24) ?_
      refine Vg 64 4 3 false 59 hb112 (run_neq (t := 3) (t' := 3) (x := (.tmp 61)) (y := (.tmp 63)) (k := .i64) (a := (r83.1.length : Int)) (b := (r91.1.length : Int)) rfl rfl) ?_
      refine V 65 4 (p0 59 (.const (.bool true)) (.tmp 64) (.bool ((r83.1.length : Int) != (r91.1.length : Int))) hb112) ?_
      exact RWP.nil ⟨rfl, F8, hs96, (Mem.le.refl _), e22, e23, e24, e25, e26, e27, rfl, rfl, rfl, (congrArg Value.bool (or_f hb112 (rfl)))⟩
    ·rintro f w99 ⟨F9, hs100, le101, e102, e103, e104, e105, e106, e107, e108, e109, e110, e111⟩
     refine thenQ_nrm ?_
     refine CWP.cond (t := ((r83.2 != r91.2) || ((r83.1.length : Int) != (r91.1.length : Int)))) (by kernel_rfl) e111 (fun hb113 => ?_) (fun hb113 => ?_)
     ·have h114 := cond_t h93 hb113
      refine Sq (Rg [0] ?_)
      refine V 8 4 (mc (.bool false) (.bool false)) ?_
      refine Nt ?_
      refine CWP.ret (by kernel_rfl) ?_
      refine thenQ_ret ?_
      have hfin := some_inj h114
      subst hfin
      exact ⟨e102, (.bool false), res_of (l := [.tmp 8]) (by kernel_rfl) (vs := [(.bool false)]) ⟨rfl, trivial⟩, (.bool false), F9, rfl, hs100.clear, rfl⟩
     ·have h115 := cond_f h93 hb113
      refine Sc ?_
      refine thenQ_nrm ?_
      refine Sq ?_
      refine Sq (Rg [0] ?_)
      refine V 15 3 (mc (.int .i64 0) (.int .i64 0)) ?_
      refine Nt ?_
      obtain ⟨o116, ho117, h118⟩ := bind_some h115
      refine CWP.cut (fun f w => ∃ (s133 : Int) (F11 : Mem), o116 = .done s133 ∧ HS w0 F0 w F11 [(some b67, (.cells #[(.slice ar59_0_0 r59.Tracks.length nr59_0_0), (.slice ar59_0_1 r59.Ties.length nr59_0_1), (.int .i64 r59.Window)] 25 (0, 0))), (some b7, (.cells #[(.int .i64 x3.Log), (.int .i64 x3.Line)] 27 (0, 0))), (some b4, (.cells #[(.int .i64 x2.Log), (.int .i64 x2.Line)] 27 (0, 0))), (some b1, (.cells #[(.slice a0_0 x0.Tracks.length n0_0), (.slice a0_1 x0.Ties.length n0_1), (.int .i64 x0.Window)] 25 (0, 0)))] ∧ Mem.le F9 F11 ∧ f.d = [] ∧ f 4 = (.pointer (some ⟨b1, 0, none⟩)) ∧ f 6 = (.pointer (some ⟨b4, 0, none⟩)) ∧ f 7 = (.pointer (some ⟨b7, 0, none⟩)) ∧ f 9 = (.bool r10) ∧ f 10 = (.pointer (some ⟨b67, 0, none⟩))) ?_ ?_
      ·refine Bk ?_
       refine CWP.loop (by kernel_rfl) (fun m f w => ∃ (s119 : Int) (F10 : Mem), iter (law03_ClocksMoves_L0 N x0 x1 x2 x3 r10 j21 r59 r72 r83 r91) m s119 = some o116 ∧ HS w0 F0 w F10 [(some b67, (.cells #[(.slice ar59_0_0 r59.Tracks.length nr59_0_0), (.slice ar59_0_1 r59.Ties.length nr59_0_1), (.int .i64 r59.Window)] 25 (0, 0))), (some b7, (.cells #[(.int .i64 x3.Log), (.int .i64 x3.Line)] 27 (0, 0))), (some b4, (.cells #[(.int .i64 x2.Log), (.int .i64 x2.Line)] 27 (0, 0))), (some b1, (.cells #[(.slice a0_0 x0.Tracks.length n0_0), (.slice a0_1 x0.Ties.length n0_1), (.int .i64 x0.Window)] 25 (0, 0)))] ∧ Mem.le F9 F10 ∧ f.d = [] ∧ f 1 = (.int .i64 x1) ∧ f 4 = (.pointer (some ⟨b1, 0, none⟩)) ∧ f 6 = (.pointer (some ⟨b4, 0, none⟩)) ∧ f 7 = (.pointer (some ⟨b7, 0, none⟩)) ∧ f 9 = (.bool r10) ∧ f 10 = (.pointer (some ⟨b67, 0, none⟩)) ∧ f 11 = (.slice ar83_0_0 r83.1.length nr83_0_0) ∧ f 13 = (.slice ar91_0_0 r91.1.length nr91_0_0) ∧ f 15 = (.int .i64 s119)) N ⟨0, F9, ho117, hs100, (Mem.le.refl _), e102, e103, e104, e105, e106, e107, e108, e109, e110, rfl⟩ ?_
       rintro m143 f w120 ⟨s119, F10, hit144, hs121, le122, e123, e124, e125, e126, e127, e128, e129, e130, e131, e132⟩
       obtain ⟨m145, fl146, rfl, hb147, hnx148⟩ := iter_step hit144
       refine Sq ?_
       refine Sq (Rg [0, 1, 2, 3] ?_)
       refine V 66 3 (mv 15 (.int .i64 s119) e132) ?_
       refine V 67 33 (mv 11 (.slice ar83_0_0 r83.1.length nr83_0_0) e130) ?_
       refine V 68 3 (ln 67 33 ar83_0_0 r83.1.length nr83_0_0 36 1 24) ?_
       refine V 69 4 (run_lss (t := 3) (t' := 3) (x := (.tmp 66)) (y := (.tmp 68)) (k := .i64) (a := s119) (b := (r83.1.length : Int)) rfl rfl) ?_
       refine Nt ?_
       refine CWP.cond (t := (decide (s119 < (r83.1.length : Int)))) (by kernel_rfl) rfl (fun hb149 => ?_) (fun hb149 => ?_)
       ·have h150 := cond_t hb147 hb149
        refine Sc ?_
        refine thenQ_nrm ?_
        refine Sq ?_
        refine Bk ?_
        refine Sq (Rg [0] ?_)
        refine V 16 3 (mc (.int .i64 0) (.int .i64 0)) ?_
        refine Nt ?_
        obtain ⟨o151, ho152, h153⟩ := bind_some h150
        refine CWP.cut (fun f w => ∃ (s169 : Int) (F13 : Mem), o151 = .done s169 ∧ HS w0 F0 w F13 [(some b67, (.cells #[(.slice ar59_0_0 r59.Tracks.length nr59_0_0), (.slice ar59_0_1 r59.Ties.length nr59_0_1), (.int .i64 r59.Window)] 25 (0, 0))), (some b7, (.cells #[(.int .i64 x3.Log), (.int .i64 x3.Line)] 27 (0, 0))), (some b4, (.cells #[(.int .i64 x2.Log), (.int .i64 x2.Line)] 27 (0, 0))), (some b1, (.cells #[(.slice a0_0 x0.Tracks.length n0_0), (.slice a0_1 x0.Ties.length n0_1), (.int .i64 x0.Window)] 25 (0, 0)))] ∧ Mem.le F10 F13 ∧ f.d = [] ∧ f 1 = (.int .i64 x1) ∧ f 4 = (.pointer (some ⟨b1, 0, none⟩)) ∧ f 6 = (.pointer (some ⟨b4, 0, none⟩)) ∧ f 7 = (.pointer (some ⟨b7, 0, none⟩)) ∧ f 9 = (.bool r10) ∧ f 10 = (.pointer (some ⟨b67, 0, none⟩)) ∧ f 11 = (.slice ar83_0_0 r83.1.length nr83_0_0) ∧ f 13 = (.slice ar91_0_0 r91.1.length nr91_0_0) ∧ f 15 = (.int .i64 s119)) ?_ ?_
        ·refine Bk ?_
         refine CWP.loop (by kernel_rfl) (fun m f w => ∃ (s154 : Int) (F12 : Mem), iter (law03_ClocksMoves_L1 N x0 x1 x2 x3 r10 j21 r59 r72 r83 r91 s119) m s154 = some o151 ∧ HS w0 F0 w F12 [(some b67, (.cells #[(.slice ar59_0_0 r59.Tracks.length nr59_0_0), (.slice ar59_0_1 r59.Ties.length nr59_0_1), (.int .i64 r59.Window)] 25 (0, 0))), (some b7, (.cells #[(.int .i64 x3.Log), (.int .i64 x3.Line)] 27 (0, 0))), (some b4, (.cells #[(.int .i64 x2.Log), (.int .i64 x2.Line)] 27 (0, 0))), (some b1, (.cells #[(.slice a0_0 x0.Tracks.length n0_0), (.slice a0_1 x0.Ties.length n0_1), (.int .i64 x0.Window)] 25 (0, 0)))] ∧ Mem.le F10 F12 ∧ f.d = [] ∧ f 1 = (.int .i64 x1) ∧ f 4 = (.pointer (some ⟨b1, 0, none⟩)) ∧ f 6 = (.pointer (some ⟨b4, 0, none⟩)) ∧ f 7 = (.pointer (some ⟨b7, 0, none⟩)) ∧ f 9 = (.bool r10) ∧ f 10 = (.pointer (some ⟨b67, 0, none⟩)) ∧ f 11 = (.slice ar83_0_0 r83.1.length nr83_0_0) ∧ f 13 = (.slice ar91_0_0 r91.1.length nr91_0_0) ∧ f 15 = (.int .i64 s119) ∧ f 16 = (.int .i64 s154)) N ⟨0, F10, ho152, hs121, (Mem.le.refl _), e123, e124, e125, e126, e127, e128, e129, e130, e131, e132, rfl⟩ ?_
         rintro m183 f w155 ⟨s154, F12, hit184, hs156, le157, e158, e159, e160, e161, e162, e163, e164, e165, e166, e167, e168⟩
         obtain ⟨m185, fl186, rfl, hb187, hnx188⟩ := iter_step hit184
         refine Sq ?_
         refine Sq (Rg [0, 1, 2, 3, 4, 5, 6] ?_)
         refine V 72 3 (mv 16 (.int .i64 s154) e168) ?_
         refine V 73 33 (mv 11 (.slice ar83_0_0 r83.1.length nr83_0_0) e165) ?_
         refine V 74 3 (mv 15 (.int .i64 s119) e167) ?_
         obtain ⟨x189, hx190, h192⟩ := bind_some hb187
         obtain ⟨hi191, hx190'⟩ := idx_spec hx190
         obtain ⟨b193, o194, C195, E196, fz197, rfl, hF199, hE200⟩ := SlA.open (SlA.mono hsr83_0_0 (((le97.trans le101).trans le122).trans le157)) hx190'
         obtain ⟨ae201_0, ne201_0, hc202, hbe201_0, hse201_0⟩ := hE200 _ _ hx190'
         refine V 75 0 (ix 33 73 74 b193 o194 36 1 24 hi191) ?_
         refine V 76 36 (lx 36 75 0 1 false 1 (.slice ae201_0 x189.length ne201_0) (hs156.pers _ _ hF199) hc202) ?_
         refine V 77 3 (ln 76 36 ae201_0 x189.length ne201_0 38 2 16) ?_
         refine V 78 4 (run_lss (t := 3) (t' := 3) (x := (.tmp 72)) (y := (.tmp 77)) (k := .i64) (a := s154) (b := (x189.length : Int)) rfl rfl) ?_
         refine Nt ?_
         refine CWP.cond (t := (decide (s154 < (x189.length : Int)))) (by kernel_rfl) rfl (fun hb203 => ?_) (fun hb203 => ?_)
         ·have h204 := cond_t h192 hb203
          refine Sc ?_
          refine thenQ_nrm ?_
          refine Sq ?_
          refine Bk ?_
          refine Sq ?_
          obtain ⟨j210, hj223, h224⟩ := bind_some h204
          refine CWP.regionD (by kernel_rfl) (by kernel_rfl) (by kernel_rfl) (by kernel_rfl) (z := 38) (F := F12) (Lc := [(some b67, (.cells #[(.slice ar59_0_0 r59.Tracks.length nr59_0_0), (.slice ar59_0_1 r59.Ties.length nr59_0_1), (.int .i64 r59.Window)] 25 (0, 0))), (some b7, (.cells #[(.int .i64 x3.Log), (.int .i64 x3.Line)] 27 (0, 0))), (some b4, (.cells #[(.int .i64 x2.Log), (.int .i64 x2.Line)] 27 (0, 0))), (some b1, (.cells #[(.slice a0_0 x0.Tracks.length n0_0), (.slice a0_1 x0.Ties.length n0_1), (.int .i64 x0.Window)] 25 (0, 0)))]) (Lz := []) (l := [false, false, false, false, false, false, false, false, false, false, false, false, false, false, false, false, false, false, false, false, false, false, false, false, false, false, false, false, false, false, false, false, false, false, false, false, false, false]) (fuel := 38) (by kernel_rfl) (by kernel_rfl) hs156 (by simp) (by simp) (fun f w => ∃ (F14 : Mem), HS w0 F0 w F14 [(some b67, (.cells #[(.slice ar59_0_0 r59.Tracks.length nr59_0_0), (.slice ar59_0_1 r59.Ties.length nr59_0_1), (.int .i64 r59.Window)] 25 (0, 0))), (some b7, (.cells #[(.int .i64 x3.Log), (.int .i64 x3.Line)] 27 (0, 0))), (some b4, (.cells #[(.int .i64 x2.Log), (.int .i64 x2.Line)] 27 (0, 0))), (some b1, (.cells #[(.slice a0_0 x0.Tracks.length n0_0), (.slice a0_1 x0.Ties.length n0_1), (.int .i64 x0.Window)] 25 (0, 0)))] ∧ Mem.le F12 F14 ∧ f.d = [] ∧ f 1 = (.int .i64 x1) ∧ f 4 = (.pointer (some ⟨b1, 0, none⟩)) ∧ f 6 = (.pointer (some ⟨b4, 0, none⟩)) ∧ f 7 = (.pointer (some ⟨b7, 0, none⟩)) ∧ f 9 = (.bool r10) ∧ f 10 = (.pointer (some ⟨b67, 0, none⟩)) ∧ f 11 = (.slice (some ⟨b193, o194, none⟩) r83.1.length nr83_0_0) ∧ f 13 = (.slice ar91_0_0 r91.1.length nr91_0_0) ∧ f 15 = (.int .i64 s119) ∧ f 16 = (.int .i64 s154) ∧ f 118 = (.bool j210)) (fun wd205 hw206 => ?_) ?_
          ·refine Dtl 0 81 3 _ [tt, ff, ff, ff, ff, ff, ff, ff, ff, ff, ff, ff, ff, ff, ff, ff, ff, ff, ff, ff, ff, ff, ff, ff, ff, ff, ff, ff, ff, ff, ff, ff, ff, ff, ff, ff, ff, ff] (fun _ hq => mv 16 (.int .i64 s154) e168) ?_
           refine Dtl 1 82 33 _ [tt, tt, ff, ff, ff, ff, ff, ff, ff, ff, ff, ff, ff, ff, ff, ff, ff, ff, ff, ff, ff, ff, ff, ff, ff, ff, ff, ff, ff, ff, ff, ff, ff, ff, ff, ff, ff, ff] (fun _ hq => mv 13 (.slice ar91_0_0 r91.1.length nr91_0_0) e166) ?_
           refine Dtl 2 83 3 _ [tt, tt, tt, ff, ff, ff, ff, ff, ff, ff, ff, ff, ff, ff, ff, ff, ff, ff, ff, ff, ff, ff, ff, ff, ff, ff, ff, ff, ff, ff, ff, ff, ff, ff, ff, ff, ff, ff] (fun _ hq => mv 15 (.int .i64 s119) e167) ?_
           obtain ⟨x225, hx226, h228⟩ := bind_some hj223
           obtain ⟨hi227, hx226'⟩ := idx_spec hx226
           obtain ⟨b229, o230, C231, E232, fz233, rfl, hF235, hE236⟩ := SlA.open (SlA.mono hsr91_0_0 ((le101.trans le122).trans le157)) hx226'
           obtain ⟨ae237_0, ne237_0, hc238, hbe237_0, hse237_0⟩ := hE236 _ _ hx226'
           refine Dtl 3 84 0 (.pointer (some ⟨b229, (o230 + (s119 : Int).toNat * 1), none⟩)) [tt, tt, tt, tt, ff, ff, ff, ff, ff, ff, ff, ff, ff, ff, ff, ff, ff, ff, ff, ff, ff, ff, ff, ff, ff, ff, ff, ff, ff, ff, ff, ff, ff, ff, ff, ff, ff, ff] (fun _ hq => ix 33 82 83 b229 o230 36 1 24 hi227) ?_
           refine Dtl 4 85 36 _ [tt, tt, tt, tt, tt, ff, ff, ff, ff, ff, ff, ff, ff, ff, ff, ff, ff, ff, ff, ff, ff, ff, ff, ff, ff, ff, ff, ff, ff, ff, ff, ff, ff, ff, ff, ff, ff, ff] (fun _ hq => lx 36 84 0 1 false 1 (.slice ae237_0 x225.length ne237_0) (hq.1.1 _ _ hF235) hc238) ?_
           refine Dtl 5 86 3 (.int .i64 (x225.length : Int)) [tt, tt, tt, tt, tt, tt, ff, ff, ff, ff, ff, ff, ff, ff, ff, ff, ff, ff, ff, ff, ff, ff, ff, ff, ff, ff, ff, ff, ff, ff, ff, ff, ff, ff, ff, ff, ff, ff] (fun _ hq => ln 85 36 ae237_0 x225.length ne237_0 38 2 16) ?_
           refine Dtl 6 87 4 (.bool (decide (s154 ≥ (x225.length : Int)))) [tt, tt, tt, tt, tt, tt, tt, ff, ff, ff, ff, ff, ff, ff, ff, ff, ff, ff, ff, ff, ff, ff, ff, ff, ff, ff, ff, ff, ff, ff, ff, ff, ff, ff, ff, ff, ff, ff] (fun _ hq => run_geq (t := 3) (t' := 3) (x := (.tmp 81)) (y := (.tmp 86)) (k := .i64) (a := s154) (b := (x225.length : Int)) rfl rfl) ?_
           refine Dtl 7 88 4 _ [tt, tt, tt, tt, tt, tt, tt, tt, ff, ff, ff, ff, ff, ff, ff, ff, ff, ff, ff, ff, ff, ff, ff, ff, ff, ff, ff, ff, ff, ff, ff, ff, ff, ff, ff, ff, ff, ff] (fun _ hq => mv 87 (.bool (decide (s154 ≥ (x225.length : Int))))) ?_
           refine DWP.split (decide (s154 ≥ (x225.length : Int))) (fun hb239 => ?_) (fun hb239 => ?_)
           ·have h240 := cond_t h228 hb239
            refine Dkl [(8, 89), (9, 90), (10, 91), (11, 92), (12, 93), (13, 94)] 7 false 88 hb239 [tt, tt, tt, tt, tt, tt, tt, tt, tt, tt, tt, tt, tt, tt, ff, ff, ff, ff, ff, ff, ff, ff, ff, ff, ff, ff, ff, ff, ff, ff, ff, ff, ff, ff, ff, ff, ff, ff] ?_
            refine Dkl [(14, 95), (15, 96), (16, 97), (17, 98), (18, 99), (19, 100)] 7 false 88 hb239 [tt, tt, tt, tt, tt, tt, tt, tt, tt, tt, tt, tt, tt, tt, tt, tt, tt, tt, tt, tt, ff, ff, ff, ff, ff, ff, ff, ff, ff, ff, ff, ff, ff, ff, ff, ff, ff, ff] ?_
            refine Dkl [(20, 101), (21, 102), (22, 103), (23, 104), (24, 105), (25, 106)] 7 false 88 hb239 [tt, tt, tt, tt, tt, tt, tt, tt, tt, tt, tt, tt, tt, tt, tt, tt, tt, tt, tt, tt, tt, tt, tt, tt, tt, tt, ff, ff, ff, ff, ff, ff, ff, ff, ff, ff, ff, ff] ?_
            refine Dkl [(26, 107), (27, 108), (28, 109), (29, 110), (30, 111), (31, 112)] 7 false 88 hb239 [tt, tt, tt, tt, tt, tt, tt, tt, tt, tt, tt, tt, tt, tt, tt, tt, tt, tt, tt, tt, tt, tt, tt, tt, tt, tt, tt, tt, tt, tt, tt, tt, ff, ff, ff, ff, ff, ff] ?_
            refine Dkl [(32, 113), (33, 114), (34, 115), (35, 116), (36, 117)] 7 false 88 hb239 [tt, tt, tt, tt, tt, tt, tt, tt, tt, tt, tt, tt, tt, tt, tt, tt, tt, tt, tt, tt, tt, tt, tt, tt, tt, tt, tt, tt, tt, tt, tt, tt, tt, tt, tt, tt, tt, ff] ?_
            refine Dtl 37 118 4 _ [tt, tt, tt, tt, tt, tt, tt, tt, tt, tt, tt, tt, tt, tt, tt, tt, tt, tt, tt, tt, tt, tt, tt, tt, tt, tt, tt, tt, tt, tt, tt, tt, tt, tt, tt, tt, tt, tt] (fun _ hq => p1 88 (.const (.bool true)) (.tmp 117) (.bool true) hb239) ?_
            obtain rfl := some_inj h240
            exact DWP.done (by kernel_rfl) ⟨F12, hw206, (Mem.le.refl _), e158, e159, e160, e161, e162, e163, e164, e165, e166, e167, e168, rfl⟩
           ·have h241 := cond_f h228 hb239
            refine Dgl 8 89 33 _ [tt, tt, tt, tt, tt, tt, tt, tt, tt, ff, ff, ff, ff, ff, ff, ff, ff, ff, ff, ff, ff, ff, ff, ff, ff, ff, ff, ff, ff, ff, ff, ff, ff, ff, ff, ff, ff, ff] 7 false 88 hb239 (fun _ hq => mv 13 (.slice (some ⟨b229, o230, none⟩) r91.1.length nr91_0_0) e166) ?_
            refine Dgl 9 90 3 _ [tt, tt, tt, tt, tt, tt, tt, tt, tt, tt, ff, ff, ff, ff, ff, ff, ff, ff, ff, ff, ff, ff, ff, ff, ff, ff, ff, ff, ff, ff, ff, ff, ff, ff, ff, ff, ff, ff] 7 false 88 hb239 (fun _ hq => mv 15 (.int .i64 s119) e167) ?_
            obtain ⟨x242, hx243, h245⟩ := bind_some h241
            obtain ⟨hi244, hx243'⟩ := idx_spec hx243
            obtain ⟨ae246_0, ne246_0, hc247, hbe246_0, hse246_0⟩ := hE236 _ _ hx243'
            refine Dgl 10 91 0 (.pointer (some ⟨b229, (o230 + (s119 : Int).toNat * 1), none⟩)) [tt, tt, tt, tt, tt, tt, tt, tt, tt, tt, tt, ff, ff, ff, ff, ff, ff, ff, ff, ff, ff, ff, ff, ff, ff, ff, ff, ff, ff, ff, ff, ff, ff, ff, ff, ff, ff, ff] 7 false 88 hb239 (fun _ hq => ix 33 89 90 b229 o230 36 1 24 hi244) ?_
            refine Dgl 11 92 36 _ [tt, tt, tt, tt, tt, tt, tt, tt, tt, tt, tt, tt, ff, ff, ff, ff, ff, ff, ff, ff, ff, ff, ff, ff, ff, ff, ff, ff, ff, ff, ff, ff, ff, ff, ff, ff, ff, ff] 7 false 88 hb239 (fun _ hq => lx 36 91 0 1 false 1 (.slice ae246_0 x242.length ne246_0) (hq.1.1 _ _ hF235) hc247) ?_
            refine Dgl 12 93 3 _ [tt, tt, tt, tt, tt, tt, tt, tt, tt, tt, tt, tt, tt, ff, ff, ff, ff, ff, ff, ff, ff, ff, ff, ff, ff, ff, ff, ff, ff, ff, ff, ff, ff, ff, ff, ff, ff, ff] 7 false 88 hb239 (fun _ hq => mv 16 (.int .i64 s154) e168) ?_
            obtain ⟨x248, hx249, h251⟩ := bind_some h245
            obtain ⟨hi250, hx249'⟩ := idx_spec hx249
            obtain ⟨b252, o253, C254, E255, fz256, rfl, hF258, hE259⟩ := SlA.open hse246_0 hx249'
            have hc261 := hE259 _ _ hx249'
            refine Dgl 13 94 0 (.pointer (some ⟨b252, (o253 + (s154 : Int).toNat * 2), none⟩)) [tt, tt, tt, tt, tt, tt, tt, tt, tt, tt, tt, tt, tt, tt, ff, ff, ff, ff, ff, ff, ff, ff, ff, ff, ff, ff, ff, ff, ff, ff, ff, ff, ff, ff, ff, ff, ff, ff] 7 false 88 hb239 (fun _ hq => ix 36 92 93 b252 o253 38 2 16 hi250) ?_
            refine Dgl 14 95 38 _ [tt, tt, tt, tt, tt, tt, tt, tt, tt, tt, tt, tt, tt, tt, tt, ff, ff, ff, ff, ff, ff, ff, ff, ff, ff, ff, ff, ff, ff, ff, ff, ff, ff, ff, ff, ff, ff, ff] 7 false 88 hb239 (fun _ hq => lx 38 94 0 2 true 2 (.agg #[(.int .i64 x248.Lo), (.int .i64 x248.Hi)]) (hq.1.1 _ _ hF258) hc261) ?_
            refine Dgl 15 96 33 _ [tt, tt, tt, tt, tt, tt, tt, tt, tt, tt, tt, tt, tt, tt, tt, tt, ff, ff, ff, ff, ff, ff, ff, ff, ff, ff, ff, ff, ff, ff, ff, ff, ff, ff, ff, ff, ff, ff] 7 false 88 hb239 (fun _ hq => mv 11 (.slice (some ⟨b193, o194, none⟩) r83.1.length nr83_0_0) e165) ?_
            refine Dgl 16 97 3 _ [tt, tt, tt, tt, tt, tt, tt, tt, tt, tt, tt, tt, tt, tt, tt, tt, tt, ff, ff, ff, ff, ff, ff, ff, ff, ff, ff, ff, ff, ff, ff, ff, ff, ff, ff, ff, ff, ff] 7 false 88 hb239 (fun _ hq => mv 15 (.int .i64 s119) e167) ?_
            obtain ⟨x262, hx263, h265⟩ := bind_some h251
            obtain ⟨hi264, hx263'⟩ := idx_spec hx263
            obtain ⟨ae266_0, ne266_0, hc267, hbe266_0, hse266_0⟩ := hE200 _ _ hx263'
            refine Dgl 17 98 0 (.pointer (some ⟨b193, (o194 + (s119 : Int).toNat * 1), none⟩)) [tt, tt, tt, tt, tt, tt, tt, tt, tt, tt, tt, tt, tt, tt, tt, tt, tt, tt, ff, ff, ff, ff, ff, ff, ff, ff, ff, ff, ff, ff, ff, ff, ff, ff, ff, ff, ff, ff] 7 false 88 hb239 (fun _ hq => ix 33 96 97 b193 o194 36 1 24 hi264) ?_
            refine Dgl 18 99 36 _ [tt, tt, tt, tt, tt, tt, tt, tt, tt, tt, tt, tt, tt, tt, tt, tt, tt, tt, tt, ff, ff, ff, ff, ff, ff, ff, ff, ff, ff, ff, ff, ff, ff, ff, ff, ff, ff, ff] 7 false 88 hb239 (fun _ hq => lx 36 98 0 1 false 1 (.slice ae266_0 x262.length ne266_0) (hq.1.1 _ _ hF199) hc267) ?_
            refine Dgl 19 100 3 _ [tt, tt, tt, tt, tt, tt, tt, tt, tt, tt, tt, tt, tt, tt, tt, tt, tt, tt, tt, tt, ff, ff, ff, ff, ff, ff, ff, ff, ff, ff, ff, ff, ff, ff, ff, ff, ff, ff] 7 false 88 hb239 (fun _ hq => mv 16 (.int .i64 s154) e168) ?_
            obtain ⟨x268, hx269, h271⟩ := bind_some h265
            obtain ⟨hi270, hx269'⟩ := idx_spec hx269
            obtain ⟨b272, o273, C274, E275, fz276, rfl, hF278, hE279⟩ := SlA.open hse266_0 hx269'
            have hc281 := hE279 _ _ hx269'
            refine Dgl 20 101 0 (.pointer (some ⟨b272, (o273 + (s154 : Int).toNat * 2), none⟩)) [tt, tt, tt, tt, tt, tt, tt, tt, tt, tt, tt, tt, tt, tt, tt, tt, tt, tt, tt, tt, tt, ff, ff, ff, ff, ff, ff, ff, ff, ff, ff, ff, ff, ff, ff, ff, ff, ff] 7 false 88 hb239 (fun _ hq => ix 36 99 100 b272 o273 38 2 16 hi270) ?_
            refine Dgl 21 102 0 (.pointer (some ⟨b272, (o273 + (s154 : Int).toNat * 2), none⟩)) [tt, tt, tt, tt, tt, tt, tt, tt, tt, tt, tt, tt, tt, tt, tt, tt, tt, tt, tt, tt, tt, tt, ff, ff, ff, ff, ff, ff, ff, ff, ff, ff, ff, ff, ff, ff, ff, ff] 7 false 88 hb239 (fun _ hq => fa 38 101 0 0 1 b272 (o273 + (s154 : Int).toNat * 2) (o273 + (s154 : Int).toNat * 2)) ?_
            refine Dgl 22 103 3 _ [tt, tt, tt, tt, tt, tt, tt, tt, tt, tt, tt, tt, tt, tt, tt, tt, tt, tt, tt, tt, tt, tt, tt, ff, ff, ff, ff, ff, ff, ff, ff, ff, ff, ff, ff, ff, ff, ff] 7 false 88 hb239 (fun _ hq => lx 3 102 0 2 false 1 (.int .i64 x268.Lo) (hq.1.1 _ _ hF278) hc281) ?_
            refine Dgl 23 104 3 _ [tt, tt, tt, tt, tt, tt, tt, tt, tt, tt, tt, tt, tt, tt, tt, tt, tt, tt, tt, tt, tt, tt, tt, tt, ff, ff, ff, ff, ff, ff, ff, ff, ff, ff, ff, ff, ff, ff] 7 false 88 hb239 (fun _ hq => mv 1 (.int .i64 x1) e159) ?_
            refine Dgl 24 105 3 (.int .i64 (W64 (x268.Lo + x1))) [tt, tt, tt, tt, tt, tt, tt, tt, tt, tt, tt, tt, tt, tt, tt, tt, tt, tt, tt, tt, tt, tt, tt, tt, tt, ff, ff, ff, ff, ff, ff, ff, ff, ff, ff, ff, ff, ff] 7 false 88 hb239 (fun _ hq => run_add (t := 3) (t' := 3) (x := (.tmp 103)) (y := (.tmp 104)) (k := .i64) (a := x268.Lo) (b := x1) rfl rfl) ?_
            refine Dgl 25 106 33 _ [tt, tt, tt, tt, tt, tt, tt, tt, tt, tt, tt, tt, tt, tt, tt, tt, tt, tt, tt, tt, tt, tt, tt, tt, tt, tt, ff, ff, ff, ff, ff, ff, ff, ff, ff, ff, ff, ff] 7 false 88 hb239 (fun _ hq => mv 11 (.slice (some ⟨b193, o194, none⟩) r83.1.length nr83_0_0) e165) ?_
            refine Dgl 26 107 3 _ [tt, tt, tt, tt, tt, tt, tt, tt, tt, tt, tt, tt, tt, tt, tt, tt, tt, tt, tt, tt, tt, tt, tt, tt, tt, tt, tt, ff, ff, ff, ff, ff, ff, ff, ff, ff, ff, ff] 7 false 88 hb239 (fun _ hq => mv 15 (.int .i64 s119) e167) ?_
            obtain ⟨x282, hx283, h285⟩ := bind_some h271
            obtain ⟨hi284, hx283'⟩ := idx_spec hx283
            obtain ⟨ae286_0, ne286_0, hc287, hbe286_0, hse286_0⟩ := hE200 _ _ hx283'
            refine Dgl 27 108 0 (.pointer (some ⟨b193, (o194 + (s119 : Int).toNat * 1), none⟩)) [tt, tt, tt, tt, tt, tt, tt, tt, tt, tt, tt, tt, tt, tt, tt, tt, tt, tt, tt, tt, tt, tt, tt, tt, tt, tt, tt, tt, ff, ff, ff, ff, ff, ff, ff, ff, ff, ff] 7 false 88 hb239 (fun _ hq => ix 33 106 107 b193 o194 36 1 24 hi284) ?_
            refine Dgl 28 109 36 _ [tt, tt, tt, tt, tt, tt, tt, tt, tt, tt, tt, tt, tt, tt, tt, tt, tt, tt, tt, tt, tt, tt, tt, tt, tt, tt, tt, tt, tt, ff, ff, ff, ff, ff, ff, ff, ff, ff] 7 false 88 hb239 (fun _ hq => lx 36 108 0 1 false 1 (.slice ae286_0 x282.length ne286_0) (hq.1.1 _ _ hF199) hc287) ?_
            refine Dgl 29 110 3 _ [tt, tt, tt, tt, tt, tt, tt, tt, tt, tt, tt, tt, tt, tt, tt, tt, tt, tt, tt, tt, tt, tt, tt, tt, tt, tt, tt, tt, tt, tt, ff, ff, ff, ff, ff, ff, ff, ff] 7 false 88 hb239 (fun _ hq => mv 16 (.int .i64 s154) e168) ?_
            obtain ⟨x288, hx289, h291⟩ := bind_some h285
            obtain ⟨hi290, hx289'⟩ := idx_spec hx289
            obtain ⟨b292, o293, C294, E295, fz296, rfl, hF298, hE299⟩ := SlA.open hse286_0 hx289'
            have hc301 := hE299 _ _ hx289'
            refine Dgl 30 111 0 (.pointer (some ⟨b292, (o293 + (s154 : Int).toNat * 2), none⟩)) [tt, tt, tt, tt, tt, tt, tt, tt, tt, tt, tt, tt, tt, tt, tt, tt, tt, tt, tt, tt, tt, tt, tt, tt, tt, tt, tt, tt, tt, tt, tt, ff, ff, ff, ff, ff, ff, ff] 7 false 88 hb239 (fun _ hq => ix 36 109 110 b292 o293 38 2 16 hi290) ?_
            refine Dgl 31 112 0 (.pointer (some ⟨b292, ((o293 + (s154 : Int).toNat * 2) + 1), none⟩)) [tt, tt, tt, tt, tt, tt, tt, tt, tt, tt, tt, tt, tt, tt, tt, tt, tt, tt, tt, tt, tt, tt, tt, tt, tt, tt, tt, tt, tt, tt, tt, tt, ff, ff, ff, ff, ff, ff] 7 false 88 hb239 (fun _ hq => fa 38 111 1 1 1 b292 (o293 + (s154 : Int).toNat * 2) ((o293 + (s154 : Int).toNat * 2) + 1)) ?_
            refine Dgl 32 113 3 _ [tt, tt, tt, tt, tt, tt, tt, tt, tt, tt, tt, tt, tt, tt, tt, tt, tt, tt, tt, tt, tt, tt, tt, tt, tt, tt, tt, tt, tt, tt, tt, tt, tt, ff, ff, ff, ff, ff] 7 false 88 hb239 (fun _ hq => lx 3 112 1 2 false 1 (.int .i64 x288.Hi) (hq.1.1 _ _ hF298) hc301) ?_
            refine Dgl 33 114 3 _ [tt, tt, tt, tt, tt, tt, tt, tt, tt, tt, tt, tt, tt, tt, tt, tt, tt, tt, tt, tt, tt, tt, tt, tt, tt, tt, tt, tt, tt, tt, tt, tt, tt, tt, ff, ff, ff, ff] 7 false 88 hb239 (fun _ hq => mv 1 (.int .i64 x1) e159) ?_
            refine Dgl 34 115 3 (.int .i64 (W64 (x288.Hi + x1))) [tt, tt, tt, tt, tt, tt, tt, tt, tt, tt, tt, tt, tt, tt, tt, tt, tt, tt, tt, tt, tt, tt, tt, tt, tt, tt, tt, tt, tt, tt, tt, tt, tt, tt, tt, ff, ff, ff] 7 false 88 hb239 (fun _ hq => run_add (t := 3) (t' := 3) (x := (.tmp 113)) (y := (.tmp 114)) (k := .i64) (a := x288.Hi) (b := x1) rfl rfl) ?_
            refine Dgl 35 116 38 (.agg #[(.int .i64 (W64 (x268.Lo + x1))), (.int .i64 (W64 (x288.Hi + x1)))]) [tt, tt, tt, tt, tt, tt, tt, tt, tt, tt, tt, tt, tt, tt, tt, tt, tt, tt, tt, tt, tt, tt, tt, tt, tt, tt, tt, tt, tt, tt, tt, tt, tt, tt, tt, tt, ff, ff] 7 false 88 hb239 (fun _ hq => run_build2 (t := 38) (parts := #[(0, (.tmp 105)), (1, (.tmp 115))]) (vs := [(0, (.int .i64 (W64 (x268.Lo + x1)))), (1, (.int .i64 (W64 (x288.Hi + x1))))]) (rfl) (cs := [(.int .i64 (W64 (x268.Lo + x1))), (.int .i64 (W64 (x288.Hi + x1)))]) (by kernel_rfl)) ?_
            refine Dgl 36 117 4 (.bool (!((x248.Lo == (W64 (x268.Lo + x1))) && ((x248.Hi == (W64 (x288.Hi + x1))) && true)))) [tt, tt, tt, tt, tt, tt, tt, tt, tt, tt, tt, tt, tt, tt, tt, tt, tt, tt, tt, tt, tt, tt, tt, tt, tt, tt, tt, tt, tt, tt, tt, tt, tt, tt, tt, tt, tt, ff] 7 false 88 hb239 (fun _ hq => run_nes (t := 38) (t' := 38) (x := (.tmp 95)) (y := (.tmp 116)) (xs := #[(.int .i64 x248.Lo), (.int .i64 x248.Hi)]) (ys := #[(.int .i64 (W64 (x268.Lo + x1))), (.int .i64 (W64 (x288.Hi + x1)))]) (b := ((x248.Lo == (W64 (x268.Lo + x1))) && ((x248.Hi == (W64 (x288.Hi + x1))) && true))) rfl rfl (by kernel_rfl) (by kernel_rfl)) ?_
            refine Dtl 37 118 4 _ [tt, tt, tt, tt, tt, tt, tt, tt, tt, tt, tt, tt, tt, tt, tt, tt, tt, tt, tt, tt, tt, tt, tt, tt, tt, tt, tt, tt, tt, tt, tt, tt, tt, tt, tt, tt, tt, tt] (fun _ hq => p0 88 (.const (.bool true)) (.tmp 117) (.bool (!((x248.Lo == (W64 (x268.Lo + x1))) && ((x248.Hi == (W64 (x288.Hi + x1))) && true)))) hb239) ?_
            obtain rfl := some_inj h291
            exact DWP.done (by kernel_rfl) ⟨F12, hw206, (Mem.le.refl _), e158, e159, e160, e161, e162, e163, e164, e165, e166, e167, e168, rfl⟩
          ·rintro f w207 ⟨F14, hs208, le209, e211, e212, e213, e214, e215, e216, e217, e218, e219, e220, e221, e222⟩
           refine thenQ_nrm ?_
           refine CWP.cond (t := j210) (by kernel_rfl) e222 (fun hb302 => ?_) (fun hb302 => ?_)
           ·have h303 := cond_t h224 hb302
            refine Sq (Rg [0] ?_)
            refine V 8 4 (mc (.bool false) (.bool false)) ?_
            refine Nt ?_
            refine CWP.ret (by kernel_rfl) ?_
            refine blockQ_ret ?_
            refine thenQ_ret ?_
            refine thenQ_ret ?_
            refine blockQ_ret ?_
            have hret := iter_ret h303 hnx188
            subst hret
            refine .inr ?_
            refine blockQ_ret ?_
            refine thenQ_ret ?_
            refine thenQ_ret ?_
            refine blockQ_ret ?_
            have hret := iter_ret h153 hnx148
            subst hret
            refine .inr ?_
            refine thenQ_ret ?_
            have hfin := some_inj h118
            subst hfin
            exact ⟨e211, (.bool false), res_of (l := [.tmp 8]) (by kernel_rfl) (vs := [(.bool false)]) ⟨rfl, trivial⟩, (.bool false), F14, rfl, hs208.clear, rfl⟩
           ·have h304 := cond_f h224 hb302
            refine Sc ?_
            refine blockQ_nrm ?_
            refine thenQ_nrm ?_
            refine Rg [0, 1, 2] ?_
            refine V 79 3 (mv 16 (.int .i64 s154) e221) ?_
            refine V 80 3 (run_add (t := 3) (t' := 3) (x := (.tmp 79)) (y := (.const (.int .i64 1))) (k := .i64) (a := s154) (b := 1) rfl rfl) ?_
            refine V 16 3 (ma 80 (.int .i64 (W64 (s154 + 1)))) ?_
            refine RWP.nil ?_
            have hn305 := iter_next h304 hnx188
            exact ⟨m185, Nat.lt_succ_self _, (W64 (s154 + 1)), F14, hn305, hs208, (le157.trans le209), e211, e212, e213, e214, e215, e216, e217, e218, e219, e220, rfl⟩
         ·have h306 := cond_f h192 hb203
          refine CWP.exit (by kernel_rfl) ?_
          refine thenQ_ex ?_
          refine thenQ_ex ?_
          refine blockQ_hit rfl ?_
          have ho307 := iter_done h306 hnx188
          exact .inl ⟨rfl, s154, F12, ho307, hs156, le157, e158, e159, e160, e161, e162, e163, e164, e165, e166, e167⟩
        ·rintro f w170 ⟨s169, F13, rfl, hs171, le172, e173, e174, e175, e176, e177, e178, e179, e180, e181, e182⟩
         have h308 := k_done h153
         refine blockQ_nrm ?_
         refine thenQ_nrm ?_
         refine Rg [0, 1, 2] ?_
         refine V 70 3 (mv 15 (.int .i64 s119) e182) ?_
         refine V 71 3 (run_add (t := 3) (t' := 3) (x := (.tmp 70)) (y := (.const (.int .i64 1))) (k := .i64) (a := s119) (b := 1) rfl rfl) ?_
         refine V 15 3 (ma 71 (.int .i64 (W64 (s119 + 1)))) ?_
         refine RWP.nil ?_
         have hn309 := iter_next h308 hnx148
         exact ⟨m145, Nat.lt_succ_self _, (W64 (s119 + 1)), F13, hn309, hs171, (le122.trans le172), e173, e174, e175, e176, e177, e178, e179, e180, e181, rfl⟩
       ·have h310 := cond_f hb147 hb149
        refine CWP.exit (by kernel_rfl) ?_
        refine thenQ_ex ?_
        refine thenQ_ex ?_
        refine blockQ_hit rfl ?_
        have ho311 := iter_done h310 hnx148
        exact .inl ⟨rfl, s119, F10, ho311, hs121, le122, e123, e125, e126, e127, e128, e129⟩
      ·rintro f w134 ⟨s133, F11, rfl, hs135, le136, e137, e138, e139, e140, e141, e142⟩
       have h312 := k_done h118
       refine thenQ_nrm ?_
       refine Sq (Rg [0, 1, 2, 3, 4, 5, 6, 7, 8, 9] ?_)
       refine V 120 25 (ld 25 4 b1 0 true 3 (.agg #[(.slice a0_0 x0.Tracks.length n0_0), (.slice a0_1 x0.Ties.length n0_1), (.int .i64 x0.Window)]) (hs135.ownAt (k := 3) rfl) e138) ?_
       refine V 121 27 (ld 27 6 b4 0 true 2 (.agg #[(.int .i64 x2.Log), (.int .i64 x2.Line)]) (hs135.ownAt (k := 2) rfl) e139) ?_
       refine V 122 27 (ld 27 7 b7 0 true 2 (.agg #[(.int .i64 x3.Log), (.int .i64 x3.Line)]) (hs135.ownAt (k := 1) rfl) e140) ?_
       obtain ⟨r313, hr314, h315⟩ := bind_some h312
       refine Cl 123 39 20 #[(.tmp 120), (.tmp 121), (.tmp 122)] #[25, 27, 27] co_clocks_Relation hs135 (c_clocks_Relation N w134 F11 hs135.pers (x0) a0_0 n0_0 hb0_0 (SlA.mono hs0_0 (((((((le16.trans le20).trans le65).trans le78).trans le89).trans le97).trans le101).trans le136)) a0_1 n0_1 hb0_1 (SlA.mono hs0_1 (((((((le16.trans le20).trans le65).trans le78).trans le89).trans le97).trans le101).trans le136)) (x2) (x3) _ hr314) ?_
       intro v316 F15 w317 hs318 le319 hp320
       obtain rfl := hp320
       refine V 119 39 (mv 123 (.tuple #[(.agg #[(.int .i64 r313.1.Lo), (.int .i64 r313.1.Hi)]), (.int .i64 r313.2)])) ?_
       refine V 124 38 (ex 119 0 (.agg #[(.int .i64 r313.1.Lo), (.int .i64 r313.1.Hi)]) (vs := #[(.agg #[(.int .i64 r313.1.Lo), (.int .i64 r313.1.Hi)]), (.int .i64 r313.2)])) ?_
       refine V 125 30 (ex 119 1 (.int .i64 r313.2) (vs := #[(.agg #[(.int .i64 r313.1.Lo), (.int .i64 r313.1.Hi)]), (.int .i64 r313.2)])) ?_
       refine Al 17 0 38 #[(.int .i64 0), (.int .i64 0)] hs318 (fun b321 w322 (hs323 : HS w0 F0 w322 F15 [(some b321, (.cells #[(.int .i64 0), (.int .i64 0)] 38 (0, 0))), (some b67, (.cells #[(.slice ar59_0_0 r59.Tracks.length nr59_0_0), (.slice ar59_0_1 r59.Ties.length nr59_0_1), (.int .i64 r59.Window)] 25 (0, 0))), (some b7, (.cells #[(.int .i64 x3.Log), (.int .i64 x3.Line)] 27 (0, 0))), (some b4, (.cells #[(.int .i64 x2.Log), (.int .i64 x2.Line)] 27 (0, 0))), (some b1, (.cells #[(.slice a0_0 x0.Tracks.length n0_0), (.slice a0_1 x0.Ties.length n0_1), (.int .i64 x0.Window)] 25 (0, 0)))]) => ?_)
       refine RWP.store (ty := 0) (g := none) (by kernel_rfl) rfl (x := (.tmp 17)) (y := (.tmp 124)) (t := 38) (gg := true) (s := 2) (v := (.agg #[(.int .i64 r313.1.Lo), (.int .i64 r313.1.Hi)])) (b := b321) (o := 0) (C := #[(.int .i64 0), (.int .i64 0)]) rfl rfl (by kernel_rfl) hs323 (k := 0) rfl rfl rfl rfl (C' := #[(.int .i64 r313.1.Lo), (.int .i64 r313.1.Hi)]) rfl (fun w324 (hs325 : HS w0 F0 w324 F15 [(some b321, (.cells #[(.int .i64 r313.1.Lo), (.int .i64 r313.1.Hi)] 38 (0, 0))), (some b67, (.cells #[(.slice ar59_0_0 r59.Tracks.length nr59_0_0), (.slice ar59_0_1 r59.Ties.length nr59_0_1), (.int .i64 r59.Window)] 25 (0, 0))), (some b7, (.cells #[(.int .i64 x3.Log), (.int .i64 x3.Line)] 27 (0, 0))), (some b4, (.cells #[(.int .i64 x2.Log), (.int .i64 x2.Line)] 27 (0, 0))), (some b1, (.cells #[(.slice a0_0 x0.Tracks.length n0_0), (.slice a0_1 x0.Ties.length n0_1), (.int .i64 x0.Window)] 25 (0, 0)))]) => ?_)
       refine V 18 30 (ma 125 (.int .i64 r313.2)) ?_
       refine Nss (Rg [0, 1, 2, 3, 4, 5, 6, 7, 8, 9] ?_)
       refine V 127 25 (ld 25 10 b67 0 true 3 (.agg #[(.slice ar59_0_0 r59.Tracks.length nr59_0_0), (.slice ar59_0_1 r59.Ties.length nr59_0_1), (.int .i64 r59.Window)]) (hs325.ownAt (k := 1) rfl) e142) ?_
       refine V 128 27 (ld 27 6 b4 0 true 2 (.agg #[(.int .i64 x2.Log), (.int .i64 x2.Line)]) (hs325.ownAt (k := 3) rfl) e139) ?_
       refine V 129 27 (ld 27 7 b7 0 true 2 (.agg #[(.int .i64 x3.Log), (.int .i64 x3.Line)]) (hs325.ownAt (k := 2) rfl) e140) ?_
       obtain ⟨r326, hr327, h328⟩ := bind_some h315
       refine Cl 130 39 20 #[(.tmp 127), (.tmp 128), (.tmp 129)] #[25, 27, 27] co_clocks_Relation hs325 (c_clocks_Relation N w324 F15 hs325.pers (r59) ar59_0_0 nr59_0_0 hbr59_0_0 (SlA.mono hsr59_0_0 (((((le78.trans le89).trans le97).trans le101).trans le136).trans le319)) ar59_0_1 nr59_0_1 hbr59_0_1 (SlA.mono hsr59_0_1 (((((le78.trans le89).trans le97).trans le101).trans le136).trans le319)) (x2) (x3) _ hr327) ?_
       intro v329 F16 w330 hs331 le332 hp333
       obtain rfl := hp333
       refine V 126 39 (mv 130 (.tuple #[(.agg #[(.int .i64 r326.1.Lo), (.int .i64 r326.1.Hi)]), (.int .i64 r326.2)])) ?_
       refine V 131 38 (ex 126 0 (.agg #[(.int .i64 r326.1.Lo), (.int .i64 r326.1.Hi)]) (vs := #[(.agg #[(.int .i64 r326.1.Lo), (.int .i64 r326.1.Hi)]), (.int .i64 r326.2)])) ?_
       refine V 132 30 (ex 126 1 (.int .i64 r326.2) (vs := #[(.agg #[(.int .i64 r326.1.Lo), (.int .i64 r326.1.Hi)]), (.int .i64 r326.2)])) ?_
       refine Al 19 0 38 #[(.int .i64 0), (.int .i64 0)] hs331 (fun b334 w335 (hs336 : HS w0 F0 w335 F16 [(some b334, (.cells #[(.int .i64 0), (.int .i64 0)] 38 (0, 0))), (some b321, (.cells #[(.int .i64 r313.1.Lo), (.int .i64 r313.1.Hi)] 38 (0, 0))), (some b67, (.cells #[(.slice ar59_0_0 r59.Tracks.length nr59_0_0), (.slice ar59_0_1 r59.Ties.length nr59_0_1), (.int .i64 r59.Window)] 25 (0, 0))), (some b7, (.cells #[(.int .i64 x3.Log), (.int .i64 x3.Line)] 27 (0, 0))), (some b4, (.cells #[(.int .i64 x2.Log), (.int .i64 x2.Line)] 27 (0, 0))), (some b1, (.cells #[(.slice a0_0 x0.Tracks.length n0_0), (.slice a0_1 x0.Ties.length n0_1), (.int .i64 x0.Window)] 25 (0, 0)))]) => ?_)
       refine RWP.store (ty := 0) (g := none) (by kernel_rfl) rfl (x := (.tmp 19)) (y := (.tmp 131)) (t := 38) (gg := true) (s := 2) (v := (.agg #[(.int .i64 r326.1.Lo), (.int .i64 r326.1.Hi)])) (b := b334) (o := 0) (C := #[(.int .i64 0), (.int .i64 0)]) rfl rfl (by kernel_rfl) hs336 (k := 0) rfl rfl rfl rfl (C' := #[(.int .i64 r326.1.Lo), (.int .i64 r326.1.Hi)]) rfl (fun w337 (hs338 : HS w0 F0 w337 F16 [(some b334, (.cells #[(.int .i64 r326.1.Lo), (.int .i64 r326.1.Hi)] 38 (0, 0))), (some b321, (.cells #[(.int .i64 r313.1.Lo), (.int .i64 r313.1.Hi)] 38 (0, 0))), (some b67, (.cells #[(.slice ar59_0_0 r59.Tracks.length nr59_0_0), (.slice ar59_0_1 r59.Ties.length nr59_0_1), (.int .i64 r59.Window)] 25 (0, 0))), (some b7, (.cells #[(.int .i64 x3.Log), (.int .i64 x3.Line)] 27 (0, 0))), (some b4, (.cells #[(.int .i64 x2.Log), (.int .i64 x2.Line)] 27 (0, 0))), (some b1, (.cells #[(.slice a0_0 x0.Tracks.length n0_0), (.slice a0_1 x0.Ties.length n0_1), (.int .i64 x0.Window)] 25 (0, 0)))]) => ?_)
       refine V 20 30 (ma 132 (.int .i64 r326.2)) ?_
       refine Nss (Rg [0, 1, 2, 3, 4, 5, 6, 7, 8, 9, 10, 11] ?_)
       refine RWP.cut (fun f w => ∃ (F17 : Mem), HS w0 F0 w F17 [] ∧ Mem.le F16 F17 ∧ f.d = [] ∧ f 8 = (.bool (r10 && ((r313.2 == r326.2) && ((r313.1.Lo == r326.1.Lo) && ((r313.1.Hi == r326.1.Hi) && true)))))) ?_ ?_
       ·refine V 133 4 (mv 9 (.bool r10) e141) ?_
        refine V 134 4 (mv 133 (.bool r10)) ?_
        refine RWP.split r10 (fun hb344 => ?_) (fun hb344 => ?_)
        ·refine Vg 135 30 1 true 134 hb344 (mv 18 (.int .i64 r313.2)) ?_
         refine Vg 136 30 1 true 134 hb344 (mv 20 (.int .i64 r326.2)) ?_
         refine Vg 137 4 1 true 134 hb344 (run_eql (t := 30) (t' := 30) (x := (.tmp 135)) (y := (.tmp 136)) (k := .i64) (a := r313.2) (b := r326.2) rfl rfl) ?_
         refine V 138 4 (p1 134 (.tmp 137) (.const (.bool false)) (.bool (r313.2 == r326.2)) hb344) ?_
         refine V 139 4 (mv 138 (.bool (r313.2 == r326.2))) ?_
         refine RWP.split (r313.2 == r326.2) (fun hb345 => ?_) (fun hb345 => ?_)
         ·refine Vg 140 38 6 true 139 hb345 (ld 38 17 b321 0 true 2 (.agg #[(.int .i64 r313.1.Lo), (.int .i64 r313.1.Hi)]) (hs338.ownAt (k := 1) rfl)) ?_
          refine Vg 141 38 6 true 139 hb345 (ld 38 19 b334 0 true 2 (.agg #[(.int .i64 r326.1.Lo), (.int .i64 r326.1.Hi)]) (hs338.ownAt (k := 0) rfl)) ?_
          refine Vg 142 4 6 true 139 hb345 (run_eqs (t := 38) (t' := 38) (x := (.tmp 140)) (y := (.tmp 141)) (xs := #[(.int .i64 r313.1.Lo), (.int .i64 r313.1.Hi)]) (ys := #[(.int .i64 r326.1.Lo), (.int .i64 r326.1.Hi)]) (b := ((r313.1.Lo == r326.1.Lo) && ((r313.1.Hi == r326.1.Hi) && true))) rfl rfl (by kernel_rfl) (by kernel_rfl)) ?_
          refine V 143 4 (p1 139 (.tmp 142) (.const (.bool false)) (.bool ((r313.1.Lo == r326.1.Lo) && ((r313.1.Hi == r326.1.Hi) && true))) hb345) ?_
          refine V 8 4 (ma 143 (.bool ((r313.1.Lo == r326.1.Lo) && ((r313.1.Hi == r326.1.Hi) && true)))) ?_
          have hs346 : HS w0 F0 w337 F16 [(some b321, (.cells #[(.int .i64 r313.1.Lo), (.int .i64 r313.1.Hi)] 38 (0, 0))), (some b67, (.cells #[(.slice ar59_0_0 r59.Tracks.length nr59_0_0), (.slice ar59_0_1 r59.Ties.length nr59_0_1), (.int .i64 r59.Window)] 25 (0, 0))), (some b7, (.cells #[(.int .i64 x3.Log), (.int .i64 x3.Line)] 27 (0, 0))), (some b4, (.cells #[(.int .i64 x2.Log), (.int .i64 x2.Line)] 27 (0, 0))), (some b1, (.cells #[(.slice a0_0 x0.Tracks.length n0_0), (.slice a0_1 x0.Ties.length n0_1), (.int .i64 x0.Window)] 25 (0, 0)))] := hs338.drop 0
          have hs347 : HS w0 F0 w337 F16 [(some b67, (.cells #[(.slice ar59_0_0 r59.Tracks.length nr59_0_0), (.slice ar59_0_1 r59.Ties.length nr59_0_1), (.int .i64 r59.Window)] 25 (0, 0))), (some b7, (.cells #[(.int .i64 x3.Log), (.int .i64 x3.Line)] 27 (0, 0))), (some b4, (.cells #[(.int .i64 x2.Log), (.int .i64 x2.Line)] 27 (0, 0))), (some b1, (.cells #[(.slice a0_0 x0.Tracks.length n0_0), (.slice a0_1 x0.Ties.length n0_1), (.int .i64 x0.Window)] 25 (0, 0)))] := hs346.drop 0
          have hs348 : HS w0 F0 w337 F16 [(some b7, (.cells #[(.int .i64 x3.Log), (.int .i64 x3.Line)] 27 (0, 0))), (some b4, (.cells #[(.int .i64 x2.Log), (.int .i64 x2.Line)] 27 (0, 0))), (some b1, (.cells #[(.slice a0_0 x0.Tracks.length n0_0), (.slice a0_1 x0.Ties.length n0_1), (.int .i64 x0.Window)] 25 (0, 0)))] := hs347.drop 0
          have hs349 : HS w0 F0 w337 F16 [(some b4, (.cells #[(.int .i64 x2.Log), (.int .i64 x2.Line)] 27 (0, 0))), (some b1, (.cells #[(.slice a0_0 x0.Tracks.length n0_0), (.slice a0_1 x0.Ties.length n0_1), (.int .i64 x0.Window)] 25 (0, 0)))] := hs348.drop 0
          have hs350 : HS w0 F0 w337 F16 [(some b1, (.cells #[(.slice a0_0 x0.Tracks.length n0_0), (.slice a0_1 x0.Ties.length n0_1), (.int .i64 x0.Window)] 25 (0, 0)))] := hs349.drop 0
          have hs351 : HS w0 F0 w337 F16 [] := hs350.drop 0
          exact RWP.nil ⟨rfl, F16, hs351, (Mem.le.refl _), e137, (congrArg Value.bool (and_t hb344 (and_t hb345 (rfl))))⟩
         ·refine Sk [140, 141, 142] 6 true 139 hb345 ?_
          refine V 143 4 (p0 139 (.tmp 142) (.const (.bool false)) (.bool false) hb345) ?_
          refine V 8 4 (ma 143 (.bool false)) ?_
          have hs352 : HS w0 F0 w337 F16 [(some b321, (.cells #[(.int .i64 r313.1.Lo), (.int .i64 r313.1.Hi)] 38 (0, 0))), (some b67, (.cells #[(.slice ar59_0_0 r59.Tracks.length nr59_0_0), (.slice ar59_0_1 r59.Ties.length nr59_0_1), (.int .i64 r59.Window)] 25 (0, 0))), (some b7, (.cells #[(.int .i64 x3.Log), (.int .i64 x3.Line)] 27 (0, 0))), (some b4, (.cells #[(.int .i64 x2.Log), (.int .i64 x2.Line)] 27 (0, 0))), (some b1, (.cells #[(.slice a0_0 x0.Tracks.length n0_0), (.slice a0_1 x0.Ties.length n0_1), (.int .i64 x0.Window)] 25 (0, 0)))] := hs338.drop 0
          have hs353 : HS w0 F0 w337 F16 [(some b67, (.cells #[(.slice ar59_0_0 r59.Tracks.length nr59_0_0), (.slice ar59_0_1 r59.Ties.length nr59_0_1), (.int .i64 r59.Window)] 25 (0, 0))), (some b7, (.cells #[(.int .i64 x3.Log), (.int .i64 x3.Line)] 27 (0, 0))), (some b4, (.cells #[(.int .i64 x2.Log), (.int .i64 x2.Line)] 27 (0, 0))), (some b1, (.cells #[(.slice a0_0 x0.Tracks.length n0_0), (.slice a0_1 x0.Ties.length n0_1), (.int .i64 x0.Window)] 25 (0, 0)))] := hs352.drop 0
          have hs354 : HS w0 F0 w337 F16 [(some b7, (.cells #[(.int .i64 x3.Log), (.int .i64 x3.Line)] 27 (0, 0))), (some b4, (.cells #[(.int .i64 x2.Log), (.int .i64 x2.Line)] 27 (0, 0))), (some b1, (.cells #[(.slice a0_0 x0.Tracks.length n0_0), (.slice a0_1 x0.Ties.length n0_1), (.int .i64 x0.Window)] 25 (0, 0)))] := hs353.drop 0
          have hs355 : HS w0 F0 w337 F16 [(some b4, (.cells #[(.int .i64 x2.Log), (.int .i64 x2.Line)] 27 (0, 0))), (some b1, (.cells #[(.slice a0_0 x0.Tracks.length n0_0), (.slice a0_1 x0.Ties.length n0_1), (.int .i64 x0.Window)] 25 (0, 0)))] := hs354.drop 0
          have hs356 : HS w0 F0 w337 F16 [(some b1, (.cells #[(.slice a0_0 x0.Tracks.length n0_0), (.slice a0_1 x0.Ties.length n0_1), (.int .i64 x0.Window)] 25 (0, 0)))] := hs355.drop 0
          have hs357 : HS w0 F0 w337 F16 [] := hs356.drop 0
          exact RWP.nil ⟨rfl, F16, hs357, (Mem.le.refl _), e137, (congrArg Value.bool (and_t hb344 (and_f hb345 (rfl))))⟩
        ·refine Sk [135, 136, 137] 1 true 134 hb344 ?_
         refine V 138 4 (p0 134 (.tmp 137) (.const (.bool false)) (.bool false) hb344) ?_
         refine V 139 4 (mv 138 (.bool false)) ?_
         refine Sk [140, 141, 142] 6 true 139 rfl ?_
         refine V 143 4 (p0 139 (.tmp 142) (.const (.bool false)) (.bool false) rfl) ?_
         refine V 8 4 (ma 143 (.bool false)) ?_
         have hs358 : HS w0 F0 w337 F16 [(some b321, (.cells #[(.int .i64 r313.1.Lo), (.int .i64 r313.1.Hi)] 38 (0, 0))), (some b67, (.cells #[(.slice ar59_0_0 r59.Tracks.length nr59_0_0), (.slice ar59_0_1 r59.Ties.length nr59_0_1), (.int .i64 r59.Window)] 25 (0, 0))), (some b7, (.cells #[(.int .i64 x3.Log), (.int .i64 x3.Line)] 27 (0, 0))), (some b4, (.cells #[(.int .i64 x2.Log), (.int .i64 x2.Line)] 27 (0, 0))), (some b1, (.cells #[(.slice a0_0 x0.Tracks.length n0_0), (.slice a0_1 x0.Ties.length n0_1), (.int .i64 x0.Window)] 25 (0, 0)))] := hs338.drop 0
         have hs359 : HS w0 F0 w337 F16 [(some b67, (.cells #[(.slice ar59_0_0 r59.Tracks.length nr59_0_0), (.slice ar59_0_1 r59.Ties.length nr59_0_1), (.int .i64 r59.Window)] 25 (0, 0))), (some b7, (.cells #[(.int .i64 x3.Log), (.int .i64 x3.Line)] 27 (0, 0))), (some b4, (.cells #[(.int .i64 x2.Log), (.int .i64 x2.Line)] 27 (0, 0))), (some b1, (.cells #[(.slice a0_0 x0.Tracks.length n0_0), (.slice a0_1 x0.Ties.length n0_1), (.int .i64 x0.Window)] 25 (0, 0)))] := hs358.drop 0
         have hs360 : HS w0 F0 w337 F16 [(some b7, (.cells #[(.int .i64 x3.Log), (.int .i64 x3.Line)] 27 (0, 0))), (some b4, (.cells #[(.int .i64 x2.Log), (.int .i64 x2.Line)] 27 (0, 0))), (some b1, (.cells #[(.slice a0_0 x0.Tracks.length n0_0), (.slice a0_1 x0.Ties.length n0_1), (.int .i64 x0.Window)] 25 (0, 0)))] := hs359.drop 0
         have hs361 : HS w0 F0 w337 F16 [(some b4, (.cells #[(.int .i64 x2.Log), (.int .i64 x2.Line)] 27 (0, 0))), (some b1, (.cells #[(.slice a0_0 x0.Tracks.length n0_0), (.slice a0_1 x0.Ties.length n0_1), (.int .i64 x0.Window)] 25 (0, 0)))] := hs360.drop 0
         have hs362 : HS w0 F0 w337 F16 [(some b1, (.cells #[(.slice a0_0 x0.Tracks.length n0_0), (.slice a0_1 x0.Ties.length n0_1), (.int .i64 x0.Window)] 25 (0, 0)))] := hs361.drop 0
         have hs363 : HS w0 F0 w337 F16 [] := hs362.drop 0
         exact RWP.nil ⟨rfl, F16, hs363, (Mem.le.refl _), e137, (congrArg Value.bool (and_f hb344 (rfl)))⟩
       ·rintro f w339 ⟨F17, hs340, le341, e342, e343⟩
        refine thenQ_nrm ?_
        refine CWP.ret (by kernel_rfl) ?_
        have hfin := some_inj h328
        subst hfin
        exact ⟨e342, (.bool (r10 && ((r313.2 == r326.2) && ((r313.1.Lo == r326.1.Lo) && ((r313.1.Hi == r326.1.Hi) && true))))), res_of (l := [.tmp 8]) (by kernel_rfl) (vs := [(.bool (r10 && ((r313.2 == r326.2) && ((r313.1.Lo == r326.1.Lo) && ((r313.1.Hi == r326.1.Hi) && true)))))]) ⟨e343, trivial⟩, (.bool (r10 && ((r313.2 == r326.2) && ((r313.1.Lo == r326.1.Lo) && ((r313.1.Hi == r326.1.Hi) && true))))), F17, rfl, hs340.clear, rfl⟩
end Go.Proofs.Ythbcnabeabcmlaa
namespace Go.Proofs.Ythbcnabeabcmlaa
open BF
def mvT (by_ : Int) (t : Track) : Track := { Clock := { Slip := t.Clock.Slip, Drift := t.Clock.Drift, Jumps := t.Clock.Jumps.map (· + by_) }, Times := t.Times.map (· + by_) }
def mvS (by_ : Int) (s : System) : System := { Tracks := s.Tracks.map (mvT by_), Ties := s.Ties.reverse, Window := s.Window }
section
variable {N : Nat} {s : System} {by_ : Int}
theorem jumps_in {t : Track} (h : vTrack t = true) {x : Int} (hx : x ∈ t.Clock.Jumps) : 0 ≤ x ∧ x ≤ 20000 := by
  obtain ⟨j, hj, rfl⟩ := List.getElem_of_mem hx
  have := allB_t (clock_facts (track_facts h).2.1).1 hj
  cases j with
  | zero => simp only [okO, getD_at hj, inr, Bool.and_eq_true, decide_eq_true_eq] at this; exact this
  | succ k => simp only [okO, getD_at hj, inr, Bool.and_eq_true, decide_eq_true_eq] at this; exact this.1
theorem map_loop {l : List Int} (hN : l.length < N) (hl : l.length < 1000000) {f : Int → Int} {body : Int × List Int → Option (Flow System (Int × List Int))}
    (hb : ∀ i (hi : i < l.length) acc, acc.length = i → body ((i : Int), acc) = some (.next (((i + 1 : Nat) : Int), acc ++ [f l[i]]))) (he : ∀ acc, body ((l.length : Int), acc) = some (.done ((l.length : Int), acc))) :
    iter body N (0, []) = some (.done ((l.length : Int), l.map f)) := by
  obtain ⟨o, ho, rfl⟩ := iter_ex (body := body) l.length (fun i q => q = ((i : Int), (l.take i).map f)) (fun o => o = .done ((l.length : Int), l.map f)) (by
    rintro i q hi rfl
    by_cases hlt : i < l.length
    · left
      refine ⟨_, hb i hlt _ (by simp; omega), ?_, hlt⟩
      rw [List.take_succ_eq_append_getElem hlt, List.map_append]; rfl
    · have : i = l.length := by omega
      subst this
      right
      exact ⟨_, he _, (fun _ h => by cases h), by simp⟩) l.length N 0 (0, []) (by omega) (by simp) hN
  exact ho
theorem moved_eq (hN : 1000000 ≤ N) (h : vCheck s = 0) (h1 : -20000 ≤ by_) (h2 : by_ ≤ 20000) : law03_moved N s by_ = some (mvS by_ s) := by
  obtain ⟨k1, k2, k3, _⟩ := check_ok h
  unfold law03_moved
  obtain ⟨o, ho, rfl⟩ := iter_ex (body := law03_moved_L0 N s by_) s.Tracks.length (fun i q => q = ((i : Int), (s.Tracks.take i).map (mvT by_))) (fun o => o = .done ((s.Tracks.length : Int), s.Tracks.map (mvT by_))) (by
    rintro i q hi rfl
    unfold law03_moved_L0
    simp only
    by_cases hlt : i < s.Tracks.length
    · left
      have ht := List.getElem?_eq_getElem hlt
      have hv := track_at h ht
      have hjl := (clock_facts (track_facts hv).2.1).2.1
      have htl := (track_facts hv).2.2
      rw [lt_t hlt, cond_true, idx_nat hlt]
      simp only [Option.bind_some]
      rw [map_loop (N := N) (l := s.Tracks[i].Clock.Jumps) (f := (· + by_)) (by omega) (by omega) (fun j hj acc hacc => by
        unfold law03_moved_L1
        have hx := jumps_in hv (List.getElem_mem hj)
        simp only [idx_nat hlt, Option.bind_some, lt_t hj, cond_true, idx_nat hj]
        rw [apnd_ok (by rw [hacc]; simp; omega), W64_succ (by omega), W64_id (by omega) (by omega)]; rfl) (fun acc => by
        unfold law03_moved_L1
        simp only [idx_nat hlt, Option.bind_some, lt_f, cond_false])]
      simp only [Option.bind_some, Flow.k]
      rw [map_loop (N := N) (l := s.Tracks[i].Times) (f := (· + by_)) (by omega) (by omega) (fun j hj acc hacc => by
        unfold law03_moved_L2
        have hx := times_in hv hj
        simp only [idx_nat hlt, Option.bind_some, lt_t hj, cond_true, idx_nat hj]
        rw [apnd_ok (by rw [hacc]; simp; omega), W64_succ (by omega), W64_id (by omega) (by omega)]; rfl) (fun acc => by
        unfold law03_moved_L2
        simp only [idx_nat hlt, Option.bind_some, lt_f, cond_false])]
      simp only [Option.bind_some, Flow.k]
      rw [apnd_ok (by simp; omega), Option.bind_some, W64_succ (by omega)]
      refine ⟨_, rfl, ?_, hlt⟩
      rw [List.take_succ_eq_append_getElem hlt, List.map_append]; rfl
    · have : i = s.Tracks.length := by omega
      subst this
      right
      rw [lt_f, cond_false]
      exact ⟨_, rfl, (fun _ h => by cases h), by simp⟩) s.Tracks.length N 0 (0, []) (by omega) (by simp) (by omega)
  rw [ho]
  simp only [Option.bind_some, Flow.k]
  obtain ⟨o, ho, j, rfl⟩ := iter_ex (body := law03_moved_L3 N s by_ ((s.Tracks.length : Int), s.Tracks.map (mvT by_))) s.Ties.length (fun k q => q = ((s.Ties.length : Int) - 1 - k, s.Ties.reverse.take k)) (fun o => ∃ j, o = .done (j, s.Ties.reverse)) (by
    rintro k q hk rfl
    unfold law03_moved_L3
    simp only
    by_cases hlt : k < s.Ties.length
    · left
      have e1 : decide ((s.Ties.length : Int) - 1 - k ≥ 0) = true := by simp; omega
      have e2 : (s.Ties.length : Int) - 1 - k = ((s.Ties.length - 1 - k : Nat) : Int) := by omega
      rw [e1, cond_true, e2, idx_nat (show s.Ties.length - 1 - k < s.Ties.length by omega), Option.bind_some, apnd_ok (by simp; omega)]
      simp only [Option.bind_some]
      rw [W64_id (by omega) (by omega)]
      refine ⟨_, rfl, ?_, hlt⟩
      rw [List.take_succ_eq_append_getElem (by simpa using hlt), List.getElem_reverse]
      congr 1; omega
    · have : k = s.Ties.length := by omega
      subst this
      right
      have e1 : decide ((s.Ties.length : Int) - 1 - s.Ties.length ≥ 0) = false := by simp; omega
      rw [e1, cond_false]
      refine ⟨_, rfl, (fun _ h => by cases h), (s.Ties.length : Int) - 1 - s.Ties.length, ?_⟩
      rw [List.take_of_length_le (by simp)]) s.Ties.length N 0 (W64 ((s.Ties.length : Int) - 1), []) (by omega) (by rw [W64_id (by omega) (by omega)]; simp) (by omega)
  rw [ho]
  rfl
/-! ### the moved system's bounds -/
theorem mv_track {i : Nat} : (mvS by_ s).Tracks[i]? = (s.Tracks[i]?).map (mvT by_) := by simp [mvS]
theorem mv_has (r : Ref) : vHas (mvS by_ s) r = vHas s r := by
  unfold vHas
  rw [mv_track]
  cases s.Tracks[r.Log.toNat]? with
  | none => rfl
  | some t => simp [mvT]
theorem mv_nd {r : Ref} : Nd (mvS by_ s) r ↔ Nd s r := by unfold Nd; rw [mv_has]
theorem mv_times {t : Track} {j : Nat} (hj : j < t.Times.length) : (mvT by_ t).Times.getD j 0 = t.Times.getD j 0 + by_ := by
  rw [getD_at hj, getD_at (by simp [mvT]; exact hj)]
  simp [mvT]
theorem mv_jmp (t : Track) (a b : Int) : jmp (mvT by_ t).Clock.Jumps (a + by_) (b + by_) = jmp t.Clock.Jumps a b := by
  unfold jmp mvT
  simp only [List.any_map]
  congr 1
  funext x
  simp only [Function.comp]
  congr 1 <;> rw [decide_eq_decide] <;> omega
open Classical in
noncomputable def phi (by_ : Int) (r : Ref) : Int := if r = beg then 0 else by_
theorem phi_beg : phi by_ beg = 0 := by unfold phi; rw [if_pos rfl]
theorem phi_li (i j : Nat) : phi by_ (li i j) = by_ := by
  unfold phi
  rw [if_neg]
  intro h
  have : (i : Int) = -1 := congrArg Ref.Log h
  omega
theorem phi_has {r : Ref} (h : vHas s r = true) : phi by_ r = by_ := by
  obtain ⟨i, t, j, rfl, _⟩ := li_has h
  exact phi_li i j
theorem mv_fwd (h : vCheck s = 0) {b : Bound} (hb : InB (mvS by_ s) b) : ∃ b0, InB s b0 ∧ b0.From = b.From ∧ b0.To = b.To ∧ b0.Most = b.Most - phi by_ b.To + phi by_ b.From := by
  have htr : ∀ {i : Nat} {t : Track}, (mvS by_ s).Tracks[i]? = some t → ∃ t0, s.Tracks[i]? = some t0 ∧ t = mvT by_ t0 := fun {i t} ht => by
    rw [mv_track] at ht
    cases h0 : s.Tracks[i]? with
    | none => rw [h0] at ht; cases ht
    | some t0 => rw [h0] at ht; cases ht; exact ⟨t0, rfl, rfl⟩
  have htie : ∀ {j : Nat} {t : Tie}, (mvS by_ s).Ties[j]? = some t → ∃ j', s.Ties[j']? = some t := fun {j t} ht => by
    have : t ∈ s.Ties := List.mem_reverse.1 (List.mem_of_getElem? ht)
    obtain ⟨j', hj', rfl⟩ := List.getElem_of_mem this
    exact ⟨j', List.getElem?_eq_getElem hj'⟩
  have hphi : ∀ {j : Nat} {t : Tie}, s.Ties[j]? = some t → phi by_ t.A = by_ ∧ phi by_ t.B = by_ := fun {j t} ht => by
    have := (check_ok h).2.2.2.2.2 t (List.mem_of_getElem? ht)
    unfold vTie at this
    simp only [Bool.and_eq_true] at this
    exact ⟨phi_has this.1, phi_has this.2.1⟩
  have len : ∀ t0 : Track, (mvT by_ t0).Times.length = t0.Times.length := fun t0 => by simp [mvT]
  have hgap : ∀ (t0 : Track) (j : Nat), j + 1 < t0.Times.length → gap (mvT by_ t0) j = gap t0 j := fun t0 j hj => by
    unfold gap; rw [mv_times hj, mv_times (by omega)]; omega
  have hwid : ∀ (t0 : Track) (j : Nat), j + 1 < t0.Times.length → wid (mvT by_ t0) j = wid t0 j := fun t0 j hj => by
    unfold wid; rw [hgap t0 j hj]; rfl
  cases hb with
  | up ht hj =>
    obtain ⟨t0, h0, rfl⟩ := htr ht
    rw [len] at hj
    exact ⟨_, .up h0 hj, rfl, rfl, by simp only; rw [mv_times hj, phi_li, phi_beg]; simp only [mvT]; omega⟩
  | down ht hj =>
    obtain ⟨t0, h0, rfl⟩ := htr ht
    rw [len] at hj
    exact ⟨_, .down h0 hj, rfl, rfl, by simp only; rw [mv_times hj, phi_li, phi_beg]; simp only [mvT]; omega⟩
  | ord ht hj =>
    obtain ⟨t0, h0, rfl⟩ := htr ht
    rw [len] at hj
    exact ⟨_, .ord h0 hj, rfl, rfl, by simp only; rw [phi_li, phi_li]; omega⟩
  | fwd ht hj hn =>
    obtain ⟨t0, h0, rfl⟩ := htr ht
    rw [len] at hj
    rw [mv_times hj, mv_times (by omega), mv_jmp] at hn
    exact ⟨_, .fwd h0 hj hn, rfl, rfl, by simp only; rw [phi_li, phi_li, hgap t0 _ hj, hwid t0 _ hj]; omega⟩
  | bwd ht hj hn =>
    obtain ⟨t0, h0, rfl⟩ := htr ht
    rw [len] at hj
    rw [mv_times hj, mv_times (by omega), mv_jmp] at hn
    exact ⟨_, .bwd h0 hj hn, rfl, rfl, by simp only; rw [phi_li, phi_li, hgap t0 _ hj, hwid t0 _ hj]; omega⟩
  | tab ht =>
    obtain ⟨j', h0⟩ := htie ht
    exact ⟨_, .tab h0, rfl, rfl, by simp only; rw [(hphi h0).1, (hphi h0).2]; simp only [mvS]; omega⟩
  | tba ht =>
    obtain ⟨j', h0⟩ := htie ht
    exact ⟨_, .tba h0, rfl, rfl, by simp only; rw [(hphi h0).1, (hphi h0).2]; simp only [mvS]; omega⟩
theorem mv_mv (s : System) : mvS (-by_) (mvS by_ s) = s := by
  have e : ∀ l : List Int, (l.map (· + by_)).map (· + -by_) = l := fun l => by
    rw [List.map_map]
    conv => rhs; rw [← List.map_id l]
    apply List.map_congr_left
    intro x _
    simp only [Function.comp, id]; omega
  obtain ⟨tr, ti, w⟩ := s
  simp only [mvS, List.reverse_reverse, List.map_map, System.mk.injEq, and_true]
  conv => rhs; rw [← List.map_id tr]
  apply List.map_congr_left
  rintro ⟨⟨a, b, c⟩, d⟩ _
  simp only [Function.comp, id, mvT, e]
theorem walk_phi {l l' : List Bound} {f : Ref → Int} (h : ∀ b, b ∈ l → ∃ b0, b0 ∈ l' ∧ b0.From = b.From ∧ b0.To = b.To ∧ b0.Most = b.Most - f b.To + f b.From) {x y : Ref} {n : Int}
    (hw : Walk Bound.From Bound.To Bound.Most l x y n) : Walk Bound.From Bound.To Bound.Most l' x y (n - f y + f x) := by
  induction hw with
  | nil => have : (0 : Int) - f x + f x = 0 := by omega
           rw [this]; exact .nil _
  | @snoc n e y _ he hs ih =>
    obtain ⟨b0, h1, h2, h3, h4⟩ := h e he
    have := Walk.snoc ih h1 (h2.trans hs)
    rw [h3, h4] at this
    subst hs
    have e2 : n + e.Most - f e.To + f x = n - f e.From + f x + (e.Most - f e.To + f e.From) := by omega
    rw [e2]; exact this
theorem phi_neg (r : Ref) : phi (-by_) r = -phi by_ r := by unfold phi; split <;> rfl
theorem mv_walk (h : vCheck s = 0) (hm : vCheck (mvS by_ s) = 0) {x y : Ref} {n : Int} : WK (mvS by_ s) x y n ↔ WK s x y (n - phi by_ y + phi by_ x) := by
  constructor
  · intro hw
    exact walk_phi (l := bnds (mvS by_ s)) (l' := bnds s) (fun b hb => by
      obtain ⟨b0, h1, h2⟩ := mv_fwd h ((mem_bnds hm).1 hb)
      exact ⟨b0, (mem_bnds h).2 h1, h2⟩) hw
  · intro hw
    have := walk_phi (l := bnds s) (l' := bnds (mvS by_ s)) (f := phi (-by_)) (fun b hb => by
      have hb := (mem_bnds h).1 hb
      rw [← mv_mv (by_ := by_) s] at hb
      obtain ⟨b0, h1, h2⟩ := mv_fwd hm hb
      exact ⟨b0, (mem_bnds hm).2 h1, h2⟩) hw
    rw [phi_neg, phi_neg] at this
    have e : n - phi by_ y + phi by_ x - -phi by_ y + -phi by_ x = n := by omega
    rw [e] at this; exact this
theorem mv_closes (h : vCheck s = 0) (hm : vCheck (mvS by_ s) = 0) : Cls (mvS by_ s) ↔ Cls s := by
  constructor
  · intro hc x n hw
    have : WK (mvS by_ s) x x n := (mv_walk h hm).2 (by have e : n - phi by_ x + phi by_ x = n := by omega
                                                        rw [e]; exact hw)
    exact hc x n this
  · intro hc x n hw
    have := hc x _ ((mv_walk h hm).1 hw)
    omega
theorem mv_dd (h : vCheck s = 0) (hm : vCheck (mvS by_ s) = 0) (hc : Cls s) {x y : Ref} (hx : Nd s x) (hy : Nd s y) : dd (mvS by_ s) x y = dd s x y + phi by_ y - phi by_ x := by
  have d1 := dd_spec h hc hx hy
  refine dd_eq ⟨(mv_walk h hm).2 ?_, fun m hw => ?_⟩
  · have e : dd s x y + phi by_ y - phi by_ x - phi by_ y + phi by_ x = dd s x y := by omega
    rw [e]; exact d1.1
  · have := d1.2 _ ((mv_walk h hm).1 hw)
    omega
theorem mv_ask (h : vCheck s = 0) (hm : vCheck (mvS by_ s) = 0) (l : List Ref) : ask (mvS by_ s) l = ask s l := by
  unfold ask
  rw [h, hm]
  have e : l.all (vHas (mvS by_ s)) = l.all (vHas s) := by congr 1; funext r; exact mv_has r
  rw [e]
  by_cases hc : Cls s
  · rw [if_pos hc, if_pos ((mv_closes h hm).2 hc)]
  · rw [if_neg hc, if_neg (fun hc' => hc ((mv_closes h hm).1 hc'))]
theorem moves_true (hN : 1000000 ≤ N) (hf : FitS N s) (by_ : Int) (a b : Ref) : law03_ClocksMoves N s by_ a b = some true := by
  unfold law03_ClocksMoves
  obtain ⟨fw, hfw⟩ := few_some hf
  rw [awake_at (by omega), hfw]
  simp only [Option.bind_some, check_c hf]
  cases fw with
  | false => rfl
  | true =>
    simp only [Bool.not_true, cond_false]
    by_cases h1 : by_ < -20000
    · simp [h1]
    by_cases h2 : by_ > 20000
    · simp [h1, h2]
    have e1 : decide (by_ < -20000) = false := by simpa using h1
    have e2 : decide (by_ > 20000) = false := by simpa using h2
    rw [e1, e2]
    simp only [cond_false, Option.bind_some]
    by_cases h : vCheck s = 0
    · have e3 : (vCheck s != 0) = false := by simp [h]
      rw [e3, cond_false, moved_eq hN h (by omega) (by omega), Option.bind_some]
      obtain ⟨k1, k2, k3, _⟩ := check_ok h
      have hmf : FitS N (mvS by_ s) := by
        refine ⟨by simp only [mvS, List.length_map]; exact hf.n, fun t ht => ?_, by simp only [mvS, List.length_reverse]; exact hf.e⟩
        simp only [mvS, List.mem_map] at ht
        obtain ⟨t0, h0, rfl⟩ := ht
        have := hf.t t0 h0
        exact ⟨by simp only [mvT, List.length_map]; exact this.j, by simp only [mvT, List.length_map]; exact this.t⟩
      rw [check_c hmf, Option.bind_some]
      by_cases hm : vCheck (mvS by_ s) = 0
      · have e4 : (vCheck (mvS by_ s) != 0) = false := by simp [hm]
        rw [e4, cond_false, Times_c hN hf, Times_c hN hmf]
        simp only [Option.bind_some, Relation_c hN hf, Relation_c hN hmf]
        have hlen : (mvS by_ s).Tracks.length = s.Tracks.length := by simp [mvS]
        have hrel : (vRelation s a b).2 = (vRelation (mvS by_ s) a b).2 ∧ (vRelation s a b).1 = (vRelation (mvS by_ s) a b).1 := by
          by_cases hr : ask s [a, b] = 0
          · have hr' : ask (mvS by_ s) [a, b] = 0 := by rw [mv_ask h hm]; exact hr
            rw [rel_val hr, rel_val hr']
            obtain ⟨_, hh, hc⟩ := ask_zero hr
            have ha := hh a (by simp)
            have hb := hh b (by simp)
            refine ⟨rfl, ?_⟩
            unfold relAt
            rw [mv_dd h hm hc (.inr hb) (.inr ha), mv_dd h hm hc (.inr ha) (.inr hb), phi_has ha, phi_has hb]
            simp only [Span.mk.injEq]
            omega
          · have hr' : ask (mvS by_ s) [a, b] ≠ 0 := by rw [mv_ask h hm]; exact hr
            unfold vRelation
            rw [if_pos hr, if_pos hr', mv_ask h hm]
            exact ⟨rfl, rfl⟩
        have hcode : (vTimes s).2 = (vTimes (mvS by_ s)).2 ∧ (vTimes s).1.length = (vTimes (mvS by_ s)).1.length := by
          unfold vTimes
          rw [if_neg (show ¬ (vCheck s ≠ 0) by omega), if_neg (show ¬ (vCheck (mvS by_ s) ≠ 0) by omega)]
          by_cases hc : Cls s
          · rw [if_pos hc, if_pos ((mv_closes h hm).2 hc)]
            exact ⟨rfl, by simp [eachL, hlen]⟩
          · rw [if_neg hc, if_neg (fun hc' => hc ((mv_closes h hm).1 hc'))]
            exact ⟨rfl, rfl⟩
        have e5 : ((vTimes s).2 != (vTimes (mvS by_ s)).2 || ((vTimes s).1.length : Int) != ((vTimes (mvS by_ s)).1.length : Int)) = false := by rw [hcode.1, hcode.2]; simp
        rw [e5, cond_false]
        have hl64 : (vTimes s).1.length ≤ 64 := by
          unfold vTimes
          rw [if_neg (by omega)]
          by_cases hc : Cls s
          · rw [if_pos hc]; simp only [eachL, List.length_map, List.length_range]; exact k1
          · rw [if_neg hc]; simp
        rw [iter_check' (n := (vTimes s).1.length) (fun _ => true) false (fun i hi => by
          unfold law03_ClocksMoves_L0
          rw [lt_t hi, cond_true]
          have hc : Cls s := Classical.byContradiction fun hc => by
            unfold vTimes at hi
            rw [if_neg (by omega), if_neg hc] at hi
            simp at hi
          have hv1 : vTimes s = (eachL s (spanAt s), 0) := by unfold vTimes; rw [if_neg (by omega), if_pos hc]
          have hv2 : vTimes (mvS by_ s) = (eachL (mvS by_ s) (spanAt (mvS by_ s)), 0) := by unfold vTimes; rw [if_neg (by omega), if_pos ((mv_closes h hm).2 hc)]
          rw [hv1] at hi ⊢
          rw [hv2]
          have hi' : i < s.Tracks.length := by simpa [eachL] using hi
          have ht := List.getElem?_eq_getElem hi'
          have hvt := track_at h ht
          have htl := (track_facts hvt).2.2
          have hrow1 : idx (eachL s (spanAt s)) (i : Int) = some ((List.range s.Tracks[i].Times.length).map fun j => spanAt s (li i j)) := by
            rw [idx_nat']; unfold eachL
            simp only [List.getElem?_map, List.getElem?_range hi', Option.map_some, ht]
          have hrow2 : idx (eachL (mvS by_ s) (spanAt (mvS by_ s))) (i : Int) = some ((List.range s.Tracks[i].Times.length).map fun j => spanAt (mvS by_ s) (li i j)) := by
            rw [idx_nat']; unfold eachL
            simp only [List.getElem?_map, List.getElem?_range (show i < (mvS by_ s).Tracks.length by rw [hlen]; exact hi'), Option.map_some, mv_track, ht]
            simp [mvT]
          rw [iter_check' (n := s.Tracks[i].Times.length) (fun _ => true) false (fun j hj => by
            unfold law03_ClocksMoves_L1
            simp only [hrow1, hrow2, Option.bind_some, List.length_map, List.length_range, lt_t hj, cond_true]
            have e6 : decide ((j : Int) ≥ (s.Tracks[i].Times.length : Int)) = false := by simp; omega
            rw [e6, cond_false]
            have hj1 : idx ((List.range s.Tracks[i].Times.length).map fun j => spanAt s (li i j)) (j : Int) = some (spanAt s (li i j)) := by
              rw [idx_nat']; simp only [List.getElem?_map, List.getElem?_range hj, Option.map_some]
            have hj2 : idx ((List.range s.Tracks[i].Times.length).map fun j => spanAt (mvS by_ s) (li i j)) (j : Int) = some (spanAt (mvS by_ s) (li i j)) := by
              rw [idx_nat']; simp only [List.getElem?_map, List.getElem?_range hj, Option.map_some]
            simp only [hj1, hj2, Option.bind_some]
            have nd : Nd s (li i j) := .inr (has_li ht hj)
            have d1 := mv_dd h hm hc nd (nd_beg s)
            have d2 := mv_dd h hm hc (nd_beg s) nd
            rw [phi_li, phi_beg] at d1 d2
            have i1 := dd_in h hc nd (nd_beg s)
            have i2 := dd_in h hc (nd_beg s) nd
            have e7 : ((spanAt (mvS by_ s) (li i j)).Lo == W64 ((spanAt s (li i j)).Lo + by_)) = true := by
              unfold spanAt; simp only; rw [W64_id (by omega) (by omega), d1]; simp; omega
            have e8 : ((spanAt (mvS by_ s) (li i j)).Hi == W64 ((spanAt s (li i j)).Hi + by_)) = true := by
              unfold spanAt; simp only; rw [W64_id (by omega) (by omega), d2]; simp
            rw [e7, e8, W64_succ (by omega)]
            rfl) (by unfold law03_ClocksMoves_L1; simp only [hrow1, Option.bind_some, List.length_map, List.length_range, lt_f, cond_false]) (by omega)]
          rw [allB_of (fun _ _ => rfl), W64_succ (by omega)]
          rfl) (by unfold law03_ClocksMoves_L0; rw [lt_f]; rfl) (by omega)]
        rw [allB_of (fun _ _ => rfl), cond_true, hrel.1, hrel.2]
        simp
      · have e4 : (vCheck (mvS by_ s) != 0) = true := by simpa using hm
        rw [e4]; rfl
    · have e3 : (vCheck s != 0) = true := by simpa using h
      rw [e3]; rfl
end
theorem moves_row (s : System) (n : Int) (a b : Ref) (q : qSystem s) (_ : rI n) (_ : qRef a) (_ : qRef b) : law03_ClocksMoves NN s n a b = some true := moves_true (by decide) (fitS q) n a b
end Go.Proofs.Ythbcnabeabcmlaa
namespace Go.Proofs.Ythbcnabeabcmlaa
open Go.ChangeShapes Go.WideShapes Go.ChangeAt Go.RowKit
set_option maxRecDepth 100000 in
theorem lifted_clocksMoves (os : Os) (started : os.Started) (H : Type) (enc : TypeId × Value → H) :
    ReturnsInHanded {} Try.checked os 3 .any (Rows.clocksMovesSpec.pre6 enc Try.prog Try.f3 Rows.clocksMovesRow.domain false) (Rows.clocksMovesSpec.post enc Try.prog Try.f3 false true false false) := by
  refine returnsInHanded_of_change (C := Try.checked) (by kernel_rfl) started (by kernel_rfl) Try.func3
    (ChangeSpec.witness6 (enc := enc) (C := Try.checked) false ⟨#[], #[.agg #[.slice none 0 0, .slice none 0 0, .int .i64 0], .int .i64 0, .agg #[.int .i64 0, .int .i64 0], .agg #[.int .i64 0, .int .i64 0]], []⟩ 8 (by kernel_rfl) (by kernel_rfl) (by kernel_rfl) (by kernel_rfl)) ?_
  intro W base args ds gs before hval0 hW hcnd _
  have hval : ∀ (j : Nat) t v, Try.f3.params[j]? = some t → args[j]? = some v → Value.okWide Try.prog W .any base t v := hval0
  have hW' := hW
  obtain ⟨p, q, hA0, hV, rfl, hfz, hnd⟩ := hW
  have hA : DataW.TrodAll enc Try.prog W 0 (fun _ => true) true Try.f3.params.toList args.toList ds p := hA0
  rw [Try.params3] at hA hval
  obtain ⟨v0, vs0, d0, ds0, p0, q0, hargs, rfl, rfl, h0, r0⟩ := trodAll_cons hA
  obtain ⟨v1, vs1, d1, ds1, p1, q1, rfl, rfl, rfl, h1, r1⟩ := trodAll_cons r0
  obtain ⟨v2, vs2, d2, ds2, p2, q2, rfl, rfl, rfl, h2, r2⟩ := trodAll_cons r1
  obtain ⟨v3, vs3, d3, ds3, p3, q3, rfl, rfl, rfl, h3, r3⟩ := trodAll_cons r2
  obtain ⟨rfl, rfl, rfl⟩ := trodAll_nil r3
  obtain rfl : args = #[v0, v1, v2, v3] := by cases args; simp_all
  obtain ⟨cs0, x0, rfl, R0, Q0⟩ := Opens.agg opens_System_25 (by kernel_rfl) (hval 0 25 v0 rfl rfl) h0
  obtain ⟨a0_0, n0_0, a0_1, n0_1, e0, hb0_0, hs0_0, hb0_1, hs0_1⟩ := R0
  obtain rfl : cs0 = #[.slice a0_0 x0.Tracks.length n0_0, .slice a0_1 x0.Ties.length n0_1, .int .i64 x0.Window] := Array.ext' (by exact e0)
  obtain ⟨x1, R1, Q1⟩ := Opens.one (opens_int (t := 3) (by kernel_rfl) (by kernel_rfl) : Opens Try.prog 3 tInt rI) (by kernel_rfl) (hval 1 3 v1 rfl rfl) h1
  have e1 : [v1] = [.int .i64 x1] := R1
  cases e1
  obtain ⟨cs2, x2, rfl, R2, Q2⟩ := Opens.agg opens_Ref_27 (by kernel_rfl) (hval 2 27 v2 rfl rfl) h2
  have e2 := R2
  obtain rfl : cs2 = #[.int .i64 x2.Log, .int .i64 x2.Line] := Array.ext' (by exact e2)
  obtain ⟨cs3, x3, rfl, R3, Q3⟩ := Opens.agg opens_Ref_27 (by kernel_rfl) (hval 3 27 v3 rfl rfl) h3
  have e3 := R3
  obtain rfl : cs3 = #[.int .i64 x3.Log, .int .i64 x3.Line] := Array.ext' (by exact e3)
  refine (c_law03_ClocksMoves 9223372036854775808 W (memOf W) (fun _ _ h => h) x0 a0_0 n0_0 hb0_0 hs0_0 a0_1 n0_1 hb0_1 hs0_1 x1 x2 x3 true (moves_row x0 x1 x2 x3 Q0 Q1 Q2 Q3)).mono fun e W' he => ?_
  obtain ⟨r, F', rfl, hs, rfl⟩ := he
  refine ⟨_, rfl, post_grown (by kernel_rfl) (tb := 4) ?_ rfl hW' (by kernel_rfl) (by kernel_rfl) ?_ hs⟩
  · intro t ht
    rw [Try.params3] at ht
    simp only [List.mem_cons, List.not_mem_nil, or_false] at ht
    rcases ht with rfl | rfl | rfl | rfl <;> exact ⟨by kernel_rfl, by decide +kernel⟩
  · intro _; rfl
theorem clocksMoves_proved : Rows.ClocksMovesSaid :=
  OpenClaim.holds_of_wide 3 Try.f3 rfl rfl rfl rfl rfl rfl rfl ⟨rfl, rfl, rfl, rfl, rfl⟩ rfl rfl rfl rfl rfl (by kernel_rfl) Try.func3 (by kernel_rfl)
    (of_decide_eq_true (by kernel_rfl)) (by unfold Func.isWrapper; first | (rw [if_pos (by decide +kernel)]; kernel_rfl) | (rw [if_neg (by decide +kernel)]; exact ⟨rfl, rfl⟩))
    (fun os started H enc _ => lifted_clocksMoves os started H enc)
end Go.Proofs.Ythbcnabeabcmlaa
