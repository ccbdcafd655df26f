/- ClocksAccepts: for every input the law returns true, and each argument reads afterwards as it read before. No condition. -/
import Derived.Test.YthbcnabeabcmlaaA5
set_option linter.unusedVariables false
set_option linter.unusedSimpArgs false
set_option linter.unusedSectionVars false
namespace Go.Proofs.Ythbcnabeabcmlaa
open Go.Proofs
def law03_few_L0 (N : Nat) (x0 : System) : (Int × Int) → Option (Flow Bool (Int × Int)) := fun s7 =>
 (bif (decide (s7.2 < (x0.Tracks.length : Int))) then ((idx x0.Tracks s7.2).bind fun x30 => ((idx x0.Tracks s7.2).bind fun x44 => (bif (decide ((x44.Clock.Jumps.length : Int) > 40)) then some (.ret false) else some (.next ((W64 (s7.1 + (x30.Times.length : Int))), (W64 (s7.2 + 1))))))) else some (.done (s7.1, s7.2)))
def law03_few (N : Nat) (x0 : System) : Option Bool :=
 ((iter (law03_few_L0 N x0) N (0, 0)).bind fun o => o.k (fun r => some r) (fun s15 => some ((decide (s15.1 ≤ 40)) && ((decide ((x0.Tracks.length : Int) ≤ 100)) && ((decide ((x0.Ties.length : Int) ≤ 30)) || ((decide ((x0.Ties.length : Int) > 400)) && (decide ((x0.Ties.length : Int) ≤ 500))))))))
theorem co_law03_few : CallOk Try.prog 16 := fun _ _ => by kernel_rfl
set_option maxHeartbeats 4000000 in
set_option maxRecDepth 100000 in
theorem c_law03_few (N : Nat) (w0 : World) (F0 : Mem) (hF : ∀ b o, F0 b = some o → w0.heap[b]? = some o) (x0 : System) (a0_0 : Option Addr) (n0_0 : Nat) (hb0_0 : LC x0.Tracks.length n0_0) (hs0_0 : SlA tTrack F0 a0_0 x0.Tracks) (a0_1 : Option Addr) (n0_1 : Nat) (hb0_1 : LC x0.Ties.length n0_1) (hs0_1 : SlA tTie F0 a0_1 x0.Ties) (r : Bool) (h : law03_few N x0 = some r) :
  Calls Try.prog 16 ([(.agg (kSystem x0 a0_0 n0_0 a0_1 n0_1))] : List Value).toArray w0 (FRet w0 F0 fun F' v => v = (.bool r)) := by
 have hs0 := HS.start hF
 refine calls_of (n := 56) (c := bodyOf Try.f16) Try.func16 (by kernel_rfl) (by kernel_rfl) (by kernel_rfl) ?_
 refine Sq (Rg [0, 1] ?_)
 refine Bx 1 0 0 25 (kSystem x0 a0_0 n0_0 a0_1 n0_1) hs0 (fun b1 w2 (hs3 : HS w0 F0 w2 F0 [(sb b1 (kSystem x0 a0_0 n0_0 a0_1 n0_1) 25)]) => ?_)
 refine V 2 4 (mc (.bool false) (.bool false)) ?_
 refine Nss (Rg [0] ?_)
 refine V 3 3 (mc (vi 0) (vi 0)) ?_
 refine Nss ?_
 refine Sq (Rg [0] ?_)
 refine V 4 3 (mc (vi 0) (vi 0)) ?_
 refine Nt ?_
 obtain ⟨o4, ho5, h6⟩ := bind_some h
 refine CWP.cut (fun f w => ∃ (s15 : (Int × Int)) (F2 : Mem), o4 = .done s15 ∧ HS w0 F0 w F2 [(sb b1 (kSystem x0 a0_0 n0_0 a0_1 n0_1) 25)] ∧ Mem.le F0 F2 ∧ f.d = [] ∧ f 1 = (.pointer (some ⟨b1, 0, none⟩)) ∧ f 3 = (vi s15.1)) ?_ ?_
 ·refine Bk ?_
  refine CWP.loop (by kernel_rfl) (fun m f w => ∃ (s7 : (Int × Int)) (F1 : Mem), iter (law03_few_L0 N x0) m s7 = some o4 ∧ HS w0 F0 w F1 [(sb b1 (kSystem x0 a0_0 n0_0 a0_1 n0_1) 25)] ∧ Mem.le F0 F1 ∧ f.d = [] ∧ f 1 = (.pointer (some ⟨b1, 0, none⟩)) ∧ f 3 = (vi s7.1) ∧ f 4 = (vi s7.2)) N ⟨(0, 0), F0, ho5, hs3, (Mem.le.refl _), rfl, rfl, rfl, rfl⟩ ?_
  rintro m22 f w8 ⟨s7, F1, hit23, hs9, le10, e11, e12, e13, e14⟩
  obtain ⟨m24, fl25, rfl, hb26, hnx27⟩ := iter_step hit23
  refine Sq ?_
  refine Sq (Rg [0, 1, 2, 3, 4] ?_)
  refine V 5 3 (mv 4 (vi s7.2) e14) ?_
  refine V 6 0 (fa 25 1 0 0 1 b1 0 0 e12) ?_
  refine V 7 22 (ld 22 6 b1 0 false 1 (.slice a0_0 x0.Tracks.length n0_0) (hs9.ownAt (k := 0) rfl)) ?_
  refine V 8 3 (ln 7 22 a0_0 x0.Tracks.length n0_0 54 4 64) ?_
  refine V 9 4 (run_lss (t := 3) (t' := 3) (x := (.tmp 5)) (y := (.tmp 8)) (k := .i64) (a := s7.2) (b := (x0.Tracks.length : Int)) rfl rfl) ?_
  refine Nt ?_
  refine CWP.cond (t := (decide (s7.2 < (x0.Tracks.length : Int)))) (by kernel_rfl) rfl (fun hb28 => ?_) (fun hb28 => ?_)
  ·have h29 := cond_t hb26 hb28
   refine Sc ?_
   refine thenQ_nrm ?_
   refine Sq ?_
   refine Bk ?_
   refine Sq (Rg [0, 1, 2, 3, 4, 5, 6, 7, 8, 9] ?_)
   refine V 12 3 (mv 3 (vi s7.1) e13) ?_
   refine V 13 0 (fa 25 1 0 0 1 b1 0 0 e12) ?_
   refine V 14 22 (ld 22 13 b1 0 false 1 (.slice a0_0 x0.Tracks.length n0_0) (hs9.ownAt (k := 0) rfl)) ?_
   refine V 15 3 (mv 4 (vi s7.2) e14) ?_
   obtain ⟨x30, hx31, h33⟩ := bind_some h29
   obtain ⟨hi32, hx31'⟩ := idx_spec hx31
   obtain ⟨b34, o35, C36, E37, fz38, rfl, hF40, hE41⟩ := SlA.open (SlA.mono hs0_0 le10) hx31'
   obtain ⟨ae42_2, ne42_2, ae42_3, ne42_3, hc43, hbe42_2, hse42_2, hbe42_3, hse42_3⟩ := hE41 _ _ hx31'
   refine V 16 0 (ix 22 14 15 b34 o35 54 4 64 hi32) ?_
   refine V 17 0 (fa 54 16 1 3 1 b34 (o35 + (s7.2 : Int).toNat * 4) ((o35 + (s7.2 : Int).toNat * 4) + 3)) ?_
   refine V 18 50 (lx 50 17 3 4 false 1 (.slice ae42_3 x30.Times.length ne42_3) (hs9.pers _ _ hF40) hc43) ?_
   refine V 19 3 (ln 18 50 ae42_3 x30.Times.length ne42_3 3 1 8) ?_
   refine V 20 3 (run_add (t := 3) (t' := 3) (x := (.tmp 12)) (y := (.tmp 19)) (k := .i64) (a := s7.1) (b := (x30.Times.length : Int)) rfl rfl) ?_
   refine V 3 3 (ma 20 (vi (W64 (s7.1 + (x30.Times.length : Int))))) ?_
   refine Nss (Rg [0, 1, 2, 3, 4, 5, 6, 7, 8] ?_)
   refine V 21 0 (fa 25 1 0 0 1 b1 0 0 e12) ?_
   refine V 22 22 (ld 22 21 b1 0 false 1 (.slice (some ⟨b34, o35, none⟩) x0.Tracks.length n0_0) (hs9.ownAt (k := 0) rfl)) ?_
   refine V 23 3 (mv 4 (vi s7.2) e14) ?_
   obtain ⟨x44, hx45, h47⟩ := bind_some h33
   obtain ⟨hi46, hx45'⟩ := idx_spec hx45
   obtain ⟨ae48_2, ne48_2, ae48_3, ne48_3, hc49, hbe48_2, hse48_2, hbe48_3, hse48_3⟩ := hE41 _ _ hx45'
   refine V 24 0 (ix 22 22 23 b34 o35 54 4 64 hi46) ?_
   refine V 25 0 (fa 54 24 0 0 3 b34 (o35 + (s7.2 : Int).toNat * 4) (o35 + (s7.2 : Int).toNat * 4)) ?_
   refine V 26 0 (fa 52 25 2 2 1 b34 (o35 + (s7.2 : Int).toNat * 4) ((o35 + (s7.2 : Int).toNat * 4) + 2)) ?_
   refine V 27 50 (lx 50 26 2 4 false 1 (.slice ae48_2 x44.Clock.Jumps.length ne48_2) (hs9.pers _ _ hF40) hc49) ?_
   refine V 28 3 (ln 27 50 ae48_2 x44.Clock.Jumps.length ne48_2 3 1 8) ?_
   refine V 29 4 (run_gtr (t := 3) (t' := 3) (x := (.tmp 28)) (y := (.const (vi 40))) (k := .i64) (a := (x44.Clock.Jumps.length : Int)) (b := 40) rfl rfl) ?_
   refine Nt ?_
   refine CWP.cond (t := (decide ((x44.Clock.Jumps.length : Int) > 40))) (by kernel_rfl) rfl (fun hb50 => ?_) (fun hb50 => ?_)
   ·have h51 := cond_t h47 hb50
    refine Sq (Rg [0] ?_)
    refine V 2 4 (mc (.bool false) (.bool false)) ?_
    refine Nt ?_
    refine CWP.ret (by kernel_rfl) ?_
    refine blockQ_ret ?_
    refine thenQ_ret ?_
    refine thenQ_ret ?_
    refine blockQ_ret ?_
    have hret := iter_ret h51 hnx27
    subst hret
    refine .inr ?_
    refine thenQ_ret ?_
    have hfin := some_inj h6
    subst hfin
    exact ⟨e11, (.bool false), res_of (l := [.tmp 2]) (by kernel_rfl) (vs := [(.bool false)]) ⟨rfl, trivial⟩, (.bool false), F1, rfl, hs9.clear, rfl⟩
   ·have h52 := cond_f h47 hb50
    refine Sc ?_
    refine blockQ_nrm ?_
    refine thenQ_nrm ?_
    refine Rg [0, 1, 2] ?_
    refine V 10 3 (mv 4 (vi s7.2) e14) ?_
    refine V 11 3 (run_add (t := 3) (t' := 3) (x := (.tmp 10)) (y := (.const (vi 1))) (k := .i64) (a := s7.2) (b := 1) rfl rfl) ?_
    refine V 4 3 (ma 11 (vi (W64 (s7.2 + 1)))) ?_
    refine RWP.nil ?_
    have hn53 := iter_next h52 hnx27
    exact ⟨m24, Nat.lt_succ_self _, ((W64 (s7.1 + (x30.Times.length : Int))), (W64 (s7.2 + 1))), F1, hn53, hs9, le10, e11, e12, rfl, rfl⟩
  ·have h54 := cond_f hb26 hb28
   refine CWP.exit (by kernel_rfl) ?_
   refine thenQ_ex ?_
   refine thenQ_ex ?_
   refine blockQ_hit rfl ?_
   have ho55 := iter_done h54 hnx27
   exact .inl ⟨rfl, (s7.1, s7.2), F1, ho55, hs9, le10, e11, e12, e13⟩
 ·rintro f w16 ⟨s15, F2, rfl, hs17, le18, e19, e20, e21⟩
  have h56 := k_done h6
  refine thenQ_nrm ?_
  refine Sq (Rg [0, 1, 2, 3, 4, 5, 6, 7, 8, 9, 10, 11, 12, 13, 14, 15, 16, 17, 18, 19, 20, 21, 22, 23, 24, 25, 26] ?_)
  refine RWP.cut (fun f w => ∃ (F3 : Mem), HS w0 F0 w F3 [] ∧ Mem.le F2 F3 ∧ f.d = [] ∧ f 2 = (.bool ((decide (s15.1 ≤ 40)) && ((decide ((x0.Tracks.length : Int) ≤ 100)) && ((decide ((x0.Ties.length : Int) ≤ 30)) || ((decide ((x0.Ties.length : Int) > 400)) && (decide ((x0.Ties.length : Int) ≤ 500)))))))) ?_ ?_
  ·refine V 30 3 (mv 3 (vi s15.1) e21) ?_
   refine V 31 4 (run_leq (t := 3) (t' := 3) (x := (.tmp 30)) (y := (.const (vi 40))) (k := .i64) (a := s15.1) (b := 40) rfl rfl) ?_
   refine V 32 4 (mv 31 (.bool (decide (s15.1 ≤ 40)))) ?_
   refine RWP.split (decide (s15.1 ≤ 40)) (fun hb62 => ?_) (fun hb62 => ?_)
   ·refine Vg 33 0 2 true 32 hb62 (fa 25 1 0 0 1 b1 0 0 e20) ?_
    refine Vg 34 22 2 true 32 hb62 (ld 22 33 b1 0 false 1 (.slice a0_0 x0.Tracks.length n0_0) (hs17.ownAt (k := 0) rfl)) ?_
    refine Vg 35 3 2 true 32 hb62 (ln 34 22 a0_0 x0.Tracks.length n0_0 54 4 64) ?_
    refine Vg 36 4 2 true 32 hb62 (run_leq (t := 3) (t' := 3) (x := (.tmp 35)) (y := (.const (vi 100))) (k := .i64) (a := (x0.Tracks.length : Int)) (b := 100) rfl rfl) ?_
    refine V 37 4 (p1 32 (.tmp 36) (.const (.bool false)) (.bool (decide ((x0.Tracks.length : Int) ≤ 100))) hb62) ?_
    refine V 38 4 (mv 37 (.bool (decide ((x0.Tracks.length : Int) ≤ 100)))) ?_
    refine RWP.split (decide ((x0.Tracks.length : Int) ≤ 100)) (fun hb63 => ?_) (fun hb63 => ?_)
    ·refine Vg 39 0 8 true 38 hb63 (fa 25 1 1 1 1 b1 0 1 e20) ?_
     refine Vg 40 23 8 true 38 hb63 (ld 23 39 b1 1 false 1 (.slice a0_1 x0.Ties.length n0_1) (hs17.ownAt (k := 0) rfl)) ?_
     refine Vg 41 3 8 true 38 hb63 (ln 40 23 a0_1 x0.Ties.length n0_1 46 4 32) ?_
     refine Vg 42 4 8 true 38 hb63 (run_leq (t := 3) (t' := 3) (x := (.tmp 41)) (y := (.const (vi 30))) (k := .i64) (a := (x0.Ties.length : Int)) (b := 30) rfl rfl) ?_
     refine Vg 43 4 8 true 38 hb63 (mv 42 (.bool (decide ((x0.Ties.length : Int) ≤ 30)))) ?_
     refine RWP.split (decide ((x0.Ties.length : Int) ≤ 30)) (fun hb64 => ?_) (fun hb64 => ?_)
     ·refine Sk [44, 45, 46, 47, 48] 13 false 43 hb64 ?_
      refine Su [49, 50, 51, 52] 18 true 48 ?_
      refine Sk [53] 13 false 43 hb64 ?_
      refine Vg 54 4 8 true 38 hb63 (p1 43 (.const (.bool true)) (.tmp 53) (.bool true) hb64) ?_
      refine V 55 4 (p1 38 (.tmp 54) (.const (.bool false)) (.bool true) hb63) ?_
      refine V 2 4 (ma 55 (.bool true)) ?_
      have hs65 : HS w0 F0 w16 F2 [] := hs17.drop 0
      exact RWP.nil ⟨rfl, F2, hs65, (Mem.le.refl _), e19, (congrArg Value.bool (and_t hb62 (and_t hb63 (or_t hb64 (rfl)))))⟩
     ·refine Vg 44 0 13 false 43 hb64 (fa 25 1 1 1 1 b1 0 1 e20) ?_
      refine Vg 45 23 13 false 43 hb64 (ld 23 44 b1 1 false 1 (.slice a0_1 x0.Ties.length n0_1) (hs17.ownAt (k := 0) rfl)) ?_
      refine Vg 46 3 13 false 43 hb64 (ln 45 23 a0_1 x0.Ties.length n0_1 46 4 32) ?_
      refine Vg 47 4 13 false 43 hb64 (run_gtr (t := 3) (t' := 3) (x := (.tmp 46)) (y := (.const (vi 400))) (k := .i64) (a := (x0.Ties.length : Int)) (b := 400) rfl rfl) ?_
      refine Vg 48 4 13 false 43 hb64 (mv 47 (.bool (decide ((x0.Ties.length : Int) > 400)))) ?_
      refine RWP.split (decide ((x0.Ties.length : Int) > 400)) (fun hb66 => ?_) (fun hb66 => ?_)
      ·refine Vg 49 0 18 true 48 hb66 (fa 25 1 1 1 1 b1 0 1 e20) ?_
       refine Vg 50 23 18 true 48 hb66 (ld 23 49 b1 1 false 1 (.slice a0_1 x0.Ties.length n0_1) (hs17.ownAt (k := 0) rfl)) ?_
       refine Vg 51 3 18 true 48 hb66 (ln 50 23 a0_1 x0.Ties.length n0_1 46 4 32) ?_
       refine Vg 52 4 18 true 48 hb66 (run_leq (t := 3) (t' := 3) (x := (.tmp 51)) (y := (.const (vi 500))) (k := .i64) (a := (x0.Ties.length : Int)) (b := 500) rfl rfl) ?_
       refine Vg 53 4 13 false 43 hb64 (p1 48 (.tmp 52) (.const (.bool false)) (.bool (decide ((x0.Ties.length : Int) ≤ 500))) hb66) ?_
       refine Vg 54 4 8 true 38 hb63 (p0 43 (.const (.bool true)) (.tmp 53) (.bool (decide ((x0.Ties.length : Int) ≤ 500))) hb64) ?_
       refine V 55 4 (p1 38 (.tmp 54) (.const (.bool false)) (.bool (decide ((x0.Ties.length : Int) ≤ 500))) hb63) ?_
       refine V 2 4 (ma 55 (.bool (decide ((x0.Ties.length : Int) ≤ 500)))) ?_
       have hs67 : HS w0 F0 w16 F2 [] := hs17.drop 0
       exact RWP.nil ⟨rfl, F2, hs67, (Mem.le.refl _), e19, (congrArg Value.bool (and_t hb62 (and_t hb63 (or_f hb64 (and_t hb66 (rfl))))))⟩
      ·refine Sk [49, 50, 51, 52] 18 true 48 hb66 ?_
       refine Vg 53 4 13 false 43 hb64 (p0 48 (.tmp 52) (.const (.bool false)) (.bool false) hb66) ?_
       refine Vg 54 4 8 true 38 hb63 (p0 43 (.const (.bool true)) (.tmp 53) (.bool false) hb64) ?_
       refine V 55 4 (p1 38 (.tmp 54) (.const (.bool false)) (.bool false) hb63) ?_
       refine V 2 4 (ma 55 (.bool false)) ?_
       have hs68 : HS w0 F0 w16 F2 [] := hs17.drop 0
       exact RWP.nil ⟨rfl, F2, hs68, (Mem.le.refl _), e19, (congrArg Value.bool (and_t hb62 (and_t hb63 (or_f hb64 (and_f hb66 (rfl))))))⟩
    ·refine Sk [39, 40, 41, 42, 43] 8 true 38 hb63 ?_
     refine Su [44, 45, 46, 47, 48] 13 false 43 ?_
     refine Su [49, 50, 51, 52] 18 true 48 ?_
     refine Su [53] 13 false 43 ?_
     refine Sk [54] 8 true 38 hb63 ?_
     refine V 55 4 (p0 38 (.tmp 54) (.const (.bool false)) (.bool false) hb63) ?_
     refine V 2 4 (ma 55 (.bool false)) ?_
     have hs69 : HS w0 F0 w16 F2 [] := hs17.drop 0
     exact RWP.nil ⟨rfl, F2, hs69, (Mem.le.refl _), e19, (congrArg Value.bool (and_t hb62 (and_f hb63 (rfl))))⟩
   ·refine Sk [33, 34, 35, 36] 2 true 32 hb62 ?_
    refine V 37 4 (p0 32 (.tmp 36) (.const (.bool false)) (.bool false) hb62) ?_
    refine V 38 4 (mv 37 (.bool false)) ?_
    refine Sk [39, 40, 41, 42, 43] 8 true 38 rfl ?_
    refine Su [44, 45, 46, 47, 48] 13 false 43 ?_
    refine Su [49, 50, 51, 52] 18 true 48 ?_
    refine Su [53] 13 false 43 ?_
    refine Sk [54] 8 true 38 rfl ?_
    refine V 55 4 (p0 38 (.tmp 54) (.const (.bool false)) (.bool false) rfl) ?_
    refine V 2 4 (ma 55 (.bool false)) ?_
    have hs70 : HS w0 F0 w16 F2 [] := hs17.drop 0
    exact RWP.nil ⟨rfl, F2, hs70, (Mem.le.refl _), e19, (congrArg Value.bool (and_f hb62 (rfl)))⟩
  ·rintro f w57 ⟨F3, hs58, le59, e60, e61⟩
   refine thenQ_nrm ?_
   refine CWP.ret (by kernel_rfl) ?_
   have hfin := some_inj h56
   subst hfin
   exact ⟨e60, (.bool ((decide (s15.1 ≤ 40)) && ((decide ((x0.Tracks.length : Int) ≤ 100)) && ((decide ((x0.Ties.length : Int) ≤ 30)) || ((decide ((x0.Ties.length : Int) > 400)) && (decide ((x0.Ties.length : Int) ≤ 500))))))), res_of (l := [.tmp 2]) (by kernel_rfl) (vs := [(.bool ((decide (s15.1 ≤ 40)) && ((decide ((x0.Tracks.length : Int) ≤ 100)) && ((decide ((x0.Ties.length : Int) ≤ 30)) || ((decide ((x0.Ties.length : Int) > 400)) && (decide ((x0.Ties.length : Int) ≤ 500)))))))]) ⟨e61, trivial⟩, (.bool ((decide (s15.1 ≤ 40)) && ((decide ((x0.Tracks.length : Int) ≤ 100)) && ((decide ((x0.Ties.length : Int) ≤ 30)) || ((decide ((x0.Ties.length : Int) > 400)) && (decide ((x0.Ties.length : Int) ≤ 500))))))), F3, rfl, hs58.clear, rfl⟩
end Go.Proofs.Ythbcnabeabcmlaa
namespace Go.Proofs.Ythbcnabeabcmlaa
set_option maxRecDepth 1000000 in
theorem awake_ok (m : Nat) : law03_awake (m + 100) = some true := by kernel_rfl
theorem awake_at {N : Nat} (h : 100 ≤ N) : law03_awake N = some true := by
 obtain ⟨m, rfl⟩ : ∃ m, N = m + 100 := ⟨N - 100, by omega⟩
 exact awake_ok m
theorem few_some {N : Nat} {s : System} (h : FitS N s) : ∃ b, law03_few N s = some b := by
 unfold law03_few
 have hn := h.n.1
 obtain ⟨o, ho, hR⟩ := iter_ex (body := law03_few_L0 N s) s.Tracks.length (fun i q => q.2 = (i : Int)) (fun o => ∀ q, o ≠ .next q) (by
  rintro i ⟨a, b⟩ hi hb
  simp only at hb
  subst hb
  unfold law03_few_L0
  simp only
  by_cases hlt : i < s.Tracks.length
  ·simp only [lt_t hlt, cond_true, idx_nat hlt, Option.bind_some]
   cases decide ((s.Tracks[i].Clock.Jumps.length : Int) > 40) with
   | true => exact .inr ⟨_, rfl, (fun _ h => by cases h), fun _ h => by cases h⟩
   | false => exact .inl ⟨_, rfl, by simp only; rw [W64_succ (by omega)], hlt⟩
  ·have : i = s.Tracks.length := by omega
   subst this
   simp only [lt_f, cond_false]
   exact .inr ⟨_, rfl, (fun _ h => by cases h), fun _ h => by cases h⟩) s.Tracks.length N 0 (0, 0) (by omega) rfl h.n.2
 rw [ho]
 cases o with
 | next q => exact absurd rfl (hR q)
 | done q => exact ⟨_, rfl⟩
 | ret r => exact ⟨_, rfl⟩
end Go.Proofs.Ythbcnabeabcmlaa
namespace Go.Proofs.Ythbcnabeabcmlaa
abbrev NN : Nat := 9223372036854775808
theorem fitL {α : Type} {l : List α} {Q : Prop} (h : l.length < 9223372036854775808 ∧ Q) : Fit NN l.length := ⟨h.1, h.1⟩
theorem fitT {t : Track} (q : qTrack t) : FitT NN t := ⟨fitL q.1.2.2, fitL q.2⟩
theorem fitS {s : System} (q : qSystem s) : FitS NN s := ⟨fitL q.1, fun t ht => fitT (q.1.2 t ht), fitL q.2.1⟩
end Go.Proofs.Ythbcnabeabcmlaa
namespace Go.Proofs.Ythbcnabeabcmlaa
open Go.Proofs
def law03_ClocksAccepts (N : Nat) (x0 : System) (x1 : (List Tie)) (x2 : Int) : Option Bool :=
 ((law03_awake N ).bind fun r4 => (((law03_few N x0).bind fun r24 => (bif (!r24) then some true else some (decide ((x1.length : Int) > 20)))).bind fun j15 => (bif j15 then some r4 else ((clocks_Accept N x0 x1).bind fun r38 => ((ref03_Accept N x0 x1).bind fun r46 => ((clocks_Refusal N x0 x1 x2).bind fun r54 => ((bif r4 then (bif (r38.2 == r46.2) then ((ref03_SameBools N r38.1 r46.1).bind fun r74 => (bif r74 then ((ref03_RefusalError N x0 x1 x2).bind fun r84 => some (r54.2 == r84)) else some false)) else some false) else some false).bind fun j65 => some j65)))))))
set_option maxHeartbeats 4000000 in
set_option maxRecDepth 100000 in
theorem c_law03_ClocksAccepts (N : Nat) (w0 : World) (F0 : Mem) (hF : ∀ b o, F0 b = some o → w0.heap[b]? = some o) (x0 : System) (a0_0 : Option Addr) (n0_0 : Nat) (hb0_0 : LC x0.Tracks.length n0_0) (hs0_0 : SlA tTrack F0 a0_0 x0.Tracks) (a0_1 : Option Addr) (n0_1 : Nat) (hb0_1 : LC x0.Ties.length n0_1) (hs0_1 : SlA tTie F0 a0_1 x0.Ties) (x1 : (List Tie)) (a1_0 : Option Addr) (n1_0 : Nat) (hb1_0 : LC x1.length n1_0) (hs1_0 : SlA tTie F0 a1_0 x1) (x2 : Int) (r : Bool) (h : law03_ClocksAccepts N x0 x1 x2 = some r) :
  Calls Try.prog 8 ([(.agg (kSystem x0 a0_0 n0_0 a0_1 n0_1)), (.slice a1_0 x1.length n1_0), (vi x2)] : List Value).toArray w0 (FRet w0 F0 fun F' v => v = (.bool r)) := by
 have hs0 := HS.start hF
 refine calls_of (n := 62) (c := bodyOf Try.f8) Try.func8 (by kernel_rfl) (by kernel_rfl) (by kernel_rfl) ?_
 refine Sq (Rg [0, 1] ?_)
 refine Bx 3 0 0 25 (kSystem x0 a0_0 n0_0 a0_1 n0_1) hs0 (fun b1 w2 (hs3 : HS w0 F0 w2 F0 [(sb b1 (kSystem x0 a0_0 n0_0 a0_1 n0_1) 25)]) => ?_)
 refine V 6 4 (mc (.bool false) (.bool false)) ?_
 refine Nss (Rg [0, 1] ?_)
 obtain ⟨r4, hr5, h6⟩ := bind_some h
 refine Cl 14 4 15 #[] #[] co_law03_awake hs3 (c_law03_awake N w2 F0 hs3.pers  _ hr5) ?_
 intro v7 F1 w8 hs9 le10 hp11
 obtain rfl := hp11
 refine V 7 4 (ma 14 (.bool r4)) ?_
 refine Nss ?_
 refine Sq (Rg [0, 1, 2, 3, 4, 5, 6, 7] ?_)
 obtain ⟨j15, hj22, h23⟩ := bind_some h6
 refine RWP.cut (fun f w => ∃ (F2 : Mem), HS w0 F0 w F2 [(sb b1 (kSystem x0 a0_0 n0_0 a0_1 n0_1) 25)] ∧ Mem.le F1 F2 ∧ f.d = [] ∧ f 1 = (.slice a1_0 x1.length n1_0) ∧ f 2 = (vi x2) ∧ f 3 = (.pointer (some ⟨b1, 0, none⟩)) ∧ f 7 = (.bool r4) ∧ f 22 = (.bool j15)) ?_ ?_
 ·refine V 15 25 (ld 25 3 b1 0 true 3 (.agg (kSystem x0 a0_0 n0_0 a0_1 n0_1)) (hs9.ownAt (k := 0) rfl)) ?_
  obtain ⟨r24, hr25, h26⟩ := bind_some hj22
  refine Cl 16 4 16 #[(.tmp 15)] #[25] co_law03_few hs9 (c_law03_few N w8 F1 hs9.pers (x0) a0_0 n0_0 hb0_0 (SlA.mono hs0_0 le10) a0_1 n0_1 hb0_1 (SlA.mono hs0_1 le10) _ hr25) ?_
  intro v27 F3 w28 hs29 le30 hp31
  obtain rfl := hp31
  refine V 17 4 (run_not (t := 4) (x := (.tmp 16)) (a := r24) rfl) ?_
  refine V 18 4 (mv 17 (.bool (!r24))) ?_
  refine RWP.split (!r24) (fun hb32 => ?_) (fun hb32 => ?_)
  ·have h33 := cond_t h26 hb32
   refine Sk [19, 20, 21] 3 false 18 hb32 ?_
   refine V 22 4 (p1 18 (.const (.bool true)) (.tmp 21) (.bool true) hb32) ?_
   obtain rfl := some_inj h33
   exact RWP.nil ⟨rfl, F3, hs29, le30, rfl, rfl, rfl, rfl, rfl, rfl⟩
  ·have h34 := cond_f h26 hb32
   refine Vg 19 23 3 false 18 hb32 (mv 1 (.slice a1_0 x1.length n1_0)) ?_
   refine Vg 20 3 3 false 18 hb32 (ln 19 23 a1_0 x1.length n1_0 46 4 32) ?_
   refine Vg 21 4 3 false 18 hb32 (run_gtr (t := 3) (t' := 3) (x := (.tmp 20)) (y := (.const (vi 20))) (k := .i64) (a := (x1.length : Int)) (b := 20) rfl rfl) ?_
   refine V 22 4 (p0 18 (.const (.bool true)) (.tmp 21) (.bool (decide ((x1.length : Int) > 20))) hb32) ?_
   obtain rfl := some_inj h34
   exact RWP.nil ⟨rfl, F3, hs29, le30, rfl, rfl, rfl, rfl, rfl, rfl⟩
 ·rintro f w12 ⟨F2, hs13, le14, e16, e17, e18, e19, e20, e21⟩
  refine thenQ_nrm ?_
  refine CWP.cond (t := j15) (by kernel_rfl) e21 (fun hb35 => ?_) (fun hb35 => ?_)
  ·have h36 := cond_t h23 hb35
   refine Sq (Rg [0, 1] ?_)
   refine V 23 4 (mv 7 (.bool r4) e20) ?_
   refine V 6 4 (ma 23 (.bool r4)) ?_
   refine Nt ?_
   refine CWP.ret (by kernel_rfl) ?_
   refine thenQ_ret ?_
   have hfin := some_inj h36
   subst hfin
   exact ⟨e16, (.bool r4), res_of (l := [.tmp 6]) (by kernel_rfl) (vs := [(.bool r4)]) ⟨rfl, trivial⟩, (.bool r4), F2, rfl, hs13.clear, rfl⟩
  ·have h37 := cond_f h23 hb35
   refine Sc ?_
   refine thenQ_nrm ?_
   refine Sq (Rg [0, 1, 2, 3, 4, 5, 6, 7] ?_)
   refine V 25 25 (ld 25 3 b1 0 true 3 (.agg (kSystem x0 a0_0 n0_0 a0_1 n0_1)) (hs13.ownAt (k := 0) rfl) e19) ?_
   refine V 26 23 (mv 1 (.slice a1_0 x1.length n1_0) e17) ?_
   obtain ⟨r38, hr39, h40⟩ := bind_some h37
   refine Cl 27 65 42 #[(.tmp 25), (.tmp 26)] #[25, 23] co_clocks_Accept hs13 (c_clocks_Accept N w12 F2 hs13.pers (x0) a0_0 n0_0 hb0_0 (SlA.mono hs0_0 (le10.trans le14)) a0_1 n0_1 hb0_1 (SlA.mono hs0_1 (le10.trans le14)) (x1) a1_0 n1_0 hb1_0 (SlA.mono hs1_0 (le10.trans le14)) _ hr39) ?_
   intro v41 F4 w42 hs43 le44 hp45
   obtain ⟨ar38_0_0, nr38_0_0, rfl, hbr38_0_0, hsr38_0_0⟩ := hp45
   refine V 24 65 (mv 27 (.tuple #[(.slice ar38_0_0 r38.1.length nr38_0_0), (vi r38.2)])) ?_
   refine V 28 64 (ex 24 0 (.slice ar38_0_0 r38.1.length nr38_0_0) (vs := #[(.slice ar38_0_0 r38.1.length nr38_0_0), (vi r38.2)])) ?_
   refine V 29 30 (ex 24 1 (vi r38.2) (vs := #[(.slice ar38_0_0 r38.1.length nr38_0_0), (vi r38.2)])) ?_
   refine V 8 64 (ma 28 (.slice ar38_0_0 r38.1.length nr38_0_0)) ?_
   refine V 9 30 (ma 29 (vi r38.2)) ?_
   refine Nss (Rg [0, 1, 2, 3, 4, 5, 6, 7] ?_)
   refine V 31 25 (ld 25 3 b1 0 true 3 (.agg (kSystem x0 a0_0 n0_0 a0_1 n0_1)) (hs43.ownAt (k := 0) rfl) e19) ?_
   refine V 32 23 (mv 1 (.slice a1_0 x1.length n1_0) e17) ?_
   obtain ⟨r46, hr47, h48⟩ := bind_some h40
   refine Cl 33 65 43 #[(.tmp 31), (.tmp 32)] #[25, 23] co_ref03_Accept hs43 (c_ref03_Accept N w42 F4 hs43.pers (x0) a0_0 n0_0 hb0_0 (SlA.mono hs0_0 ((le10.trans le14).trans le44)) a0_1 n0_1 hb0_1 (SlA.mono hs0_1 ((le10.trans le14).trans le44)) (x1) a1_0 n1_0 hb1_0 (SlA.mono hs1_0 ((le10.trans le14).trans le44)) _ hr47) ?_
   intro v49 F5 w50 hs51 le52 hp53
   obtain ⟨ar46_0_0, nr46_0_0, rfl, hbr46_0_0, hsr46_0_0⟩ := hp53
   refine V 30 65 (mv 33 (.tuple #[(.slice ar46_0_0 r46.1.length nr46_0_0), (vi r46.2)])) ?_
   refine V 34 64 (ex 30 0 (.slice ar46_0_0 r46.1.length nr46_0_0) (vs := #[(.slice ar46_0_0 r46.1.length nr46_0_0), (vi r46.2)])) ?_
   refine V 35 30 (ex 30 1 (vi r46.2) (vs := #[(.slice ar46_0_0 r46.1.length nr46_0_0), (vi r46.2)])) ?_
   refine V 10 64 (ma 34 (.slice ar46_0_0 r46.1.length nr46_0_0)) ?_
   refine V 11 30 (ma 35 (vi r46.2)) ?_
   refine Nss (Rg [0, 1, 2, 3, 4, 5, 6, 7, 8] ?_)
   refine V 37 25 (ld 25 3 b1 0 true 3 (.agg (kSystem x0 a0_0 n0_0 a0_1 n0_1)) (hs51.ownAt (k := 0) rfl) e19) ?_
   refine V 38 23 (mv 1 (.slice a1_0 x1.length n1_0) e17) ?_
   refine V 39 3 (mv 2 (vi x2) e18) ?_
   obtain ⟨r54, hr55, h56⟩ := bind_some h48
   refine Cl 40 58 44 #[(.tmp 37), (.tmp 38), (.tmp 39)] #[25, 23, 3] co_clocks_Refusal hs51 (c_clocks_Refusal N w50 F5 hs51.pers (x0) a0_0 n0_0 hb0_0 (SlA.mono hs0_0 (((le10.trans le14).trans le44).trans le52)) a0_1 n0_1 hb0_1 (SlA.mono hs0_1 (((le10.trans le14).trans le44).trans le52)) (x1) a1_0 n1_0 hb1_0 (SlA.mono hs1_0 (((le10.trans le14).trans le44).trans le52)) (x2) _ hr55) ?_
   intro v57 F6 w58 hs59 le60 hp61
   obtain ⟨ar54_0_0, nr54_0_0, rfl, hbr54_0_0, hsr54_0_0⟩ := hp61
   refine V 36 58 (mv 40 (.tuple #[(.slice ar54_0_0 r54.1.length nr54_0_0), (vi r54.2)])) ?_
   refine V 41 57 (ex 36 0 (.slice ar54_0_0 r54.1.length nr54_0_0) (vs := #[(.slice ar54_0_0 r54.1.length nr54_0_0), (vi r54.2)])) ?_
   refine V 42 30 (ex 36 1 (vi r54.2) (vs := #[(.slice ar54_0_0 r54.1.length nr54_0_0), (vi r54.2)])) ?_
   refine V 12 57 (ma 41 (.slice ar54_0_0 r54.1.length nr54_0_0)) ?_
   refine V 13 30 (ma 42 (vi r54.2)) ?_
   refine Nss (Rg [0, 1, 2, 3, 4, 5, 6, 7, 8, 9, 10, 11, 12, 13, 14, 15, 16, 17, 18, 19] ?_)
   obtain ⟨j65, hj68, h69⟩ := bind_some h56
   refine RWP.cut (fun f w => ∃ (F7 : Mem), HS w0 F0 w F7 [] ∧ Mem.le F6 F7 ∧ f.d = [] ∧ f 6 = (.bool j65)) ?_ ?_
   ·refine V 43 4 (mv 7 (.bool r4) e20) ?_
    refine V 44 4 (mv 43 (.bool r4)) ?_
    refine RWP.split r4 (fun hb70 => ?_) (fun hb70 => ?_)
    ·have h71 := cond_t hj68 hb70
     refine Vg 45 30 1 true 44 hb70 (mv 9 (vi r38.2)) ?_
     refine Vg 46 30 1 true 44 hb70 (mv 11 (vi r46.2)) ?_
     refine Vg 47 4 1 true 44 hb70 (run_eql (t := 30) (t' := 30) (x := (.tmp 45)) (y := (.tmp 46)) (k := .i64) (a := r38.2) (b := r46.2) rfl rfl) ?_
     refine V 48 4 (p1 44 (.tmp 47) (.const (.bool false)) (.bool (r38.2 == r46.2)) hb70) ?_
     refine V 49 4 (mv 48 (.bool (r38.2 == r46.2))) ?_
     refine RWP.split (r38.2 == r46.2) (fun hb72 => ?_) (fun hb72 => ?_)
     ·have h73 := cond_t h71 hb72
      refine Vg 50 64 6 true 49 hb72 (mv 8 (.slice ar38_0_0 r38.1.length nr38_0_0)) ?_
      refine Vg 51 64 6 true 49 hb72 (mv 10 (.slice ar46_0_0 r46.1.length nr46_0_0)) ?_
      obtain ⟨r74, hr75, h76⟩ := bind_some h73
      refine RWP.call (dst := (some 52)) (ty := 4) (g := (some (6, true))) (by kernel_rfl) (gd_y (d := 49) (by kernel_rfl) rfl hb72) (f0 := (.func 45)) (aos := #[(.tmp 50), (.tmp 51)]) (ats := #[64, 64]) (fid := 45) (first := #[]) (cap := #[]) (args := [(.slice ar38_0_0 r38.1.length nr38_0_0), (.slice ar46_0_0 r46.1.length nr46_0_0)]) rfl co_ref03_SameBools (rfl) hs59 (c_ref03_SameBools N w58 F6 hs59.pers (r38.1) ar38_0_0 nr38_0_0 hbr38_0_0 (SlA.mono hsr38_0_0 (le52.trans le60)) (r46.1) ar46_0_0 nr46_0_0 hbr46_0_0 (SlA.mono hsr46_0_0 le60) _ hr75) ?_
      intro v77 F8 w78 hs79 le80 hp81
      obtain rfl := hp81
      refine V 53 4 (p1 49 (.tmp 52) (.const (.bool false)) (.bool r74) hb72) ?_
      refine V 54 4 (mv 53 (.bool r74)) ?_
      refine RWP.split r74 (fun hb82 => ?_) (fun hb82 => ?_)
      ·have h83 := cond_t h76 hb82
       refine Vg 55 30 11 true 54 hb82 (mv 13 (vi r54.2)) ?_
       refine Vg 56 25 11 true 54 hb82 (ld 25 3 b1 0 true 3 (.agg (kSystem x0 a0_0 n0_0 a0_1 n0_1)) (hs79.ownAt (k := 0) rfl) e19) ?_
       refine Vg 57 23 11 true 54 hb82 (mv 1 (.slice a1_0 x1.length n1_0) e17) ?_
       refine Vg 58 3 11 true 54 hb82 (mv 2 (vi x2) e18) ?_
       obtain ⟨r84, hr85, h86⟩ := bind_some h83
       refine RWP.call (dst := (some 59)) (ty := 30) (g := (some (11, true))) (by kernel_rfl) (gd_y (d := 54) (by kernel_rfl) rfl hb82) (f0 := (.func 46)) (aos := #[(.tmp 56), (.tmp 57), (.tmp 58)]) (ats := #[25, 23, 3]) (fid := 46) (first := #[]) (cap := #[]) (args := [(.agg (kSystem x0 a0_0 n0_0 a0_1 n0_1)), (.slice a1_0 x1.length n1_0), (vi x2)]) rfl co_ref03_RefusalError (rfl) hs79 (c_ref03_RefusalError N w78 F8 hs79.pers (x0) a0_0 n0_0 hb0_0 (SlA.mono hs0_0 (((((le10.trans le14).trans le44).trans le52).trans le60).trans le80)) a0_1 n0_1 hb0_1 (SlA.mono hs0_1 (((((le10.trans le14).trans le44).trans le52).trans le60).trans le80)) (x1) a1_0 n1_0 hb1_0 (SlA.mono hs1_0 (((((le10.trans le14).trans le44).trans le52).trans le60).trans le80)) (x2) _ hr85) ?_
       intro v87 F9 w88 hs89 le90 hp91
       obtain rfl := hp91
       refine Vg 60 4 11 true 54 hb82 (run_eql (t := 30) (t' := 30) (x := (.tmp 55)) (y := (.tmp 59)) (k := .i64) (a := r54.2) (b := r84) rfl rfl) ?_
       refine V 61 4 (p1 54 (.tmp 60) (.const (.bool false)) (.bool (r54.2 == r84)) hb82) ?_
       refine V 6 4 (ma 61 (.bool (r54.2 == r84))) ?_
       obtain rfl := some_inj h86
       have hs92 : HS w0 F0 w88 F9 [] := hs89.drop 0
       exact RWP.nil ⟨rfl, F9, hs92, (le80.trans le90), e16, rfl⟩
      ·have h93 := cond_f h76 hb82
       refine Sk [55, 56, 57, 58, 59, 60] 11 true 54 hb82 ?_
       refine V 61 4 (p0 54 (.tmp 60) (.const (.bool false)) (.bool false) hb82) ?_
       refine V 6 4 (ma 61 (.bool false)) ?_
       obtain rfl := some_inj h93
       have hs94 : HS w0 F0 w78 F8 [] := hs79.drop 0
       exact RWP.nil ⟨rfl, F8, hs94, le80, e16, rfl⟩
     ·have h95 := cond_f h71 hb72
      refine Sk [50, 51, 52] 6 true 49 hb72 ?_
      refine V 53 4 (p0 49 (.tmp 52) (.const (.bool false)) (.bool false) hb72) ?_
      refine V 54 4 (mv 53 (.bool false)) ?_
      refine Sk [55, 56, 57, 58, 59, 60] 11 true 54 rfl ?_
      refine V 61 4 (p0 54 (.tmp 60) (.const (.bool false)) (.bool false) rfl) ?_
      refine V 6 4 (ma 61 (.bool false)) ?_
      obtain rfl := some_inj h95
      have hs96 : HS w0 F0 w58 F6 [] := hs59.drop 0
      exact RWP.nil ⟨rfl, F6, hs96, (Mem.le.refl _), e16, rfl⟩
    ·have h97 := cond_f hj68 hb70
     refine Sk [45, 46, 47] 1 true 44 hb70 ?_
     refine V 48 4 (p0 44 (.tmp 47) (.const (.bool false)) (.bool false) hb70) ?_
     refine V 49 4 (mv 48 (.bool false)) ?_
     refine Sk [50, 51, 52] 6 true 49 rfl ?_
     refine V 53 4 (p0 49 (.tmp 52) (.const (.bool false)) (.bool false) rfl) ?_
     refine V 54 4 (mv 53 (.bool false)) ?_
     refine Sk [55, 56, 57, 58, 59, 60] 11 true 54 rfl ?_
     refine V 61 4 (p0 54 (.tmp 60) (.const (.bool false)) (.bool false) rfl) ?_
     refine V 6 4 (ma 61 (.bool false)) ?_
     obtain rfl := some_inj h97
     have hs98 : HS w0 F0 w58 F6 [] := hs59.drop 0
     exact RWP.nil ⟨rfl, F6, hs98, (Mem.le.refl _), e16, rfl⟩
   ·rintro f w62 ⟨F7, hs63, le64, e66, e67⟩
    refine thenQ_nrm ?_
    refine CWP.ret (by kernel_rfl) ?_
    have hfin := some_inj h69
    subst hfin
    exact ⟨e66, (.bool j65), res_of (l := [.tmp 6]) (by kernel_rfl) (vs := [(.bool j65)]) ⟨e67, trivial⟩, (.bool j65), F7, rfl, hs63.clear, rfl⟩
end Go.Proofs.Ythbcnabeabcmlaa
namespace Go.Proofs.Ythbcnabeabcmlaa
open BF
section
variable {N : Nat} {s : System}
theorem off_right (s : System) (l : List Tie) (right : Bool) : vOff s l right = if vCheck s ≠ 0 then vCheck s else if l.all (fun t => vHas s t.A && vHas s t.B) = false then 3 else if right = false then 1 else vOff s l true := by
 unfold vOff
 by_cases h : vCheck s = 0
 ·simp only [if_neg (show ¬ (vCheck s ≠ 0) by omega)]
  cases l.all (fun t => vHas s t.A && vHas s t.B) with
  | false => rfl
  | true => cases right <;> simp
 ·simp only [if_pos h]
theorem RefusalError_r (hN : 1000000 ≤ N) (hf : FitS N s) {l : List Tie} (hl : Fit N l.length) (hsm : l.length ≤ 1000000) (i : Int) :
  ∃ a c, clocks_Refusal N s l i = some (a, c) ∧ ref03_RefusalError N s l i = some c := by
 unfold ref03_RefusalError
 rw [check_r hf, Option.bind_some]
 have hoff := off_right s l (inr i 0 (W64 ((l.length : Int) - 1)))
 by_cases h : vCheck s = 0
 ·have e : (vCheck s != 0) = false := by simp [h]
  rw [e, cond_false, hasAll_r hf hl (body := ref03_RefusalError_L0 N s l i (vCheck s)) rfl]
  rw [if_neg (by omega)] at hoff
  cases hall : l.all (fun t => vHas s t.A && vHas s t.B) with
  | false =>
   rw [hall, if_pos rfl] at hoff
   rcases Refusal_c hN hf hl hsm i with ⟨h1, h2⟩ | ⟨h1, _⟩
   ·rw [h2]; exact ⟨_, _, rfl, by rw [hoff]; rfl⟩
   ·omega
  | true =>
   rw [hall, if_neg (by simp)] at hoff
   simp only [cond_true, within_r, Option.bind_some]
   cases hin : inr i 0 (W64 ((l.length : Int) - 1)) with
   | false =>
    rw [hin, if_pos rfl] at hoff
    rcases Refusal_c hN hf hl hsm i with ⟨h1, h2⟩ | ⟨h1, _⟩
    ·rw [hin] at h2; rw [h2]; exact ⟨_, _, rfl, by rw [hoff]; rfl⟩
    ·rw [hin] at h1; omega
   | true =>
    simp only [Bool.not_true, cond_false, offered_r hN hf hl hsm, Option.bind_some]
    rcases Refusal_c hN hf hl hsm i with ⟨h1, h2⟩ | ⟨h1, k, rfl, hk, h2⟩
    ·rw [hin] at h1 h2
     have e2 : (vOff s l true != 0) = true := by simpa using h1
     rw [h2, e2]; exact ⟨_, _, rfl, rfl⟩
    ·rw [hin] at h1
     have e2 : (vOff s l true != 0) = false := by simp [h1]
     obtain ⟨q, hq⟩ := Offered_r hN hf hl hsm h1 hk
     rw [e2, cond_false, hq]
     rcases h2 with ⟨h3, h4⟩ | ⟨h3, c, h4, _⟩
     ·rw [h4]; exact ⟨_, _, rfl, by simp [h3]⟩
     ·rw [h4]; exact ⟨_, _, rfl, by simp [h3]⟩
 ·have e : (vCheck s != 0) = true := by simpa using h
  rw [if_pos h] at hoff
  rw [e, cond_true]
  rcases Refusal_c hN hf hl hsm i with ⟨h1, h2⟩ | ⟨h1, _⟩
  ·rw [h2]; exact ⟨_, _, rfl, by rw [hoff]⟩
  ·omega
theorem accepts_true (hN : 1000000 ≤ N) (hf : FitS N s) {l : List Tie} (hl : Fit N l.length) (i : Int) : law03_ClocksAccepts N s l i = some true := by
 unfold law03_ClocksAccepts
 obtain ⟨fw, hfw⟩ := few_some hf
 rw [awake_at (by omega), hfw]
 simp only [Option.bind_some]
 cases fw with
 | false => rfl
 | true =>
  simp only [Bool.not_true, cond_false, Option.bind_some]
  by_cases h20 : (l.length : Int) > 20
  ·have : decide ((l.length : Int) > 20) = true := by simpa using h20
   rw [this]; rfl
  ·have : decide ((l.length : Int) > 20) = false := by simpa using h20
   rw [this, cond_false]
   have hsm : l.length ≤ 1000000 := by omega
   obtain ⟨a, c, h1, h2⟩ := RefusalError_r hN hf hl hsm i
   rw [Accept_c hN hf hl hsm, Accept_r hN hf hl hsm, h1]
   have hsb : ref03_SameBools N (if vOff s l true ≠ 0 then ([], vOff s l true) else ((accF s l).2, 0)).1 (if vOff s l true ≠ 0 then ([], vOff s l true) else ((accF s l).2, 0)).1 = some true := by
    refine sameBools_self hN ?_
    split
    ·simp
    ·simp only [accF_len]; omega
   simp only [Option.bind_some, cond_true, beq_self_eq_true, hsb, h2]
end
theorem accepts_row (s : System) (l : List Tie) (i : Int) (q : qSystem s) (p : l.length < 9223372036854775808 ∧ ∀ x, x ∈ l → qTie x) (_ : rI i) : law03_ClocksAccepts NN s l i = some true := accepts_true (by decide) (fitS q) (fitL p) i
end Go.Proofs.Ythbcnabeabcmlaa
namespace Go.Proofs.Ythbcnabeabcmlaa
open Go.ChangeShapes Go.WideShapes Go.ChangeAt Go.RowKit
set_option maxRecDepth 100000 in
theorem lifted_clocksAccepts (os : Os) (started : os.Started) (H : Type) (enc : TypeId × Value → H) :
  ReturnsInHanded {} Try.checked os 8 .any (Rows.clocksAcceptsSpec.pre6 enc Try.prog Try.f8 Rows.clocksAcceptsRow.domain false) (Rows.clocksAcceptsSpec.post enc Try.prog Try.f8 false true false false) := by
 refine returnsInHanded_of_change (C := Try.checked) (by kernel_rfl) started (by kernel_rfl) Try.func8
  (ChangeSpec.witness6 (enc := enc) (C := Try.checked) false ⟨#[], #[.agg #[.slice none 0 0, .slice none 0 0, .int .i64 0], .slice none 0 0, .int .i64 0], []⟩ 8 (by kernel_rfl) (by kernel_rfl) (by kernel_rfl) (by kernel_rfl)) ?_
 intro W base args ds gs before hval0 hW hcnd _
 have hval : ∀ (j : Nat) t v, Try.f8.params[j]? = some t → args[j]? = some v → Value.okWide Try.prog W .any base t v := hval0
 have hW' := hW
 obtain ⟨p, q, hA0, hV, rfl, hfz, hnd⟩ := hW
 have hA : DataW.TrodAll enc Try.prog W 0 (fun _ => true) true Try.f8.params.toList args.toList ds p := hA0
 rw [Try.params8] at hA hval
 obtain ⟨v0, vs0, d0, ds0, p0, q0, hargs, rfl, rfl, h0, r0⟩ := trodAll_cons hA
 obtain ⟨v1, vs1, d1, ds1, p1, q1, rfl, rfl, rfl, h1, r1⟩ := trodAll_cons r0
 obtain ⟨v2, vs2, d2, ds2, p2, q2, rfl, rfl, rfl, h2, r2⟩ := trodAll_cons r1
 obtain ⟨rfl, rfl, rfl⟩ := trodAll_nil r2
 obtain rfl : args = #[v0, v1, v2] := by cases args; simp_all
 obtain ⟨cs0, x0, rfl, R0, Q0⟩ := Opens.agg opens_System_25 (by kernel_rfl) (hval 0 25 v0 rfl rfl) h0
 obtain ⟨a0_0, n0_0, a0_1, n0_1, e0, hb0_0, hs0_0, hb0_1, hs0_1⟩ := R0
 obtain rfl : cs0 = #[.slice a0_0 x0.Tracks.length n0_0, .slice a0_1 x0.Ties.length n0_1, .int .i64 x0.Window] := Array.ext' (by exact e0)
 obtain ⟨x1, R1, Q1⟩ := Opens.one (opens_slice (t := 23) opens_Tie_46 (by decide) (by kernel_rfl) (by kernel_rfl) : Opens Try.prog 23 (tSl tTie) _) (by kernel_rfl) (hval 1 23 v1 rfl rfl) h1
 obtain ⟨a1_0, n1_0, e1, hb1_0, hs1_0⟩ := R1
 obtain rfl : v1 = .slice a1_0 x1.length n1_0 := by cases e1; rfl
 obtain ⟨x2, R2, Q2⟩ := Opens.one (opens_int (t := 3) (by kernel_rfl) (by kernel_rfl) : Opens Try.prog 3 tInt rI) (by kernel_rfl) (hval 2 3 v2 rfl rfl) h2
 have e2 : [v2] = [.int .i64 x2] := R2
 cases e2
 refine (c_law03_ClocksAccepts 9223372036854775808 W (memOf W) (fun _ _ h => h) x0 a0_0 n0_0 hb0_0 hs0_0 a0_1 n0_1 hb0_1 hs0_1 x1 a1_0 n1_0 hb1_0 hs1_0 x2 true (accepts_row x0 x1 x2 Q0 Q1 Q2)).mono fun e W' he => ?_
 obtain ⟨r, F', rfl, hs, rfl⟩ := he
 refine ⟨_, rfl, post_grown (by kernel_rfl) (tb := 4) ?_ rfl hW' (by kernel_rfl) (by kernel_rfl) ?_ hs⟩
 ·intro t ht
  rw [Try.params8] at ht
  simp only [List.mem_cons, List.not_mem_nil, or_false] at ht
  rcases ht with rfl | rfl | rfl <;> exact ⟨by kernel_rfl, by decide +kernel⟩
 ·intro _; rfl
theorem clocksAccepts_proved : Rows.ClocksAcceptsSaid :=
 OpenClaim.holds_of_wide 8 Try.f8 rfl rfl rfl rfl rfl rfl rfl ⟨rfl, rfl, rfl, rfl, rfl⟩ rfl rfl rfl rfl rfl (by kernel_rfl) Try.func8 (by kernel_rfl)
  (of_decide_eq_true (by kernel_rfl)) (by unfold Func.isWrapper; first | (rw [if_pos (by decide +kernel)]; kernel_rfl) | (rw [if_neg (by decide +kernel)]; exact ⟨rfl, rfl⟩))
  (fun os started H enc _ => lifted_clocksAccepts os started H enc)
end Go.Proofs.Ythbcnabeabcmlaa
