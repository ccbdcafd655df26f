/- ClocksRelations: for every input the law returns true, and each argument reads afterwards as it read before. No condition. -/
import Derived.Test.YthbcnabeabcmlaaA5
set_option linter.unusedVariables false
set_option linter.unusedSimpArgs false
set_option linter.unusedSectionVars false
namespace Go.Proofs.Ythbcnabeabcmlaa
open Go.Proofs
def law03_few_L0 (N : Nat) (x0 : System) : (Int × Int) → Option (Flow Bool (Int × Int)) := fun s7 =>
 (bif (decide (s7.2 < (x0.Tracks.length : Int))) then ((idx x0.Tracks s7.2).bind fun x30 => ((idx x0.Tracks s7.2).bind fun x44 => (bif (decide ((x44.Clock.Jumps.length : Int) > 40)) then some (.ret false) else some (.next ((W64 (s7.1 + (x30.Times.length : Int))), (W64 (s7.2 + 1))))))) else some (.done (s7.1, s7.2)))
def law03_few (N : Nat) (x0 : System) : Option Bool :=
 ((iter (law03_few_L0 N x0) N (0, 0)).bind fun o => o.k (fun r => some r) (fun s15 => some ((decide (s15.1 ≤ 40)) && ((decide ((x0.Tracks.length : Int) ≤ 100)) && ((decide ((x0.Ties.length : Int) ≤ 30)) || ((decide ((x0.Ties.length : Int) > 400)) && (decide ((x0.Ties.length : Int) ≤ 500))))))))
theorem co_law03_few : CallOk Try.prog 16 := fun _ _ => by kernel_rfl
set_option maxHeartbeats 4000000 in
set_option maxRecDepth 100000 in
theorem c_law03_few (N : Nat) (w0 : World) (F0 : Mem) (hF : ∀ b o, F0 b = some o → w0.heap[b]? = some o) (x0 : System) (a0_0 : Option Addr) (n0_0 : Nat) (hb0_0 : LC x0.Tracks.length n0_0) (hs0_0 : SlA tTrack F0 a0_0 x0.Tracks) (a0_1 : Option Addr) (n0_1 : Nat) (hb0_1 : LC x0.Ties.length n0_1) (hs0_1 : SlA tTie F0 a0_1 x0.Ties) (r : Bool) (h : law03_few N x0 = some r) :
  Calls Try.prog 16 ([(.agg (kSystem x0 a0_0 n0_0 a0_1 n0_1))] : List Value).toArray w0 (FRet w0 F0 fun F' v => v = (.bool r)) := by
 have hs0 := HS.start hF
 refine calls_of (n := 56) (c := bodyOf Try.f16) Try.func16 (by kernel_rfl) (by kernel_rfl) (by kernel_rfl) ?_
 refine Sq (Rg [0, 1] ?_)
 refine Bx 1 0 0 25 (kSystem x0 a0_0 n0_0 a0_1 n0_1) hs0 (fun b1 w2 (hs3 : HS w0 F0 w2 F0 [(sb b1 (kSystem x0 a0_0 n0_0 a0_1 n0_1) 25)]) => ?_)
 refine V 2 4 (mc (.bool false) (.bool false)) ?_
 refine Nss (Rg [0] ?_)
 refine V 3 3 (mc (vi 0) (vi 0)) ?_
 refine Nss ?_
 refine Sq (Rg [0] ?_)
 refine V 4 3 (mc (vi 0) (vi 0)) ?_
 refine Nt ?_
 obtain ⟨o4, ho5, h6⟩ := bind_some h
 refine CWP.cut (fun f w => ∃ (s15 : (Int × Int)) (F2 : Mem), o4 = .done s15 ∧ HS w0 F0 w F2 [(sb b1 (kSystem x0 a0_0 n0_0 a0_1 n0_1) 25)] ∧ Mem.le F0 F2 ∧ f.d = [] ∧ f 1 = (.pointer (some ⟨b1, 0, none⟩)) ∧ f 3 = (vi s15.1)) ?_ ?_
 ·refine Bk ?_
  refine CWP.loop (by kernel_rfl) (fun m f w => ∃ (s7 : (Int × Int)) (F1 : Mem), iter (law03_few_L0 N x0) m s7 = some o4 ∧ HS w0 F0 w F1 [(sb b1 (kSystem x0 a0_0 n0_0 a0_1 n0_1) 25)] ∧ Mem.le F0 F1 ∧ f.d = [] ∧ f 1 = (.pointer (some ⟨b1, 0, none⟩)) ∧ f 3 = (vi s7.1) ∧ f 4 = (vi s7.2)) N ⟨(0, 0), F0, ho5, hs3, (Mem.le.refl _), rfl, rfl, rfl, rfl⟩ ?_
  rintro m22 f w8 ⟨s7, F1, hit23, hs9, le10, e11, e12, e13, e14⟩
  obtain ⟨m24, fl25, rfl, hb26, hnx27⟩ := iter_step hit23
  refine Sq ?_
  refine Sq (Rg [0, 1, 2, 3, 4] ?_)
  refine V 5 3 (mv 4 (vi s7.2) e14) ?_
  refine V 6 0 (fa 25 1 0 0 1 b1 0 0 e12) ?_
  refine V 7 22 (ld 22 6 b1 0 false 1 (.slice a0_0 x0.Tracks.length n0_0) (hs9.ownAt (k := 0) rfl)) ?_
  refine V 8 3 (ln 7 22 a0_0 x0.Tracks.length n0_0 54 4 64) ?_
  refine V 9 4 (run_lss (t := 3) (t' := 3) (x := (.tmp 5)) (y := (.tmp 8)) (k := .i64) (a := s7.2) (b := (x0.Tracks.length : Int)) rfl rfl) ?_
  refine Nt ?_
  refine CWP.cond (t := (decide (s7.2 < (x0.Tracks.length : Int)))) (by kernel_rfl) rfl (fun hb28 => ?_) (fun hb28 => ?_)
  ·have h29 := cond_t hb26 hb28
   refine Sc ?_
   refine thenQ_nrm ?_
   refine Sq ?_
   refine Bk ?_
   refine Sq (Rg [0, 1, 2, 3, 4, 5, 6, 7, 8, 9] ?_)
   refine V 12 3 (mv 3 (vi s7.1) e13) ?_
   refine V 13 0 (fa 25 1 0 0 1 b1 0 0 e12) ?_
   refine V 14 22 (ld 22 13 b1 0 false 1 (.slice a0_0 x0.Tracks.length n0_0) (hs9.ownAt (k := 0) rfl)) ?_
   refine V 15 3 (mv 4 (vi s7.2) e14) ?_
   obtain ⟨x30, hx31, h33⟩ := bind_some h29
   obtain ⟨hi32, hx31'⟩ := idx_spec hx31
   obtain ⟨b34, o35, C36, E37, fz38, rfl, hF40, hE41⟩ := SlA.open (SlA.mono hs0_0 le10) hx31'
   obtain ⟨ae42_2, ne42_2, ae42_3, ne42_3, hc43, hbe42_2, hse42_2, hbe42_3, hse42_3⟩ := hE41 _ _ hx31'
   refine V 16 0 (ix 22 14 15 b34 o35 54 4 64 hi32) ?_
   refine V 17 0 (fa 54 16 1 3 1 b34 (o35 + (s7.2 : Int).toNat * 4) ((o35 + (s7.2 : Int).toNat * 4) + 3)) ?_
   refine V 18 50 (lx 50 17 3 4 false 1 (.slice ae42_3 x30.Times.length ne42_3) (hs9.pers _ _ hF40) hc43) ?_
   refine V 19 3 (ln 18 50 ae42_3 x30.Times.length ne42_3 3 1 8) ?_
   refine V 20 3 (run_add (t := 3) (t' := 3) (x := (.tmp 12)) (y := (.tmp 19)) (k := .i64) (a := s7.1) (b := (x30.Times.length : Int)) rfl rfl) ?_
   refine V 3 3 (ma 20 (vi (W64 (s7.1 + (x30.Times.length : Int))))) ?_
   refine Nss (Rg [0, 1, 2, 3, 4, 5, 6, 7, 8] ?_)
   refine V 21 0 (fa 25 1 0 0 1 b1 0 0 e12) ?_
   refine V 22 22 (ld 22 21 b1 0 false 1 (.slice (some ⟨b34, o35, none⟩) x0.Tracks.length n0_0) (hs9.ownAt (k := 0) rfl)) ?_
   refine V 23 3 (mv 4 (vi s7.2) e14) ?_
   obtain ⟨x44, hx45, h47⟩ := bind_some h33
   obtain ⟨hi46, hx45'⟩ := idx_spec hx45
   obtain ⟨ae48_2, ne48_2, ae48_3, ne48_3, hc49, hbe48_2, hse48_2, hbe48_3, hse48_3⟩ := hE41 _ _ hx45'
   refine V 24 0 (ix 22 22 23 b34 o35 54 4 64 hi46) ?_
   refine V 25 0 (fa 54 24 0 0 3 b34 (o35 + (s7.2 : Int).toNat * 4) (o35 + (s7.2 : Int).toNat * 4)) ?_
   refine V 26 0 (fa 52 25 2 2 1 b34 (o35 + (s7.2 : Int).toNat * 4) ((o35 + (s7.2 : Int).toNat * 4) + 2)) ?_
   refine V 27 50 (lx 50 26 2 4 false 1 (.slice ae48_2 x44.Clock.Jumps.length ne48_2) (hs9.pers _ _ hF40) hc49) ?_
   refine V 28 3 (ln 27 50 ae48_2 x44.Clock.Jumps.length ne48_2 3 1 8) ?_
   refine V 29 4 (run_gtr (t := 3) (t' := 3) (x := (.tmp 28)) (y := (.const (vi 40))) (k := .i64) (a := (x44.Clock.Jumps.length : Int)) (b := 40) rfl rfl) ?_
   refine Nt ?_
   refine CWP.cond (t := (decide ((x44.Clock.Jumps.length : Int) > 40))) (by kernel_rfl) rfl (fun hb50 => ?_) (fun hb50 => ?_)
   ·have h51 := cond_t h47 hb50
    refine Sq (Rg [0] ?_)
    refine V 2 4 (mc (.bool false) (.bool false)) ?_
    refine Nt ?_
    refine CWP.ret (by kernel_rfl) ?_
    refine blockQ_ret ?_
    refine thenQ_ret ?_
    refine thenQ_ret ?_
    refine blockQ_ret ?_
    have hret := iter_ret h51 hnx27
    subst hret
    refine .inr ?_
    refine thenQ_ret ?_
    have hfin := some_inj h6
    subst hfin
    exact ⟨e11, (.bool false), res_of (l := [.tmp 2]) (by kernel_rfl) (vs := [(.bool false)]) ⟨rfl, trivial⟩, (.bool false), F1, rfl, hs9.clear, rfl⟩
   ·have h52 := cond_f h47 hb50
    refine Sc ?_
    refine blockQ_nrm ?_
    refine thenQ_nrm ?_
    refine Rg [0, 1, 2] ?_
    refine V 10 3 (mv 4 (vi s7.2) e14) ?_
    refine V 11 3 (run_add (t := 3) (t' := 3) (x := (.tmp 10)) (y := (.const (vi 1))) (k := .i64) (a := s7.2) (b := 1) rfl rfl) ?_
    refine V 4 3 (ma 11 (vi (W64 (s7.2 + 1)))) ?_
    refine RWP.nil ?_
    have hn53 := iter_next h52 hnx27
    exact ⟨m24, Nat.lt_succ_self _, ((W64 (s7.1 + (x30.Times.length : Int))), (W64 (s7.2 + 1))), F1, hn53, hs9, le10, e11, e12, rfl, rfl⟩
  ·have h54 := cond_f hb26 hb28
   refine CWP.exit (by kernel_rfl) ?_
   refine thenQ_ex ?_
   refine thenQ_ex ?_
   refine blockQ_hit rfl ?_
   have ho55 := iter_done h54 hnx27
   exact .inl ⟨rfl, (s7.1, s7.2), F1, ho55, hs9, le10, e11, e12, e13⟩
 ·rintro f w16 ⟨s15, F2, rfl, hs17, le18, e19, e20, e21⟩
  have h56 := k_done h6
  refine thenQ_nrm ?_
  refine Sq (Rg [0, 1, 2, 3, 4, 5, 6, 7, 8, 9, 10, 11, 12, 13, 14, 15, 16, 17, 18, 19, 20, 21, 22, 23, 24, 25, 26] ?_)
  refine RWP.cut (fun f w => ∃ (F3 : Mem), HS w0 F0 w F3 [] ∧ Mem.le F2 F3 ∧ f.d = [] ∧ f 2 = (.bool ((decide (s15.1 ≤ 40)) && ((decide ((x0.Tracks.length : Int) ≤ 100)) && ((decide ((x0.Ties.length : Int) ≤ 30)) || ((decide ((x0.Ties.length : Int) > 400)) && (decide ((x0.Ties.length : Int) ≤ 500)))))))) ?_ ?_
  ·refine V 30 3 (mv 3 (vi s15.1) e21) ?_
   refine V 31 4 (run_leq (t := 3) (t' := 3) (x := (.tmp 30)) (y := (.const (vi 40))) (k := .i64) (a := s15.1) (b := 40) rfl rfl) ?_
   refine V 32 4 (mv 31 (.bool (decide (s15.1 ≤ 40)))) ?_
   refine RWP.split (decide (s15.1 ≤ 40)) (fun hb62 => ?_) (fun hb62 => ?_)
   ·refine Vg 33 0 2 true 32 hb62 (fa 25 1 0 0 1 b1 0 0 e20) ?_
    refine Vg 34 22 2 true 32 hb62 (ld 22 33 b1 0 false 1 (.slice a0_0 x0.Tracks.length n0_0) (hs17.ownAt (k := 0) rfl)) ?_
    refine Vg 35 3 2 true 32 hb62 (ln 34 22 a0_0 x0.Tracks.length n0_0 54 4 64) ?_
    refine Vg 36 4 2 true 32 hb62 (run_leq (t := 3) (t' := 3) (x := (.tmp 35)) (y := (.const (vi 100))) (k := .i64) (a := (x0.Tracks.length : Int)) (b := 100) rfl rfl) ?_
    refine V 37 4 (p1 32 (.tmp 36) (.const (.bool false)) (.bool (decide ((x0.Tracks.length : Int) ≤ 100))) hb62) ?_
    refine V 38 4 (mv 37 (.bool (decide ((x0.Tracks.length : Int) ≤ 100)))) ?_
    refine RWP.split (decide ((x0.Tracks.length : Int) ≤ 100)) (fun hb63 => ?_) (fun hb63 => ?_)
    ·refine Vg 39 0 8 true 38 hb63 (fa 25 1 1 1 1 b1 0 1 e20) ?_
     refine Vg 40 23 8 true 38 hb63 (ld 23 39 b1 1 false 1 (.slice a0_1 x0.Ties.length n0_1) (hs17.ownAt (k := 0) rfl)) ?_
     refine Vg 41 3 8 true 38 hb63 (ln 40 23 a0_1 x0.Ties.length n0_1 46 4 32) ?_
     refine Vg 42 4 8 true 38 hb63 (run_leq (t := 3) (t' := 3) (x := (.tmp 41)) (y := (.const (vi 30))) (k := .i64) (a := (x0.Ties.length : Int)) (b := 30) rfl rfl) ?_
     refine Vg 43 4 8 true 38 hb63 (mv 42 (.bool (decide ((x0.Ties.length : Int) ≤ 30)))) ?_
     refine RWP.split (decide ((x0.Ties.length : Int) ≤ 30)) (fun hb64 => ?_) (fun hb64 => ?_)
     ·refine Sk [44, 45, 46, 47, 48] 13 false 43 hb64 ?_
      refine Su [49, 50, 51, 52] 18 true 48 ?_
      refine Sk [53] 13 false 43 hb64 ?_
      refine Vg 54 4 8 true 38 hb63 (p1 43 (.const (.bool true)) (.tmp 53) (.bool true) hb64) ?_
      refine V 55 4 (p1 38 (.tmp 54) (.const (.bool false)) (.bool true) hb63) ?_
      refine V 2 4 (ma 55 (.bool true)) ?_
      have hs65 : HS w0 F0 w16 F2 [] := hs17.drop 0
      exact RWP.nil ⟨rfl, F2, hs65, (Mem.le.refl _), e19, (congrArg Value.bool (and_t hb62 (and_t hb63 (or_t hb64 (rfl)))))⟩
     ·refine Vg 44 0 13 false 43 hb64 (fa 25 1 1 1 1 b1 0 1 e20) ?_
      refine Vg 45 23 13 false 43 hb64 (ld 23 44 b1 1 false 1 (.slice a0_1 x0.Ties.length n0_1) (hs17.ownAt (k := 0) rfl)) ?_
      refine Vg 46 3 13 false 43 hb64 (ln 45 23 a0_1 x0.Ties.length n0_1 46 4 32) ?_
      refine Vg 47 4 13 false 43 hb64 (run_gtr (t := 3) (t' := 3) (x := (.tmp 46)) (y := (.const (vi 400))) (k := .i64) (a := (x0.Ties.length : Int)) (b := 400) rfl rfl) ?_
      refine Vg 48 4 13 false 43 hb64 (mv 47 (.bool (decide ((x0.Ties.length : Int) > 400)))) ?_
      refine RWP.split (decide ((x0.Ties.length : Int) > 400)) (fun hb66 => ?_) (fun hb66 => ?_)
      ·refine Vg 49 0 18 true 48 hb66 (fa 25 1 1 1 1 b1 0 1 e20) ?_
       refine Vg 50 23 18 true 48 hb66 (ld 23 49 b1 1 false 1 (.slice a0_1 x0.Ties.length n0_1) (hs17.ownAt (k := 0) rfl)) ?_
       refine Vg 51 3 18 true 48 hb66 (ln 50 23 a0_1 x0.Ties.length n0_1 46 4 32) ?_
       refine Vg 52 4 18 true 48 hb66 (run_leq (t := 3) (t' := 3) (x := (.tmp 51)) (y := (.const (vi 500))) (k := .i64) (a := (x0.Ties.length : Int)) (b := 500) rfl rfl) ?_
       refine Vg 53 4 13 false 43 hb64 (p1 48 (.tmp 52) (.const (.bool false)) (.bool (decide ((x0.Ties.length : Int) ≤ 500))) hb66) ?_
       refine Vg 54 4 8 true 38 hb63 (p0 43 (.const (.bool true)) (.tmp 53) (.bool (decide ((x0.Ties.length : Int) ≤ 500))) hb64) ?_
       refine V 55 4 (p1 38 (.tmp 54) (.const (.bool false)) (.bool (decide ((x0.Ties.length : Int) ≤ 500))) hb63) ?_
       refine V 2 4 (ma 55 (.bool (decide ((x0.Ties.length : Int) ≤ 500)))) ?_
       have hs67 : HS w0 F0 w16 F2 [] := hs17.drop 0
       exact RWP.nil ⟨rfl, F2, hs67, (Mem.le.refl _), e19, (congrArg Value.bool (and_t hb62 (and_t hb63 (or_f hb64 (and_t hb66 (rfl))))))⟩
      ·refine Sk [49, 50, 51, 52] 18 true 48 hb66 ?_
       refine Vg 53 4 13 false 43 hb64 (p0 48 (.tmp 52) (.const (.bool false)) (.bool false) hb66) ?_
       refine Vg 54 4 8 true 38 hb63 (p0 43 (.const (.bool true)) (.tmp 53) (.bool false) hb64) ?_
       refine V 55 4 (p1 38 (.tmp 54) (.const (.bool false)) (.bool false) hb63) ?_
       refine V 2 4 (ma 55 (.bool false)) ?_
       have hs68 : HS w0 F0 w16 F2 [] := hs17.drop 0
       exact RWP.nil ⟨rfl, F2, hs68, (Mem.le.refl _), e19, (congrArg Value.bool (and_t hb62 (and_t hb63 (or_f hb64 (and_f hb66 (rfl))))))⟩
    ·refine Sk [39, 40, 41, 42, 43] 8 true 38 hb63 ?_
     refine Su [44, 45, 46, 47, 48] 13 false 43 ?_
     refine Su [49, 50, 51, 52] 18 true 48 ?_
     refine Su [53] 13 false 43 ?_
     refine Sk [54] 8 true 38 hb63 ?_
     refine V 55 4 (p0 38 (.tmp 54) (.const (.bool false)) (.bool false) hb63) ?_
     refine V 2 4 (ma 55 (.bool false)) ?_
     have hs69 : HS w0 F0 w16 F2 [] := hs17.drop 0
     exact RWP.nil ⟨rfl, F2, hs69, (Mem.le.refl _), e19, (congrArg Value.bool (and_t hb62 (and_f hb63 (rfl))))⟩
   ·refine Sk [33, 34, 35, 36] 2 true 32 hb62 ?_
    refine V 37 4 (p0 32 (.tmp 36) (.const (.bool false)) (.bool false) hb62) ?_
    refine V 38 4 (mv 37 (.bool false)) ?_
    refine Sk [39, 40, 41, 42, 43] 8 true 38 rfl ?_
    refine Su [44, 45, 46, 47, 48] 13 false 43 ?_
    refine Su [49, 50, 51, 52] 18 true 48 ?_
    refine Su [53] 13 false 43 ?_
    refine Sk [54] 8 true 38 rfl ?_
    refine V 55 4 (p0 38 (.tmp 54) (.const (.bool false)) (.bool false) rfl) ?_
    refine V 2 4 (ma 55 (.bool false)) ?_
    have hs70 : HS w0 F0 w16 F2 [] := hs17.drop 0
    exact RWP.nil ⟨rfl, F2, hs70, (Mem.le.refl _), e19, (congrArg Value.bool (and_f hb62 (rfl)))⟩
  ·rintro f w57 ⟨F3, hs58, le59, e60, e61⟩
   refine thenQ_nrm ?_
   refine CWP.ret (by kernel_rfl) ?_
   have hfin := some_inj h56
   subst hfin
   exact ⟨e60, (.bool ((decide (s15.1 ≤ 40)) && ((decide ((x0.Tracks.length : Int) ≤ 100)) && ((decide ((x0.Ties.length : Int) ≤ 30)) || ((decide ((x0.Ties.length : Int) > 400)) && (decide ((x0.Ties.length : Int) ≤ 500))))))), res_of (l := [.tmp 2]) (by kernel_rfl) (vs := [(.bool ((decide (s15.1 ≤ 40)) && ((decide ((x0.Tracks.length : Int) ≤ 100)) && ((decide ((x0.Ties.length : Int) ≤ 30)) || ((decide ((x0.Ties.length : Int) > 400)) && (decide ((x0.Ties.length : Int) ≤ 500)))))))]) ⟨e61, trivial⟩, (.bool ((decide (s15.1 ≤ 40)) && ((decide ((x0.Tracks.length : Int) ≤ 100)) && ((decide ((x0.Ties.length : Int) ≤ 30)) || ((decide ((x0.Ties.length : Int) > 400)) && (decide ((x0.Ties.length : Int) ≤ 500))))))), F3, rfl, hs58.clear, rfl⟩
end Go.Proofs.Ythbcnabeabcmlaa
namespace Go.Proofs.Ythbcnabeabcmlaa
set_option maxRecDepth 1000000 in
theorem awake_ok (m : Nat) : law03_awake (m + 100) = some true := by kernel_rfl
theorem awake_at {N : Nat} (h : 100 ≤ N) : law03_awake N = some true := by
  obtain ⟨m, rfl⟩ : ∃ m, N = m + 100 := ⟨N - 100, by omega⟩
  exact awake_ok m
theorem few_some {N : Nat} {s : System} (h : FitS N s) : ∃ b, law03_few N s = some b := by
  unfold law03_few
  have hn := h.n.1
  obtain ⟨o, ho, hR⟩ := iter_ex (body := law03_few_L0 N s) s.Tracks.length (fun i q => q.2 = (i : Int)) (fun o => ∀ q, o ≠ .next q) (by
    rintro i ⟨a, b⟩ hi hb
    simp only at hb
    subst hb
    unfold law03_few_L0
    simp only
    by_cases hlt : i < s.Tracks.length
    · simp only [lt_t hlt, cond_true, idx_nat hlt, Option.bind_some]
      cases decide ((s.Tracks[i].Clock.Jumps.length : Int) > 40) with
      | true => exact .inr ⟨_, rfl, (fun _ h => by cases h), fun _ h => by cases h⟩
      | false => exact .inl ⟨_, rfl, by simp only; rw [W64_succ (by omega)], hlt⟩
    · have : i = s.Tracks.length := by omega
      subst this
      simp only [lt_f, cond_false]
      exact .inr ⟨_, rfl, (fun _ h => by cases h), fun _ h => by cases h⟩) s.Tracks.length N 0 (0, 0) (by omega) rfl h.n.2
  rw [ho]
  cases o with
  | next q => exact absurd rfl (hR q)
  | done q => exact ⟨_, rfl⟩
  | ret r => exact ⟨_, rfl⟩
end Go.Proofs.Ythbcnabeabcmlaa
namespace Go.Proofs.Ythbcnabeabcmlaa
abbrev NN : Nat := 9223372036854775808
theorem fitL {α : Type} {l : List α} {Q : Prop} (h : l.length < 9223372036854775808 ∧ Q) : Fit NN l.length := ⟨h.1, h.1⟩
theorem fitT {t : Track} (q : qTrack t) : FitT NN t := ⟨fitL q.1.2.2, fitL q.2⟩
theorem fitS {s : System} (q : qSystem s) : FitS NN s := ⟨fitL q.1, fun t ht => fitT (q.1.2 t ht), fitL q.2.1⟩
end Go.Proofs.Ythbcnabeabcmlaa
namespace Go.Proofs.Ythbcnabeabcmlaa
open Go.Proofs
def law03_ClocksRelations (N : Nat) (x0 : System) (x1 : Ref) (x2 : Ref) : Option Bool :=
 ((law03_awake N ).bind fun r10 => ((law03_few N x0).bind fun r18 => (bif (!r18) then some r10 else ((clocks_Interval N x0 x1).bind fun r29 => ((ref03_Interval N x0 x1).bind fun r42 => ((clocks_Offset N x0 x1).bind fun r55 => ((ref03_Offset N x0 x1).bind fun r68 => ((clocks_Relation N x0 x1 x2).bind fun r81 => ((ref03_Relation N x0 x1 x2).bind fun r94 => (bif ((!((r29.1.Lo == r42.1.Lo) && ((r29.1.Hi == r42.1.Hi) && true))) || ((r29.2 != r42.2) || ((!((r55.1.Lo == r68.1.Lo) && ((r55.1.Hi == r68.1.Hi) && true))) || ((r55.2 != r68.2) || ((!((r81.1.Lo == r94.1.Lo) && ((r81.1.Hi == r94.1.Hi) && true))) || (r81.2 != r94.2)))))) then some false else ((clocks_May N x0 x1 x2).bind fun r160 => ((ref03_May N x0 x1 x2).bind fun r168 => ((clocks_Must N x0 x1 x2).bind fun r176 => ((ref03_Must N x0 x1 x2).bind fun r184 => ((clocks_Before N x0 x1 x2).bind fun r192 => ((ref03_Before N x0 x1 x2).bind fun r200 => some (r10 && ((r160.1 == r168.1) && ((r160.2 == r168.2) && ((r176.1 == r184.1) && ((r176.2 == r184.2) && ((r192.1 == r200.1) && (r192.2 == r200.2)))))))))))))))))))))))
theorem co_law03_ClocksRelations : CallOk Try.prog 5 := fun _ _ => by kernel_rfl
set_option maxHeartbeats 4000000 in
set_option maxRecDepth 100000 in
theorem c_law03_ClocksRelations (N : Nat) (w0 : World) (F0 : Mem) (hF : ∀ b o, F0 b = some o → w0.heap[b]? = some o) (x0 : System) (a0_0 : Option Addr) (n0_0 : Nat) (hb0_0 : LC x0.Tracks.length n0_0) (hs0_0 : SlA tTrack F0 a0_0 x0.Tracks) (a0_1 : Option Addr) (n0_1 : Nat) (hb0_1 : LC x0.Ties.length n0_1) (hs0_1 : SlA tTie F0 a0_1 x0.Ties) (x1 : Ref) (x2 : Ref) (r : Bool) (h : law03_ClocksRelations N x0 x1 x2 = some r) :
  Calls Try.prog 5 ([(.agg (kSystem x0 a0_0 n0_0 a0_1 n0_1)), (.agg (kRef x1)), (.agg (kRef x2))] : List Value).toArray w0 (FRet w0 F0 fun F' v => v = (.bool r)) := by
 have hs0 := HS.start hF
 refine calls_of (n := 176) (c := bodyOf Try.f5) Try.func5 (by kernel_rfl) (by kernel_rfl) (by kernel_rfl) ?_
 refine Sq (Rg [0, 1, 2, 3] ?_)
 refine Bx 3 0 0 25 (kSystem x0 a0_0 n0_0 a0_1 n0_1) hs0 (fun b1 w2 (hs3 : HS w0 F0 w2 F0 [(sb b1 (kSystem x0 a0_0 n0_0 a0_1 n0_1) 25)]) => ?_)
 refine Bx 4 0 1 27 (kRef x1) hs3 (fun b4 w5 (hs6 : HS w0 F0 w5 F0 [(sb b4 (kRef x1) 27), (sb b1 (kSystem x0 a0_0 n0_0 a0_1 n0_1) 25)]) => ?_)
 refine Bx 5 0 2 27 (kRef x2) hs6 (fun b7 w8 (hs9 : HS w0 F0 w8 F0 [(sb b7 (kRef x2) 27), (sb b4 (kRef x1) 27), (sb b1 (kSystem x0 a0_0 n0_0 a0_1 n0_1) 25)]) => ?_)
 refine V 6 4 (mc (.bool false) (.bool false)) ?_
 refine Nss (Rg [0, 1] ?_)
 obtain ⟨r10, hr11, h12⟩ := bind_some h
 refine Cl 32 4 15 #[] #[] co_law03_awake hs9 (c_law03_awake N w8 F0 hs9.pers  _ hr11) ?_
 intro v13 F1 w14 hs15 le16 hp17
 obtain rfl := hp17
 refine V 7 4 (ma 32 (.bool r10)) ?_
 refine Nss ?_
 refine Sq (Rg [0, 1, 2] ?_)
 refine V 33 25 (ld 25 3 b1 0 true 3 (.agg (kSystem x0 a0_0 n0_0 a0_1 n0_1)) (hs15.ownAt (k := 2) rfl)) ?_
 obtain ⟨r18, hr19, h20⟩ := bind_some h12
 refine Cl 34 4 16 #[(.tmp 33)] #[25] co_law03_few hs15 (c_law03_few N w14 F1 hs15.pers (x0) a0_0 n0_0 hb0_0 (SlA.mono hs0_0 le16) a0_1 n0_1 hb0_1 (SlA.mono hs0_1 le16) _ hr19) ?_
 intro v21 F2 w22 hs23 le24 hp25
 obtain rfl := hp25
 refine V 35 4 (run_not (t := 4) (x := (.tmp 34)) (a := r18) rfl) ?_
 refine Nt ?_
 refine CWP.cond (t := (!r18)) (by kernel_rfl) rfl (fun hb26 => ?_) (fun hb26 => ?_)
 ·have h27 := cond_t h20 hb26
  refine Sq (Rg [0, 1] ?_)
  refine V 36 4 (mv 7 (.bool r10)) ?_
  refine V 6 4 (ma 36 (.bool r10)) ?_
  refine Nt ?_
  refine CWP.ret (by kernel_rfl) ?_
  refine thenQ_ret ?_
  have hfin := some_inj h27
  subst hfin
  exact ⟨rfl, (.bool r10), res_of (l := [.tmp 6]) (by kernel_rfl) (vs := [(.bool r10)]) ⟨rfl, trivial⟩, (.bool r10), F2, rfl, hs23.clear, rfl⟩
 ·have h28 := cond_f h20 hb26
  refine Sc ?_
  refine thenQ_nrm ?_
  refine Sq (Rg [0, 1, 2, 3, 4, 5, 6, 7, 8] ?_)
  refine V 38 25 (ld 25 3 b1 0 true 3 (.agg (kSystem x0 a0_0 n0_0 a0_1 n0_1)) (hs23.ownAt (k := 2) rfl)) ?_
  refine V 39 27 (ld 27 4 b4 0 true 2 (.agg (kRef x1)) (hs23.ownAt (k := 1) rfl)) ?_
  obtain ⟨r29, hr30, h31⟩ := bind_some h28
  refine Cl 40 39 21 #[(.tmp 38), (.tmp 39)] #[25, 27] co_clocks_Interval hs23 (c_clocks_Interval N w22 F2 hs23.pers (x0) a0_0 n0_0 hb0_0 (SlA.mono hs0_0 (le16.trans le24)) a0_1 n0_1 hb0_1 (SlA.mono hs0_1 (le16.trans le24)) (x1) _ hr30) ?_
  intro v32 F3 w33 hs34 le35 hp36
  obtain rfl := hp36
  refine V 37 39 (mv 40 (.tuple #[(.agg (kSpan r29.1)), (vi r29.2)])) ?_
  refine V 41 38 (ex 37 0 (.agg (kSpan r29.1)) (vs := #[(.agg (kSpan r29.1)), (vi r29.2)])) ?_
  refine V 42 30 (ex 37 1 (vi r29.2) (vs := #[(.agg (kSpan r29.1)), (vi r29.2)])) ?_
  refine Al 8 0 38 #[(vi 0), (vi 0)] hs34 (fun b37 w38 (hs39 : HS w0 F0 w38 F3 [(sb b37 #[(vi 0), (vi 0)] 38), (sb b7 (kRef x2) 27), (sb b4 (kRef x1) 27), (sb b1 (kSystem x0 a0_0 n0_0 a0_1 n0_1) 25)]) => ?_)
  refine RWP.store (ty := 0) (g := none) (by kernel_rfl) rfl (x := (.tmp 8)) (y := (.tmp 41)) (t := 38) (gg := true) (s := 2) (v := (.agg (kSpan r29.1))) (b := b37) (o := 0) (C := #[(vi 0), (vi 0)]) rfl rfl (by kernel_rfl) hs39 (k := 0) rfl rfl rfl rfl (C' := (kSpan r29.1)) rfl (fun w40 (hs41 : HS w0 F0 w40 F3 [(sb b37 (kSpan r29.1) 38), (sb b7 (kRef x2) 27), (sb b4 (kRef x1) 27), (sb b1 (kSystem x0 a0_0 n0_0 a0_1 n0_1) 25)]) => ?_)
  refine V 9 30 (ma 42 (vi r29.2)) ?_
  refine Nss (Rg [0, 1, 2, 3, 4, 5, 6, 7, 8] ?_)
  refine V 44 25 (ld 25 3 b1 0 true 3 (.agg (kSystem x0 a0_0 n0_0 a0_1 n0_1)) (hs41.ownAt (k := 3) rfl)) ?_
  refine V 45 27 (ld 27 4 b4 0 true 2 (.agg (kRef x1)) (hs41.ownAt (k := 2) rfl)) ?_
  obtain ⟨r42, hr43, h44⟩ := bind_some h31
  refine Cl 46 39 23 #[(.tmp 44), (.tmp 45)] #[25, 27] co_ref03_Interval hs41 (c_ref03_Interval N w40 F3 hs41.pers (x0) a0_0 n0_0 hb0_0 (SlA.mono hs0_0 ((le16.trans le24).trans le35)) a0_1 n0_1 hb0_1 (SlA.mono hs0_1 ((le16.trans le24).trans le35)) (x1) _ hr43) ?_
  intro v45 F4 w46 hs47 le48 hp49
  obtain rfl := hp49
  refine V 43 39 (mv 46 (.tuple #[(.agg (kSpan r42.1)), (vi r42.2)])) ?_
  refine V 47 38 (ex 43 0 (.agg (kSpan r42.1)) (vs := #[(.agg (kSpan r42.1)), (vi r42.2)])) ?_
  refine V 48 30 (ex 43 1 (vi r42.2) (vs := #[(.agg (kSpan r42.1)), (vi r42.2)])) ?_
  refine Al 10 0 38 #[(vi 0), (vi 0)] hs47 (fun b50 w51 (hs52 : HS w0 F0 w51 F4 [(sb b50 #[(vi 0), (vi 0)] 38), (sb b37 (kSpan r29.1) 38), (sb b7 (kRef x2) 27), (sb b4 (kRef x1) 27), (sb b1 (kSystem x0 a0_0 n0_0 a0_1 n0_1) 25)]) => ?_)
  refine RWP.store (ty := 0) (g := none) (by kernel_rfl) rfl (x := (.tmp 10)) (y := (.tmp 47)) (t := 38) (gg := true) (s := 2) (v := (.agg (kSpan r42.1))) (b := b50) (o := 0) (C := #[(vi 0), (vi 0)]) rfl rfl (by kernel_rfl) hs52 (k := 0) rfl rfl rfl rfl (C' := (kSpan r42.1)) rfl (fun w53 (hs54 : HS w0 F0 w53 F4 [(sb b50 (kSpan r42.1) 38), (sb b37 (kSpan r29.1) 38), (sb b7 (kRef x2) 27), (sb b4 (kRef x1) 27), (sb b1 (kSystem x0 a0_0 n0_0 a0_1 n0_1) 25)]) => ?_)
  refine V 11 30 (ma 48 (vi r42.2)) ?_
  refine Nss (Rg [0, 1, 2, 3, 4, 5, 6, 7, 8] ?_)
  refine V 50 25 (ld 25 3 b1 0 true 3 (.agg (kSystem x0 a0_0 n0_0 a0_1 n0_1)) (hs54.ownAt (k := 4) rfl)) ?_
  refine V 51 27 (ld 27 4 b4 0 true 2 (.agg (kRef x1)) (hs54.ownAt (k := 3) rfl)) ?_
  obtain ⟨r55, hr56, h57⟩ := bind_some h44
  refine Cl 52 39 24 #[(.tmp 50), (.tmp 51)] #[25, 27] co_clocks_Offset hs54 (c_clocks_Offset N w53 F4 hs54.pers (x0) a0_0 n0_0 hb0_0 (SlA.mono hs0_0 (((le16.trans le24).trans le35).trans le48)) a0_1 n0_1 hb0_1 (SlA.mono hs0_1 (((le16.trans le24).trans le35).trans le48)) (x1) _ hr56) ?_
  intro v58 F5 w59 hs60 le61 hp62
  obtain rfl := hp62
  refine V 49 39 (mv 52 (.tuple #[(.agg (kSpan r55.1)), (vi r55.2)])) ?_
  refine V 53 38 (ex 49 0 (.agg (kSpan r55.1)) (vs := #[(.agg (kSpan r55.1)), (vi r55.2)])) ?_
  refine V 54 30 (ex 49 1 (vi r55.2) (vs := #[(.agg (kSpan r55.1)), (vi r55.2)])) ?_
  refine Al 12 0 38 #[(vi 0), (vi 0)] hs60 (fun b63 w64 (hs65 : HS w0 F0 w64 F5 [(sb b63 #[(vi 0), (vi 0)] 38), (sb b50 (kSpan r42.1) 38), (sb b37 (kSpan r29.1) 38), (sb b7 (kRef x2) 27), (sb b4 (kRef x1) 27), (sb b1 (kSystem x0 a0_0 n0_0 a0_1 n0_1) 25)]) => ?_)
  refine RWP.store (ty := 0) (g := none) (by kernel_rfl) rfl (x := (.tmp 12)) (y := (.tmp 53)) (t := 38) (gg := true) (s := 2) (v := (.agg (kSpan r55.1))) (b := b63) (o := 0) (C := #[(vi 0), (vi 0)]) rfl rfl (by kernel_rfl) hs65 (k := 0) rfl rfl rfl rfl (C' := (kSpan r55.1)) rfl (fun w66 (hs67 : HS w0 F0 w66 F5 [(sb b63 (kSpan r55.1) 38), (sb b50 (kSpan r42.1) 38), (sb b37 (kSpan r29.1) 38), (sb b7 (kRef x2) 27), (sb b4 (kRef x1) 27), (sb b1 (kSystem x0 a0_0 n0_0 a0_1 n0_1) 25)]) => ?_)
  refine V 13 30 (ma 54 (vi r55.2)) ?_
  refine Nss (Rg [0, 1, 2, 3, 4, 5, 6, 7, 8] ?_)
  refine V 56 25 (ld 25 3 b1 0 true 3 (.agg (kSystem x0 a0_0 n0_0 a0_1 n0_1)) (hs67.ownAt (k := 5) rfl)) ?_
  refine V 57 27 (ld 27 4 b4 0 true 2 (.agg (kRef x1)) (hs67.ownAt (k := 4) rfl)) ?_
  obtain ⟨r68, hr69, h70⟩ := bind_some h57
  refine Cl 58 39 25 #[(.tmp 56), (.tmp 57)] #[25, 27] co_ref03_Offset hs67 (c_ref03_Offset N w66 F5 hs67.pers (x0) a0_0 n0_0 hb0_0 (SlA.mono hs0_0 ((((le16.trans le24).trans le35).trans le48).trans le61)) a0_1 n0_1 hb0_1 (SlA.mono hs0_1 ((((le16.trans le24).trans le35).trans le48).trans le61)) (x1) _ hr69) ?_
  intro v71 F6 w72 hs73 le74 hp75
  obtain rfl := hp75
  refine V 55 39 (mv 58 (.tuple #[(.agg (kSpan r68.1)), (vi r68.2)])) ?_
  refine V 59 38 (ex 55 0 (.agg (kSpan r68.1)) (vs := #[(.agg (kSpan r68.1)), (vi r68.2)])) ?_
  refine V 60 30 (ex 55 1 (vi r68.2) (vs := #[(.agg (kSpan r68.1)), (vi r68.2)])) ?_
  refine Al 14 0 38 #[(vi 0), (vi 0)] hs73 (fun b76 w77 (hs78 : HS w0 F0 w77 F6 [(sb b76 #[(vi 0), (vi 0)] 38), (sb b63 (kSpan r55.1) 38), (sb b50 (kSpan r42.1) 38), (sb b37 (kSpan r29.1) 38), (sb b7 (kRef x2) 27), (sb b4 (kRef x1) 27), (sb b1 (kSystem x0 a0_0 n0_0 a0_1 n0_1) 25)]) => ?_)
  refine RWP.store (ty := 0) (g := none) (by kernel_rfl) rfl (x := (.tmp 14)) (y := (.tmp 59)) (t := 38) (gg := true) (s := 2) (v := (.agg (kSpan r68.1))) (b := b76) (o := 0) (C := #[(vi 0), (vi 0)]) rfl rfl (by kernel_rfl) hs78 (k := 0) rfl rfl rfl rfl (C' := (kSpan r68.1)) rfl (fun w79 (hs80 : HS w0 F0 w79 F6 [(sb b76 (kSpan r68.1) 38), (sb b63 (kSpan r55.1) 38), (sb b50 (kSpan r42.1) 38), (sb b37 (kSpan r29.1) 38), (sb b7 (kRef x2) 27), (sb b4 (kRef x1) 27), (sb b1 (kSystem x0 a0_0 n0_0 a0_1 n0_1) 25)]) => ?_)
  refine V 15 30 (ma 60 (vi r68.2)) ?_
  refine Nss (Rg [0, 1, 2, 3, 4, 5, 6, 7, 8, 9] ?_)
  refine V 62 25 (ld 25 3 b1 0 true 3 (.agg (kSystem x0 a0_0 n0_0 a0_1 n0_1)) (hs80.ownAt (k := 6) rfl)) ?_
  refine V 63 27 (ld 27 4 b4 0 true 2 (.agg (kRef x1)) (hs80.ownAt (k := 5) rfl)) ?_
  refine V 64 27 (ld 27 5 b7 0 true 2 (.agg (kRef x2)) (hs80.ownAt (k := 4) rfl)) ?_
  obtain ⟨r81, hr82, h83⟩ := bind_some h70
  refine Cl 65 39 20 #[(.tmp 62), (.tmp 63), (.tmp 64)] #[25, 27, 27] co_clocks_Relation hs80 (c_clocks_Relation N w79 F6 hs80.pers (x0) a0_0 n0_0 hb0_0 (SlA.mono hs0_0 (((((le16.trans le24).trans le35).trans le48).trans le61).trans le74)) a0_1 n0_1 hb0_1 (SlA.mono hs0_1 (((((le16.trans le24).trans le35).trans le48).trans le61).trans le74)) (x1) (x2) _ hr82) ?_
  intro v84 F7 w85 hs86 le87 hp88
  obtain rfl := hp88
  refine V 61 39 (mv 65 (.tuple #[(.agg (kSpan r81.1)), (vi r81.2)])) ?_
  refine V 66 38 (ex 61 0 (.agg (kSpan r81.1)) (vs := #[(.agg (kSpan r81.1)), (vi r81.2)])) ?_
  refine V 67 30 (ex 61 1 (vi r81.2) (vs := #[(.agg (kSpan r81.1)), (vi r81.2)])) ?_
  refine Al 16 0 38 #[(vi 0), (vi 0)] hs86 (fun b89 w90 (hs91 : HS w0 F0 w90 F7 [(sb b89 #[(vi 0), (vi 0)] 38), (sb b76 (kSpan r68.1) 38), (sb b63 (kSpan r55.1) 38), (sb b50 (kSpan r42.1) 38), (sb b37 (kSpan r29.1) 38), (sb b7 (kRef x2) 27), (sb b4 (kRef x1) 27), (sb b1 (kSystem x0 a0_0 n0_0 a0_1 n0_1) 25)]) => ?_)
  refine RWP.store (ty := 0) (g := none) (by kernel_rfl) rfl (x := (.tmp 16)) (y := (.tmp 66)) (t := 38) (gg := true) (s := 2) (v := (.agg (kSpan r81.1))) (b := b89) (o := 0) (C := #[(vi 0), (vi 0)]) rfl rfl (by kernel_rfl) hs91 (k := 0) rfl rfl rfl rfl (C' := (kSpan r81.1)) rfl (fun w92 (hs93 : HS w0 F0 w92 F7 [(sb b89 (kSpan r81.1) 38), (sb b76 (kSpan r68.1) 38), (sb b63 (kSpan r55.1) 38), (sb b50 (kSpan r42.1) 38), (sb b37 (kSpan r29.1) 38), (sb b7 (kRef x2) 27), (sb b4 (kRef x1) 27), (sb b1 (kSystem x0 a0_0 n0_0 a0_1 n0_1) 25)]) => ?_)
  refine V 17 30 (ma 67 (vi r81.2)) ?_
  refine Nss (Rg [0, 1, 2, 3, 4, 5, 6, 7, 8, 9] ?_)
  refine V 69 25 (ld 25 3 b1 0 true 3 (.agg (kSystem x0 a0_0 n0_0 a0_1 n0_1)) (hs93.ownAt (k := 7) rfl)) ?_
  refine V 70 27 (ld 27 4 b4 0 true 2 (.agg (kRef x1)) (hs93.ownAt (k := 6) rfl)) ?_
  refine V 71 27 (ld 27 5 b7 0 true 2 (.agg (kRef x2)) (hs93.ownAt (k := 5) rfl)) ?_
  obtain ⟨r94, hr95, h96⟩ := bind_some h83
  refine Cl 72 39 26 #[(.tmp 69), (.tmp 70), (.tmp 71)] #[25, 27, 27] co_ref03_Relation hs93 (c_ref03_Relation N w92 F7 hs93.pers (x0) a0_0 n0_0 hb0_0 (SlA.mono hs0_0 ((((((le16.trans le24).trans le35).trans le48).trans le61).trans le74).trans le87)) a0_1 n0_1 hb0_1 (SlA.mono hs0_1 ((((((le16.trans le24).trans le35).trans le48).trans le61).trans le74).trans le87)) (x1) (x2) _ hr95) ?_
  intro v97 F8 w98 hs99 le100 hp101
  obtain rfl := hp101
  refine V 68 39 (mv 72 (.tuple #[(.agg (kSpan r94.1)), (vi r94.2)])) ?_
  refine V 73 38 (ex 68 0 (.agg (kSpan r94.1)) (vs := #[(.agg (kSpan r94.1)), (vi r94.2)])) ?_
  refine V 74 30 (ex 68 1 (vi r94.2) (vs := #[(.agg (kSpan r94.1)), (vi r94.2)])) ?_
  refine Al 18 0 38 #[(vi 0), (vi 0)] hs99 (fun b102 w103 (hs104 : HS w0 F0 w103 F8 [(sb b102 #[(vi 0), (vi 0)] 38), (sb b89 (kSpan r81.1) 38), (sb b76 (kSpan r68.1) 38), (sb b63 (kSpan r55.1) 38), (sb b50 (kSpan r42.1) 38), (sb b37 (kSpan r29.1) 38), (sb b7 (kRef x2) 27), (sb b4 (kRef x1) 27), (sb b1 (kSystem x0 a0_0 n0_0 a0_1 n0_1) 25)]) => ?_)
  refine RWP.store (ty := 0) (g := none) (by kernel_rfl) rfl (x := (.tmp 18)) (y := (.tmp 73)) (t := 38) (gg := true) (s := 2) (v := (.agg (kSpan r94.1))) (b := b102) (o := 0) (C := #[(vi 0), (vi 0)]) rfl rfl (by kernel_rfl) hs104 (k := 0) rfl rfl rfl rfl (C' := (kSpan r94.1)) rfl (fun w105 (hs106 : HS w0 F0 w105 F8 [(sb b102 (kSpan r94.1) 38), (sb b89 (kSpan r81.1) 38), (sb b76 (kSpan r68.1) 38), (sb b63 (kSpan r55.1) 38), (sb b50 (kSpan r42.1) 38), (sb b37 (kSpan r29.1) 38), (sb b7 (kRef x2) 27), (sb b4 (kRef x1) 27), (sb b1 (kSystem x0 a0_0 n0_0 a0_1 n0_1) 25)]) => ?_)
  refine V 19 30 (ma 74 (vi r94.2)) ?_
  refine Nss ?_
  refine Sq (Rg [0, 1, 2, 3, 4, 5, 6, 7, 8, 9, 10, 11, 12, 13, 14, 15, 16, 17, 18, 19, 20, 21, 22, 23, 24, 25, 26, 27] ?_)
  refine RWP.cut (fun f w => ∃ (F9 : Mem), HS w0 F0 w F9 [(sb b7 (kRef x2) 27), (sb b4 (kRef x1) 27), (sb b1 (kSystem x0 a0_0 n0_0 a0_1 n0_1) 25)] ∧ Mem.le F8 F9 ∧ f.d = [] ∧ f 3 = (.pointer (some ⟨b1, 0, none⟩)) ∧ f 4 = (.pointer (some ⟨b4, 0, none⟩)) ∧ f 5 = (.pointer (some ⟨b7, 0, none⟩)) ∧ f 7 = (.bool r10) ∧ f 102 = (.bool ((!((r29.1.Lo == r42.1.Lo) && ((r29.1.Hi == r42.1.Hi) && true))) || ((r29.2 != r42.2) || ((!((r55.1.Lo == r68.1.Lo) && ((r55.1.Hi == r68.1.Hi) && true))) || ((r55.2 != r68.2) || ((!((r81.1.Lo == r94.1.Lo) && ((r81.1.Hi == r94.1.Hi) && true))) || (r81.2 != r94.2)))))))) ?_ ?_
  ·refine V 75 38 (ld 38 8 b37 0 true 2 (.agg (kSpan r29.1)) (hs106.ownAt (k := 5) rfl)) ?_
   refine V 76 38 (ld 38 10 b50 0 true 2 (.agg (kSpan r42.1)) (hs106.ownAt (k := 4) rfl)) ?_
   refine V 77 4 (run_nes (t := 38) (t' := 38) (x := (.tmp 75)) (y := (.tmp 76)) (xs := (kSpan r29.1)) (ys := (kSpan r42.1)) (b := ((r29.1.Lo == r42.1.Lo) && ((r29.1.Hi == r42.1.Hi) && true))) rfl rfl (by kernel_rfl) (by kernel_rfl)) ?_
   refine V 78 4 (mv 77 (.bool (!((r29.1.Lo == r42.1.Lo) && ((r29.1.Hi == r42.1.Hi) && true))))) ?_
   refine RWP.split (!((r29.1.Lo == r42.1.Lo) && ((r29.1.Hi == r42.1.Hi) && true))) (fun hb116 => ?_) (fun hb116 => ?_)
   ·refine Sk [79, 80, 81] 3 false 78 hb116 ?_
    refine V 82 4 (p1 78 (.const (.bool true)) (.tmp 81) (.bool true) hb116) ?_
    refine V 83 4 (mv 82 (.bool true)) ?_
    refine Sk [84, 85, 86] 8 false 83 rfl ?_
    refine V 87 4 (p1 83 (.const (.bool true)) (.tmp 86) (.bool true) rfl) ?_
    refine V 88 4 (mv 87 (.bool true)) ?_
    refine Sk [89, 90, 91] 13 false 88 rfl ?_
    refine V 92 4 (p1 88 (.const (.bool true)) (.tmp 91) (.bool true) rfl) ?_
    refine V 93 4 (mv 92 (.bool true)) ?_
    refine Sk [94, 95, 96] 18 false 93 rfl ?_
    refine V 97 4 (p1 93 (.const (.bool true)) (.tmp 96) (.bool true) rfl) ?_
    refine V 98 4 (mv 97 (.bool true)) ?_
    refine Sk [99, 100, 101] 23 false 98 rfl ?_
    refine V 102 4 (p1 98 (.const (.bool true)) (.tmp 101) (.bool true) rfl) ?_
    have hs117 : HS w0 F0 w105 F8 [(sb b89 (kSpan r81.1) 38), (sb b76 (kSpan r68.1) 38), (sb b63 (kSpan r55.1) 38), (sb b50 (kSpan r42.1) 38), (sb b37 (kSpan r29.1) 38), (sb b7 (kRef x2) 27), (sb b4 (kRef x1) 27), (sb b1 (kSystem x0 a0_0 n0_0 a0_1 n0_1) 25)] := hs106.drop 0
    have hs118 : HS w0 F0 w105 F8 [(sb b76 (kSpan r68.1) 38), (sb b63 (kSpan r55.1) 38), (sb b50 (kSpan r42.1) 38), (sb b37 (kSpan r29.1) 38), (sb b7 (kRef x2) 27), (sb b4 (kRef x1) 27), (sb b1 (kSystem x0 a0_0 n0_0 a0_1 n0_1) 25)] := hs117.drop 0
    have hs119 : HS w0 F0 w105 F8 [(sb b63 (kSpan r55.1) 38), (sb b50 (kSpan r42.1) 38), (sb b37 (kSpan r29.1) 38), (sb b7 (kRef x2) 27), (sb b4 (kRef x1) 27), (sb b1 (kSystem x0 a0_0 n0_0 a0_1 n0_1) 25)] := hs118.drop 0
    have hs120 : HS w0 F0 w105 F8 [(sb b50 (kSpan r42.1) 38), (sb b37 (kSpan r29.1) 38), (sb b7 (kRef x2) 27), (sb b4 (kRef x1) 27), (sb b1 (kSystem x0 a0_0 n0_0 a0_1 n0_1) 25)] := hs119.drop 0
    have hs121 : HS w0 F0 w105 F8 [(sb b37 (kSpan r29.1) 38), (sb b7 (kRef x2) 27), (sb b4 (kRef x1) 27), (sb b1 (kSystem x0 a0_0 n0_0 a0_1 n0_1) 25)] := hs120.drop 0
    have hs122 : HS w0 F0 w105 F8 [(sb b7 (kRef x2) 27), (sb b4 (kRef x1) 27), (sb b1 (kSystem x0 a0_0 n0_0 a0_1 n0_1) 25)] := hs121.drop 0
    exact RWP.nil ⟨rfl, F8, hs122, (Mem.le.refl _), rfl, rfl, rfl, rfl, rfl, (congrArg Value.bool (or_t hb116 (rfl)))⟩
   ·refine Vg 79 30 3 false 78 hb116 (mv 9 (vi r29.2)) ?_
    refine Vg 80 30 3 false 78 hb116 (mv 11 (vi r42.2)) ?_
    refine Vg 81 4 3 false 78 hb116 (run_neq (t := 30) (t' := 30) (x := (.tmp 79)) (y := (.tmp 80)) (k := .i64) (a := r29.2) (b := r42.2) rfl rfl) ?_
    refine V 82 4 (p0 78 (.const (.bool true)) (.tmp 81) (.bool (r29.2 != r42.2)) hb116) ?_
    refine V 83 4 (mv 82 (.bool (r29.2 != r42.2))) ?_
    refine RWP.split (r29.2 != r42.2) (fun hb123 => ?_) (fun hb123 => ?_)
    ·refine Sk [84, 85, 86] 8 false 83 hb123 ?_
     refine V 87 4 (p1 83 (.const (.bool true)) (.tmp 86) (.bool true) hb123) ?_
     refine V 88 4 (mv 87 (.bool true)) ?_
     refine Sk [89, 90, 91] 13 false 88 rfl ?_
     refine V 92 4 (p1 88 (.const (.bool true)) (.tmp 91) (.bool true) rfl) ?_
     refine V 93 4 (mv 92 (.bool true)) ?_
     refine Sk [94, 95, 96] 18 false 93 rfl ?_
     refine V 97 4 (p1 93 (.const (.bool true)) (.tmp 96) (.bool true) rfl) ?_
     refine V 98 4 (mv 97 (.bool true)) ?_
     refine Sk [99, 100, 101] 23 false 98 rfl ?_
     refine V 102 4 (p1 98 (.const (.bool true)) (.tmp 101) (.bool true) rfl) ?_
     have hs124 : HS w0 F0 w105 F8 [(sb b89 (kSpan r81.1) 38), (sb b76 (kSpan r68.1) 38), (sb b63 (kSpan r55.1) 38), (sb b50 (kSpan r42.1) 38), (sb b37 (kSpan r29.1) 38), (sb b7 (kRef x2) 27), (sb b4 (kRef x1) 27), (sb b1 (kSystem x0 a0_0 n0_0 a0_1 n0_1) 25)] := hs106.drop 0
     have hs125 : HS w0 F0 w105 F8 [(sb b76 (kSpan r68.1) 38), (sb b63 (kSpan r55.1) 38), (sb b50 (kSpan r42.1) 38), (sb b37 (kSpan r29.1) 38), (sb b7 (kRef x2) 27), (sb b4 (kRef x1) 27), (sb b1 (kSystem x0 a0_0 n0_0 a0_1 n0_1) 25)] := hs124.drop 0
     have hs126 : HS w0 F0 w105 F8 [(sb b63 (kSpan r55.1) 38), (sb b50 (kSpan r42.1) 38), (sb b37 (kSpan r29.1) 38), (sb b7 (kRef x2) 27), (sb b4 (kRef x1) 27), (sb b1 (kSystem x0 a0_0 n0_0 a0_1 n0_1) 25)] := hs125.drop 0
     have hs127 : HS w0 F0 w105 F8 [(sb b50 (kSpan r42.1) 38), (sb b37 (kSpan r29.1) 38), (sb b7 (kRef x2) 27), (sb b4 (kRef x1) 27), (sb b1 (kSystem x0 a0_0 n0_0 a0_1 n0_1) 25)] := hs126.drop 0
     have hs128 : HS w0 F0 w105 F8 [(sb b37 (kSpan r29.1) 38), (sb b7 (kRef x2) 27), (sb b4 (kRef x1) 27), (sb b1 (kSystem x0 a0_0 n0_0 a0_1 n0_1) 25)] := hs127.drop 0
     have hs129 : HS w0 F0 w105 F8 [(sb b7 (kRef x2) 27), (sb b4 (kRef x1) 27), (sb b1 (kSystem x0 a0_0 n0_0 a0_1 n0_1) 25)] := hs128.drop 0
     exact RWP.nil ⟨rfl, F8, hs129, (Mem.le.refl _), rfl, rfl, rfl, rfl, rfl, (congrArg Value.bool (or_f hb116 (or_t hb123 (rfl))))⟩
    ·refine Vg 84 38 8 false 83 hb123 (ld 38 12 b63 0 true 2 (.agg (kSpan r55.1)) (hs106.ownAt (k := 3) rfl)) ?_
     refine Vg 85 38 8 false 83 hb123 (ld 38 14 b76 0 true 2 (.agg (kSpan r68.1)) (hs106.ownAt (k := 2) rfl)) ?_
     refine Vg 86 4 8 false 83 hb123 (run_nes (t := 38) (t' := 38) (x := (.tmp 84)) (y := (.tmp 85)) (xs := (kSpan r55.1)) (ys := (kSpan r68.1)) (b := ((r55.1.Lo == r68.1.Lo) && ((r55.1.Hi == r68.1.Hi) && true))) rfl rfl (by kernel_rfl) (by kernel_rfl)) ?_
     refine V 87 4 (p0 83 (.const (.bool true)) (.tmp 86) (.bool (!((r55.1.Lo == r68.1.Lo) && ((r55.1.Hi == r68.1.Hi) && true)))) hb123) ?_
     refine V 88 4 (mv 87 (.bool (!((r55.1.Lo == r68.1.Lo) && ((r55.1.Hi == r68.1.Hi) && true))))) ?_
     refine RWP.split (!((r55.1.Lo == r68.1.Lo) && ((r55.1.Hi == r68.1.Hi) && true))) (fun hb130 => ?_) (fun hb130 => ?_)
     ·refine Sk [89, 90, 91] 13 false 88 hb130 ?_
      refine V 92 4 (p1 88 (.const (.bool true)) (.tmp 91) (.bool true) hb130) ?_
      refine V 93 4 (mv 92 (.bool true)) ?_
      refine Sk [94, 95, 96] 18 false 93 rfl ?_
      refine V 97 4 (p1 93 (.const (.bool true)) (.tmp 96) (.bool true) rfl) ?_
      refine V 98 4 (mv 97 (.bool true)) ?_
      refine Sk [99, 100, 101] 23 false 98 rfl ?_
      refine V 102 4 (p1 98 (.const (.bool true)) (.tmp 101) (.bool true) rfl) ?_
      have hs131 : HS w0 F0 w105 F8 [(sb b89 (kSpan r81.1) 38), (sb b76 (kSpan r68.1) 38), (sb b63 (kSpan r55.1) 38), (sb b50 (kSpan r42.1) 38), (sb b37 (kSpan r29.1) 38), (sb b7 (kRef x2) 27), (sb b4 (kRef x1) 27), (sb b1 (kSystem x0 a0_0 n0_0 a0_1 n0_1) 25)] := hs106.drop 0
      have hs132 : HS w0 F0 w105 F8 [(sb b76 (kSpan r68.1) 38), (sb b63 (kSpan r55.1) 38), (sb b50 (kSpan r42.1) 38), (sb b37 (kSpan r29.1) 38), (sb b7 (kRef x2) 27), (sb b4 (kRef x1) 27), (sb b1 (kSystem x0 a0_0 n0_0 a0_1 n0_1) 25)] := hs131.drop 0
      have hs133 : HS w0 F0 w105 F8 [(sb b63 (kSpan r55.1) 38), (sb b50 (kSpan r42.1) 38), (sb b37 (kSpan r29.1) 38), (sb b7 (kRef x2) 27), (sb b4 (kRef x1) 27), (sb b1 (kSystem x0 a0_0 n0_0 a0_1 n0_1) 25)] := hs132.drop 0
      have hs134 : HS w0 F0 w105 F8 [(sb b50 (kSpan r42.1) 38), (sb b37 (kSpan r29.1) 38), (sb b7 (kRef x2) 27), (sb b4 (kRef x1) 27), (sb b1 (kSystem x0 a0_0 n0_0 a0_1 n0_1) 25)] := hs133.drop 0
      have hs135 : HS w0 F0 w105 F8 [(sb b37 (kSpan r29.1) 38), (sb b7 (kRef x2) 27), (sb b4 (kRef x1) 27), (sb b1 (kSystem x0 a0_0 n0_0 a0_1 n0_1) 25)] := hs134.drop 0
      have hs136 : HS w0 F0 w105 F8 [(sb b7 (kRef x2) 27), (sb b4 (kRef x1) 27), (sb b1 (kSystem x0 a0_0 n0_0 a0_1 n0_1) 25)] := hs135.drop 0
      exact RWP.nil ⟨rfl, F8, hs136, (Mem.le.refl _), rfl, rfl, rfl, rfl, rfl, (congrArg Value.bool (or_f hb116 (or_f hb123 (or_t hb130 (rfl)))))⟩
     ·refine Vg 89 30 13 false 88 hb130 (mv 13 (vi r55.2)) ?_
      refine Vg 90 30 13 false 88 hb130 (mv 15 (vi r68.2)) ?_
      refine Vg 91 4 13 false 88 hb130 (run_neq (t := 30) (t' := 30) (x := (.tmp 89)) (y := (.tmp 90)) (k := .i64) (a := r55.2) (b := r68.2) rfl rfl) ?_
      refine V 92 4 (p0 88 (.const (.bool true)) (.tmp 91) (.bool (r55.2 != r68.2)) hb130) ?_
      refine V 93 4 (mv 92 (.bool (r55.2 != r68.2))) ?_
      refine RWP.split (r55.2 != r68.2) (fun hb137 => ?_) (fun hb137 => ?_)
      ·refine Sk [94, 95, 96] 18 false 93 hb137 ?_
       refine V 97 4 (p1 93 (.const (.bool true)) (.tmp 96) (.bool true) hb137) ?_
       refine V 98 4 (mv 97 (.bool true)) ?_
       refine Sk [99, 100, 101] 23 false 98 rfl ?_
       refine V 102 4 (p1 98 (.const (.bool true)) (.tmp 101) (.bool true) rfl) ?_
       have hs138 : HS w0 F0 w105 F8 [(sb b89 (kSpan r81.1) 38), (sb b76 (kSpan r68.1) 38), (sb b63 (kSpan r55.1) 38), (sb b50 (kSpan r42.1) 38), (sb b37 (kSpan r29.1) 38), (sb b7 (kRef x2) 27), (sb b4 (kRef x1) 27), (sb b1 (kSystem x0 a0_0 n0_0 a0_1 n0_1) 25)] := hs106.drop 0
       have hs139 : HS w0 F0 w105 F8 [(sb b76 (kSpan r68.1) 38), (sb b63 (kSpan r55.1) 38), (sb b50 (kSpan r42.1) 38), (sb b37 (kSpan r29.1) 38), (sb b7 (kRef x2) 27), (sb b4 (kRef x1) 27), (sb b1 (kSystem x0 a0_0 n0_0 a0_1 n0_1) 25)] := hs138.drop 0
       have hs140 : HS w0 F0 w105 F8 [(sb b63 (kSpan r55.1) 38), (sb b50 (kSpan r42.1) 38), (sb b37 (kSpan r29.1) 38), (sb b7 (kRef x2) 27), (sb b4 (kRef x1) 27), (sb b1 (kSystem x0 a0_0 n0_0 a0_1 n0_1) 25)] := hs139.drop 0
       have hs141 : HS w0 F0 w105 F8 [(sb b50 (kSpan r42.1) 38), (sb b37 (kSpan r29.1) 38), (sb b7 (kRef x2) 27), (sb b4 (kRef x1) 27), (sb b1 (kSystem x0 a0_0 n0_0 a0_1 n0_1) 25)] := hs140.drop 0
       have hs142 : HS w0 F0 w105 F8 [(sb b37 (kSpan r29.1) 38), (sb b7 (kRef x2) 27), (sb b4 (kRef x1) 27), (sb b1 (kSystem x0 a0_0 n0_0 a0_1 n0_1) 25)] := hs141.drop 0
       have hs143 : HS w0 F0 w105 F8 [(sb b7 (kRef x2) 27), (sb b4 (kRef x1) 27), (sb b1 (kSystem x0 a0_0 n0_0 a0_1 n0_1) 25)] := hs142.drop 0
       exact RWP.nil ⟨rfl, F8, hs143, (Mem.le.refl _), rfl, rfl, rfl, rfl, rfl, (congrArg Value.bool (or_f hb116 (or_f hb123 (or_f hb130 (or_t hb137 (rfl))))))⟩
      ·refine Vg 94 38 18 false 93 hb137 (ld 38 16 b89 0 true 2 (.agg (kSpan r81.1)) (hs106.ownAt (k := 1) rfl)) ?_
       refine Vg 95 38 18 false 93 hb137 (ld 38 18 b102 0 true 2 (.agg (kSpan r94.1)) (hs106.ownAt (k := 0) rfl)) ?_
       refine Vg 96 4 18 false 93 hb137 (run_nes (t := 38) (t' := 38) (x := (.tmp 94)) (y := (.tmp 95)) (xs := (kSpan r81.1)) (ys := (kSpan r94.1)) (b := ((r81.1.Lo == r94.1.Lo) && ((r81.1.Hi == r94.1.Hi) && true))) rfl rfl (by kernel_rfl) (by kernel_rfl)) ?_
       refine V 97 4 (p0 93 (.const (.bool true)) (.tmp 96) (.bool (!((r81.1.Lo == r94.1.Lo) && ((r81.1.Hi == r94.1.Hi) && true)))) hb137) ?_
       refine V 98 4 (mv 97 (.bool (!((r81.1.Lo == r94.1.Lo) && ((r81.1.Hi == r94.1.Hi) && true))))) ?_
       refine RWP.split (!((r81.1.Lo == r94.1.Lo) && ((r81.1.Hi == r94.1.Hi) && true))) (fun hb144 => ?_) (fun hb144 => ?_)
       ·refine Sk [99, 100, 101] 23 false 98 hb144 ?_
        refine V 102 4 (p1 98 (.const (.bool true)) (.tmp 101) (.bool true) hb144) ?_
        have hs145 : HS w0 F0 w105 F8 [(sb b89 (kSpan r81.1) 38), (sb b76 (kSpan r68.1) 38), (sb b63 (kSpan r55.1) 38), (sb b50 (kSpan r42.1) 38), (sb b37 (kSpan r29.1) 38), (sb b7 (kRef x2) 27), (sb b4 (kRef x1) 27), (sb b1 (kSystem x0 a0_0 n0_0 a0_1 n0_1) 25)] := hs106.drop 0
        have hs146 : HS w0 F0 w105 F8 [(sb b76 (kSpan r68.1) 38), (sb b63 (kSpan r55.1) 38), (sb b50 (kSpan r42.1) 38), (sb b37 (kSpan r29.1) 38), (sb b7 (kRef x2) 27), (sb b4 (kRef x1) 27), (sb b1 (kSystem x0 a0_0 n0_0 a0_1 n0_1) 25)] := hs145.drop 0
        have hs147 : HS w0 F0 w105 F8 [(sb b63 (kSpan r55.1) 38), (sb b50 (kSpan r42.1) 38), (sb b37 (kSpan r29.1) 38), (sb b7 (kRef x2) 27), (sb b4 (kRef x1) 27), (sb b1 (kSystem x0 a0_0 n0_0 a0_1 n0_1) 25)] := hs146.drop 0
        have hs148 : HS w0 F0 w105 F8 [(sb b50 (kSpan r42.1) 38), (sb b37 (kSpan r29.1) 38), (sb b7 (kRef x2) 27), (sb b4 (kRef x1) 27), (sb b1 (kSystem x0 a0_0 n0_0 a0_1 n0_1) 25)] := hs147.drop 0
        have hs149 : HS w0 F0 w105 F8 [(sb b37 (kSpan r29.1) 38), (sb b7 (kRef x2) 27), (sb b4 (kRef x1) 27), (sb b1 (kSystem x0 a0_0 n0_0 a0_1 n0_1) 25)] := hs148.drop 0
        have hs150 : HS w0 F0 w105 F8 [(sb b7 (kRef x2) 27), (sb b4 (kRef x1) 27), (sb b1 (kSystem x0 a0_0 n0_0 a0_1 n0_1) 25)] := hs149.drop 0
        exact RWP.nil ⟨rfl, F8, hs150, (Mem.le.refl _), rfl, rfl, rfl, rfl, rfl, (congrArg Value.bool (or_f hb116 (or_f hb123 (or_f hb130 (or_f hb137 (or_t hb144 (rfl)))))))⟩
       ·refine Vg 99 30 23 false 98 hb144 (mv 17 (vi r81.2)) ?_
        refine Vg 100 30 23 false 98 hb144 (mv 19 (vi r94.2)) ?_
        refine Vg 101 4 23 false 98 hb144 (run_neq (t := 30) (t' := 30) (x := (.tmp 99)) (y := (.tmp 100)) (k := .i64) (a := r81.2) (b := r94.2) rfl rfl) ?_
        refine V 102 4 (p0 98 (.const (.bool true)) (.tmp 101) (.bool (r81.2 != r94.2)) hb144) ?_
        have hs151 : HS w0 F0 w105 F8 [(sb b89 (kSpan r81.1) 38), (sb b76 (kSpan r68.1) 38), (sb b63 (kSpan r55.1) 38), (sb b50 (kSpan r42.1) 38), (sb b37 (kSpan r29.1) 38), (sb b7 (kRef x2) 27), (sb b4 (kRef x1) 27), (sb b1 (kSystem x0 a0_0 n0_0 a0_1 n0_1) 25)] := hs106.drop 0
        have hs152 : HS w0 F0 w105 F8 [(sb b76 (kSpan r68.1) 38), (sb b63 (kSpan r55.1) 38), (sb b50 (kSpan r42.1) 38), (sb b37 (kSpan r29.1) 38), (sb b7 (kRef x2) 27), (sb b4 (kRef x1) 27), (sb b1 (kSystem x0 a0_0 n0_0 a0_1 n0_1) 25)] := hs151.drop 0
        have hs153 : HS w0 F0 w105 F8 [(sb b63 (kSpan r55.1) 38), (sb b50 (kSpan r42.1) 38), (sb b37 (kSpan r29.1) 38), (sb b7 (kRef x2) 27), (sb b4 (kRef x1) 27), (sb b1 (kSystem x0 a0_0 n0_0 a0_1 n0_1) 25)] := hs152.drop 0
        have hs154 : HS w0 F0 w105 F8 [(sb b50 (kSpan r42.1) 38), (sb b37 (kSpan r29.1) 38), (sb b7 (kRef x2) 27), (sb b4 (kRef x1) 27), (sb b1 (kSystem x0 a0_0 n0_0 a0_1 n0_1) 25)] := hs153.drop 0
        have hs155 : HS w0 F0 w105 F8 [(sb b37 (kSpan r29.1) 38), (sb b7 (kRef x2) 27), (sb b4 (kRef x1) 27), (sb b1 (kSystem x0 a0_0 n0_0 a0_1 n0_1) 25)] := hs154.drop 0
        have hs156 : HS w0 F0 w105 F8 [(sb b7 (kRef x2) 27), (sb b4 (kRef x1) 27), (sb b1 (kSystem x0 a0_0 n0_0 a0_1 n0_1) 25)] := hs155.drop 0
        exact RWP.nil ⟨rfl, F8, hs156, (Mem.le.refl _), rfl, rfl, rfl, rfl, rfl, (congrArg Value.bool (or_f hb116 (or_f hb123 (or_f hb130 (or_f hb137 (or_f hb144 (rfl)))))))⟩
  ·rintro f w107 ⟨F9, hs108, le109, e110, e111, e112, e113, e114, e115⟩
   refine thenQ_nrm ?_
   refine CWP.cond (t := ((!((r29.1.Lo == r42.1.Lo) && ((r29.1.Hi == r42.1.Hi) && true))) || ((r29.2 != r42.2) || ((!((r55.1.Lo == r68.1.Lo) && ((r55.1.Hi == r68.1.Hi) && true))) || ((r55.2 != r68.2) || ((!((r81.1.Lo == r94.1.Lo) && ((r81.1.Hi == r94.1.Hi) && true))) || (r81.2 != r94.2))))))) (by kernel_rfl) e115 (fun hb157 => ?_) (fun hb157 => ?_)
   ·have h158 := cond_t h96 hb157
    refine Sq (Rg [0] ?_)
    refine V 6 4 (mc (.bool false) (.bool false)) ?_
    refine Nt ?_
    refine CWP.ret (by kernel_rfl) ?_
    refine thenQ_ret ?_
    have hfin := some_inj h158
    subst hfin
    exact ⟨e110, (.bool false), res_of (l := [.tmp 6]) (by kernel_rfl) (vs := [(.bool false)]) ⟨rfl, trivial⟩, (.bool false), F9, rfl, hs108.clear, rfl⟩
   ·have h159 := cond_f h96 hb157
    refine Sc ?_
    refine thenQ_nrm ?_
    refine Sq (Rg [0, 1, 2, 3, 4, 5, 6, 7, 8] ?_)
    refine V 104 25 (ld 25 3 b1 0 true 3 (.agg (kSystem x0 a0_0 n0_0 a0_1 n0_1)) (hs108.ownAt (k := 2) rfl) e111) ?_
    refine V 105 27 (ld 27 4 b4 0 true 2 (.agg (kRef x1)) (hs108.ownAt (k := 1) rfl) e112) ?_
    refine V 106 27 (ld 27 5 b7 0 true 2 (.agg (kRef x2)) (hs108.ownAt (k := 0) rfl) e113) ?_
    obtain ⟨r160, hr161, h162⟩ := bind_some h159
    refine Cl 107 43 27 #[(.tmp 104), (.tmp 105), (.tmp 106)] #[25, 27, 27] co_clocks_May hs108 (c_clocks_May N w107 F9 hs108.pers (x0) a0_0 n0_0 hb0_0 (SlA.mono hs0_0 ((((((((le16.trans le24).trans le35).trans le48).trans le61).trans le74).trans le87).trans le100).trans le109)) a0_1 n0_1 hb0_1 (SlA.mono hs0_1 ((((((((le16.trans le24).trans le35).trans le48).trans le61).trans le74).trans le87).trans le100).trans le109)) (x1) (x2) _ hr161) ?_
    intro v163 F10 w164 hs165 le166 hp167
    obtain rfl := hp167
    refine V 103 43 (mv 107 (.tuple #[(.bool r160.1), (vi r160.2)])) ?_
    refine V 108 4 (ex 103 0 (.bool r160.1) (vs := #[(.bool r160.1), (vi r160.2)])) ?_
    refine V 109 30 (ex 103 1 (vi r160.2) (vs := #[(.bool r160.1), (vi r160.2)])) ?_
    refine V 20 4 (ma 108 (.bool r160.1)) ?_
    refine V 21 30 (ma 109 (vi r160.2)) ?_
    refine Nss (Rg [0, 1, 2, 3, 4, 5, 6, 7, 8] ?_)
    refine V 111 25 (ld 25 3 b1 0 true 3 (.agg (kSystem x0 a0_0 n0_0 a0_1 n0_1)) (hs165.ownAt (k := 2) rfl) e111) ?_
    refine V 112 27 (ld 27 4 b4 0 true 2 (.agg (kRef x1)) (hs165.ownAt (k := 1) rfl) e112) ?_
    refine V 113 27 (ld 27 5 b7 0 true 2 (.agg (kRef x2)) (hs165.ownAt (k := 0) rfl) e113) ?_
    obtain ⟨r168, hr169, h170⟩ := bind_some h162
    refine Cl 114 43 28 #[(.tmp 111), (.tmp 112), (.tmp 113)] #[25, 27, 27] co_ref03_May hs165 (c_ref03_May N w164 F10 hs165.pers (x0) a0_0 n0_0 hb0_0 (SlA.mono hs0_0 (((((((((le16.trans le24).trans le35).trans le48).trans le61).trans le74).trans le87).trans le100).trans le109).trans le166)) a0_1 n0_1 hb0_1 (SlA.mono hs0_1 (((((((((le16.trans le24).trans le35).trans le48).trans le61).trans le74).trans le87).trans le100).trans le109).trans le166)) (x1) (x2) _ hr169) ?_
    intro v171 F11 w172 hs173 le174 hp175
    obtain rfl := hp175
    refine V 110 43 (mv 114 (.tuple #[(.bool r168.1), (vi r168.2)])) ?_
    refine V 115 4 (ex 110 0 (.bool r168.1) (vs := #[(.bool r168.1), (vi r168.2)])) ?_
    refine V 116 30 (ex 110 1 (vi r168.2) (vs := #[(.bool r168.1), (vi r168.2)])) ?_
    refine V 22 4 (ma 115 (.bool r168.1)) ?_
    refine V 23 30 (ma 116 (vi r168.2)) ?_
    refine Nss (Rg [0, 1, 2, 3, 4, 5, 6, 7, 8] ?_)
    refine V 118 25 (ld 25 3 b1 0 true 3 (.agg (kSystem x0 a0_0 n0_0 a0_1 n0_1)) (hs173.ownAt (k := 2) rfl) e111) ?_
    refine V 119 27 (ld 27 4 b4 0 true 2 (.agg (kRef x1)) (hs173.ownAt (k := 1) rfl) e112) ?_
    refine V 120 27 (ld 27 5 b7 0 true 2 (.agg (kRef x2)) (hs173.ownAt (k := 0) rfl) e113) ?_
    obtain ⟨r176, hr177, h178⟩ := bind_some h170
    refine Cl 121 43 22 #[(.tmp 118), (.tmp 119), (.tmp 120)] #[25, 27, 27] co_clocks_Must hs173 (c_clocks_Must N w172 F11 hs173.pers (x0) a0_0 n0_0 hb0_0 (SlA.mono hs0_0 ((((((((((le16.trans le24).trans le35).trans le48).trans le61).trans le74).trans le87).trans le100).trans le109).trans le166).trans le174)) a0_1 n0_1 hb0_1 (SlA.mono hs0_1 ((((((((((le16.trans le24).trans le35).trans le48).trans le61).trans le74).trans le87).trans le100).trans le109).trans le166).trans le174)) (x1) (x2) _ hr177) ?_
    intro v179 F12 w180 hs181 le182 hp183
    obtain rfl := hp183
    refine V 117 43 (mv 121 (.tuple #[(.bool r176.1), (vi r176.2)])) ?_
    refine V 122 4 (ex 117 0 (.bool r176.1) (vs := #[(.bool r176.1), (vi r176.2)])) ?_
    refine V 123 30 (ex 117 1 (vi r176.2) (vs := #[(.bool r176.1), (vi r176.2)])) ?_
    refine V 24 4 (ma 122 (.bool r176.1)) ?_
    refine V 25 30 (ma 123 (vi r176.2)) ?_
    refine Nss (Rg [0, 1, 2, 3, 4, 5, 6, 7, 8] ?_)
    refine V 125 25 (ld 25 3 b1 0 true 3 (.agg (kSystem x0 a0_0 n0_0 a0_1 n0_1)) (hs181.ownAt (k := 2) rfl) e111) ?_
    refine V 126 27 (ld 27 4 b4 0 true 2 (.agg (kRef x1)) (hs181.ownAt (k := 1) rfl) e112) ?_
    refine V 127 27 (ld 27 5 b7 0 true 2 (.agg (kRef x2)) (hs181.ownAt (k := 0) rfl) e113) ?_
    obtain ⟨r184, hr185, h186⟩ := bind_some h178
    refine Cl 128 43 29 #[(.tmp 125), (.tmp 126), (.tmp 127)] #[25, 27, 27] co_ref03_Must hs181 (c_ref03_Must N w180 F12 hs181.pers (x0) a0_0 n0_0 hb0_0 (SlA.mono hs0_0 (((((((((((le16.trans le24).trans le35).trans le48).trans le61).trans le74).trans le87).trans le100).trans le109).trans le166).trans le174).trans le182)) a0_1 n0_1 hb0_1 (SlA.mono hs0_1 (((((((((((le16.trans le24).trans le35).trans le48).trans le61).trans le74).trans le87).trans le100).trans le109).trans le166).trans le174).trans le182)) (x1) (x2) _ hr185) ?_
    intro v187 F13 w188 hs189 le190 hp191
    obtain rfl := hp191
    refine V 124 43 (mv 128 (.tuple #[(.bool r184.1), (vi r184.2)])) ?_
    refine V 129 4 (ex 124 0 (.bool r184.1) (vs := #[(.bool r184.1), (vi r184.2)])) ?_
    refine V 130 30 (ex 124 1 (vi r184.2) (vs := #[(.bool r184.1), (vi r184.2)])) ?_
    refine V 26 4 (ma 129 (.bool r184.1)) ?_
    refine V 27 30 (ma 130 (vi r184.2)) ?_
    refine Nss (Rg [0, 1, 2, 3, 4, 5, 6, 7, 8] ?_)
    refine V 132 25 (ld 25 3 b1 0 true 3 (.agg (kSystem x0 a0_0 n0_0 a0_1 n0_1)) (hs189.ownAt (k := 2) rfl) e111) ?_
    refine V 133 27 (ld 27 4 b4 0 true 2 (.agg (kRef x1)) (hs189.ownAt (k := 1) rfl) e112) ?_
    refine V 134 27 (ld 27 5 b7 0 true 2 (.agg (kRef x2)) (hs189.ownAt (k := 0) rfl) e113) ?_
    obtain ⟨r192, hr193, h194⟩ := bind_some h186
    refine Cl 135 43 30 #[(.tmp 132), (.tmp 133), (.tmp 134)] #[25, 27, 27] co_clocks_Before hs189 (c_clocks_Before N w188 F13 hs189.pers (x0) a0_0 n0_0 hb0_0 (SlA.mono hs0_0 ((((((((((((le16.trans le24).trans le35).trans le48).trans le61).trans le74).trans le87).trans le100).trans le109).trans le166).trans le174).trans le182).trans le190)) a0_1 n0_1 hb0_1 (SlA.mono hs0_1 ((((((((((((le16.trans le24).trans le35).trans le48).trans le61).trans le74).trans le87).trans le100).trans le109).trans le166).trans le174).trans le182).trans le190)) (x1) (x2) _ hr193) ?_
    intro v195 F14 w196 hs197 le198 hp199
    obtain rfl := hp199
    refine V 131 43 (mv 135 (.tuple #[(.bool r192.1), (vi r192.2)])) ?_
    refine V 136 4 (ex 131 0 (.bool r192.1) (vs := #[(.bool r192.1), (vi r192.2)])) ?_
    refine V 137 30 (ex 131 1 (vi r192.2) (vs := #[(.bool r192.1), (vi r192.2)])) ?_
    refine V 28 4 (ma 136 (.bool r192.1)) ?_
    refine V 29 30 (ma 137 (vi r192.2)) ?_
    refine Nss (Rg [0, 1, 2, 3, 4, 5, 6, 7, 8] ?_)
    refine V 139 25 (ld 25 3 b1 0 true 3 (.agg (kSystem x0 a0_0 n0_0 a0_1 n0_1)) (hs197.ownAt (k := 2) rfl) e111) ?_
    refine V 140 27 (ld 27 4 b4 0 true 2 (.agg (kRef x1)) (hs197.ownAt (k := 1) rfl) e112) ?_
    refine V 141 27 (ld 27 5 b7 0 true 2 (.agg (kRef x2)) (hs197.ownAt (k := 0) rfl) e113) ?_
    obtain ⟨r200, hr201, h202⟩ := bind_some h194
    refine Cl 142 43 31 #[(.tmp 139), (.tmp 140), (.tmp 141)] #[25, 27, 27] co_ref03_Before hs197 (c_ref03_Before N w196 F14 hs197.pers (x0) a0_0 n0_0 hb0_0 (SlA.mono hs0_0 (((((((((((((le16.trans le24).trans le35).trans le48).trans le61).trans le74).trans le87).trans le100).trans le109).trans le166).trans le174).trans le182).trans le190).trans le198)) a0_1 n0_1 hb0_1 (SlA.mono hs0_1 (((((((((((((le16.trans le24).trans le35).trans le48).trans le61).trans le74).trans le87).trans le100).trans le109).trans le166).trans le174).trans le182).trans le190).trans le198)) (x1) (x2) _ hr201) ?_
    intro v203 F15 w204 hs205 le206 hp207
    obtain rfl := hp207
    refine V 138 43 (mv 142 (.tuple #[(.bool r200.1), (vi r200.2)])) ?_
    refine V 143 4 (ex 138 0 (.bool r200.1) (vs := #[(.bool r200.1), (vi r200.2)])) ?_
    refine V 144 30 (ex 138 1 (vi r200.2) (vs := #[(.bool r200.1), (vi r200.2)])) ?_
    refine V 30 4 (ma 143 (.bool r200.1)) ?_
    refine V 31 30 (ma 144 (vi r200.2)) ?_
    refine Nss (Rg [0, 1, 2, 3, 4, 5, 6, 7, 8, 9, 10, 11, 12, 13, 14, 15, 16, 17, 18, 19, 20, 21, 22, 23, 24, 25, 26, 27, 28, 29, 30, 31] ?_)
    refine RWP.cut (fun f w => ∃ (F16 : Mem), HS w0 F0 w F16 [] ∧ Mem.le F15 F16 ∧ f.d = [] ∧ f 6 = (.bool (r10 && ((r160.1 == r168.1) && ((r160.2 == r168.2) && ((r176.1 == r184.1) && ((r176.2 == r184.2) && ((r192.1 == r200.1) && (r192.2 == r200.2))))))))) ?_ ?_
    ·refine V 145 4 (mv 7 (.bool r10) e114) ?_
     refine V 146 4 (mv 145 (.bool r10)) ?_
     refine RWP.split r10 (fun hb213 => ?_) (fun hb213 => ?_)
     ·refine Vg 147 4 1 true 146 hb213 (mv 20 (.bool r160.1)) ?_
      refine Vg 148 4 1 true 146 hb213 (mv 22 (.bool r168.1)) ?_
      refine Vg 149 4 1 true 146 hb213 (run_eqb (t := 4) (t' := 4) (x := (.tmp 147)) (y := (.tmp 148)) (a := r160.1) (b := r168.1) rfl rfl (by kernel_rfl)) ?_
      refine V 150 4 (p1 146 (.tmp 149) (.const (.bool false)) (.bool (r160.1 == r168.1)) hb213) ?_
      refine V 151 4 (mv 150 (.bool (r160.1 == r168.1))) ?_
      refine RWP.split (r160.1 == r168.1) (fun hb214 => ?_) (fun hb214 => ?_)
      ·refine Vg 152 30 6 true 151 hb214 (mv 21 (vi r160.2)) ?_
       refine Vg 153 30 6 true 151 hb214 (mv 23 (vi r168.2)) ?_
       refine Vg 154 4 6 true 151 hb214 (run_eql (t := 30) (t' := 30) (x := (.tmp 152)) (y := (.tmp 153)) (k := .i64) (a := r160.2) (b := r168.2) rfl rfl) ?_
       refine V 155 4 (p1 151 (.tmp 154) (.const (.bool false)) (.bool (r160.2 == r168.2)) hb214) ?_
       refine V 156 4 (mv 155 (.bool (r160.2 == r168.2))) ?_
       refine RWP.split (r160.2 == r168.2) (fun hb215 => ?_) (fun hb215 => ?_)
       ·refine Vg 157 4 11 true 156 hb215 (mv 24 (.bool r176.1)) ?_
        refine Vg 158 4 11 true 156 hb215 (mv 26 (.bool r184.1)) ?_
        refine Vg 159 4 11 true 156 hb215 (run_eqb (t := 4) (t' := 4) (x := (.tmp 157)) (y := (.tmp 158)) (a := r176.1) (b := r184.1) rfl rfl (by kernel_rfl)) ?_
        refine V 160 4 (p1 156 (.tmp 159) (.const (.bool false)) (.bool (r176.1 == r184.1)) hb215) ?_
        refine V 161 4 (mv 160 (.bool (r176.1 == r184.1))) ?_
        refine RWP.split (r176.1 == r184.1) (fun hb216 => ?_) (fun hb216 => ?_)
        ·refine Vg 162 30 16 true 161 hb216 (mv 25 (vi r176.2)) ?_
         refine Vg 163 30 16 true 161 hb216 (mv 27 (vi r184.2)) ?_
         refine Vg 164 4 16 true 161 hb216 (run_eql (t := 30) (t' := 30) (x := (.tmp 162)) (y := (.tmp 163)) (k := .i64) (a := r176.2) (b := r184.2) rfl rfl) ?_
         refine V 165 4 (p1 161 (.tmp 164) (.const (.bool false)) (.bool (r176.2 == r184.2)) hb216) ?_
         refine V 166 4 (mv 165 (.bool (r176.2 == r184.2))) ?_
         refine RWP.split (r176.2 == r184.2) (fun hb217 => ?_) (fun hb217 => ?_)
         ·refine Vg 167 4 21 true 166 hb217 (mv 28 (.bool r192.1)) ?_
          refine Vg 168 4 21 true 166 hb217 (mv 30 (.bool r200.1)) ?_
          refine Vg 169 4 21 true 166 hb217 (run_eqb (t := 4) (t' := 4) (x := (.tmp 167)) (y := (.tmp 168)) (a := r192.1) (b := r200.1) rfl rfl (by kernel_rfl)) ?_
          refine V 170 4 (p1 166 (.tmp 169) (.const (.bool false)) (.bool (r192.1 == r200.1)) hb217) ?_
          refine V 171 4 (mv 170 (.bool (r192.1 == r200.1))) ?_
          refine RWP.split (r192.1 == r200.1) (fun hb218 => ?_) (fun hb218 => ?_)
          ·refine Vg 172 30 26 true 171 hb218 (mv 29 (vi r192.2)) ?_
           refine Vg 173 30 26 true 171 hb218 (mv 31 (vi r200.2)) ?_
           refine Vg 174 4 26 true 171 hb218 (run_eql (t := 30) (t' := 30) (x := (.tmp 172)) (y := (.tmp 173)) (k := .i64) (a := r192.2) (b := r200.2) rfl rfl) ?_
           refine V 175 4 (p1 171 (.tmp 174) (.const (.bool false)) (.bool (r192.2 == r200.2)) hb218) ?_
           refine V 6 4 (ma 175 (.bool (r192.2 == r200.2))) ?_
           have hs219 : HS w0 F0 w204 F15 [(sb b4 (kRef x1) 27), (sb b1 (kSystem x0 a0_0 n0_0 a0_1 n0_1) 25)] := hs205.drop 0
           have hs220 : HS w0 F0 w204 F15 [(sb b1 (kSystem x0 a0_0 n0_0 a0_1 n0_1) 25)] := hs219.drop 0
           have hs221 : HS w0 F0 w204 F15 [] := hs220.drop 0
           exact RWP.nil ⟨rfl, F15, hs221, (Mem.le.refl _), e110, (congrArg Value.bool (and_t hb213 (and_t hb214 (and_t hb215 (and_t hb216 (and_t hb217 (and_t hb218 (rfl))))))))⟩
          ·refine Sk [172, 173, 174] 26 true 171 hb218 ?_
           refine V 175 4 (p0 171 (.tmp 174) (.const (.bool false)) (.bool false) hb218) ?_
           refine V 6 4 (ma 175 (.bool false)) ?_
           have hs222 : HS w0 F0 w204 F15 [(sb b4 (kRef x1) 27), (sb b1 (kSystem x0 a0_0 n0_0 a0_1 n0_1) 25)] := hs205.drop 0
           have hs223 : HS w0 F0 w204 F15 [(sb b1 (kSystem x0 a0_0 n0_0 a0_1 n0_1) 25)] := hs222.drop 0
           have hs224 : HS w0 F0 w204 F15 [] := hs223.drop 0
           exact RWP.nil ⟨rfl, F15, hs224, (Mem.le.refl _), e110, (congrArg Value.bool (and_t hb213 (and_t hb214 (and_t hb215 (and_t hb216 (and_t hb217 (and_f hb218 (rfl))))))))⟩
         ·refine Sk [167, 168, 169] 21 true 166 hb217 ?_
          refine V 170 4 (p0 166 (.tmp 169) (.const (.bool false)) (.bool false) hb217) ?_
          refine V 171 4 (mv 170 (.bool false)) ?_
          refine Sk [172, 173, 174] 26 true 171 rfl ?_
          refine V 175 4 (p0 171 (.tmp 174) (.const (.bool false)) (.bool false) rfl) ?_
          refine V 6 4 (ma 175 (.bool false)) ?_
          have hs225 : HS w0 F0 w204 F15 [(sb b4 (kRef x1) 27), (sb b1 (kSystem x0 a0_0 n0_0 a0_1 n0_1) 25)] := hs205.drop 0
          have hs226 : HS w0 F0 w204 F15 [(sb b1 (kSystem x0 a0_0 n0_0 a0_1 n0_1) 25)] := hs225.drop 0
          have hs227 : HS w0 F0 w204 F15 [] := hs226.drop 0
          exact RWP.nil ⟨rfl, F15, hs227, (Mem.le.refl _), e110, (congrArg Value.bool (and_t hb213 (and_t hb214 (and_t hb215 (and_t hb216 (and_f hb217 (rfl)))))))⟩
        ·refine Sk [162, 163, 164] 16 true 161 hb216 ?_
         refine V 165 4 (p0 161 (.tmp 164) (.const (.bool false)) (.bool false) hb216) ?_
         refine V 166 4 (mv 165 (.bool false)) ?_
         refine Sk [167, 168, 169] 21 true 166 rfl ?_
         refine V 170 4 (p0 166 (.tmp 169) (.const (.bool false)) (.bool false) rfl) ?_
         refine V 171 4 (mv 170 (.bool false)) ?_
         refine Sk [172, 173, 174] 26 true 171 rfl ?_
         refine V 175 4 (p0 171 (.tmp 174) (.const (.bool false)) (.bool false) rfl) ?_
         refine V 6 4 (ma 175 (.bool false)) ?_
         have hs228 : HS w0 F0 w204 F15 [(sb b4 (kRef x1) 27), (sb b1 (kSystem x0 a0_0 n0_0 a0_1 n0_1) 25)] := hs205.drop 0
         have hs229 : HS w0 F0 w204 F15 [(sb b1 (kSystem x0 a0_0 n0_0 a0_1 n0_1) 25)] := hs228.drop 0
         have hs230 : HS w0 F0 w204 F15 [] := hs229.drop 0
         exact RWP.nil ⟨rfl, F15, hs230, (Mem.le.refl _), e110, (congrArg Value.bool (and_t hb213 (and_t hb214 (and_t hb215 (and_f hb216 (rfl))))))⟩
       ·refine Sk [157, 158, 159] 11 true 156 hb215 ?_
        refine V 160 4 (p0 156 (.tmp 159) (.const (.bool false)) (.bool false) hb215) ?_
        refine V 161 4 (mv 160 (.bool false)) ?_
        refine Sk [162, 163, 164] 16 true 161 rfl ?_
        refine V 165 4 (p0 161 (.tmp 164) (.const (.bool false)) (.bool false) rfl) ?_
        refine V 166 4 (mv 165 (.bool false)) ?_
        refine Sk [167, 168, 169] 21 true 166 rfl ?_
        refine V 170 4 (p0 166 (.tmp 169) (.const (.bool false)) (.bool false) rfl) ?_
        refine V 171 4 (mv 170 (.bool false)) ?_
        refine Sk [172, 173, 174] 26 true 171 rfl ?_
        refine V 175 4 (p0 171 (.tmp 174) (.const (.bool false)) (.bool false) rfl) ?_
        refine V 6 4 (ma 175 (.bool false)) ?_
        have hs231 : HS w0 F0 w204 F15 [(sb b4 (kRef x1) 27), (sb b1 (kSystem x0 a0_0 n0_0 a0_1 n0_1) 25)] := hs205.drop 0
        have hs232 : HS w0 F0 w204 F15 [(sb b1 (kSystem x0 a0_0 n0_0 a0_1 n0_1) 25)] := hs231.drop 0
        have hs233 : HS w0 F0 w204 F15 [] := hs232.drop 0
        exact RWP.nil ⟨rfl, F15, hs233, (Mem.le.refl _), e110, (congrArg Value.bool (and_t hb213 (and_t hb214 (and_f hb215 (rfl)))))⟩
      ·refine Sk [152, 153, 154] 6 true 151 hb214 ?_
       refine V 155 4 (p0 151 (.tmp 154) (.const (.bool false)) (.bool false) hb214) ?_
       refine V 156 4 (mv 155 (.bool false)) ?_
       refine Sk [157, 158, 159] 11 true 156 rfl ?_
       refine V 160 4 (p0 156 (.tmp 159) (.const (.bool false)) (.bool false) rfl) ?_
       refine V 161 4 (mv 160 (.bool false)) ?_
       refine Sk [162, 163, 164] 16 true 161 rfl ?_
       refine V 165 4 (p0 161 (.tmp 164) (.const (.bool false)) (.bool false) rfl) ?_
       refine V 166 4 (mv 165 (.bool false)) ?_
       refine Sk [167, 168, 169] 21 true 166 rfl ?_
       refine V 170 4 (p0 166 (.tmp 169) (.const (.bool false)) (.bool false) rfl) ?_
       refine V 171 4 (mv 170 (.bool false)) ?_
       refine Sk [172, 173, 174] 26 true 171 rfl ?_
       refine V 175 4 (p0 171 (.tmp 174) (.const (.bool false)) (.bool false) rfl) ?_
       refine V 6 4 (ma 175 (.bool false)) ?_
       have hs234 : HS w0 F0 w204 F15 [(sb b4 (kRef x1) 27), (sb b1 (kSystem x0 a0_0 n0_0 a0_1 n0_1) 25)] := hs205.drop 0
       have hs235 : HS w0 F0 w204 F15 [(sb b1 (kSystem x0 a0_0 n0_0 a0_1 n0_1) 25)] := hs234.drop 0
       have hs236 : HS w0 F0 w204 F15 [] := hs235.drop 0
       exact RWP.nil ⟨rfl, F15, hs236, (Mem.le.refl _), e110, (congrArg Value.bool (and_t hb213 (and_f hb214 (rfl))))⟩
     ·refine Sk [147, 148, 149] 1 true 146 hb213 ?_
      refine V 150 4 (p0 146 (.tmp 149) (.const (.bool false)) (.bool false) hb213) ?_
      refine V 151 4 (mv 150 (.bool false)) ?_
      refine Sk [152, 153, 154] 6 true 151 rfl ?_
      refine V 155 4 (p0 151 (.tmp 154) (.const (.bool false)) (.bool false) rfl) ?_
      refine V 156 4 (mv 155 (.bool false)) ?_
      refine Sk [157, 158, 159] 11 true 156 rfl ?_
      refine V 160 4 (p0 156 (.tmp 159) (.const (.bool false)) (.bool false) rfl) ?_
      refine V 161 4 (mv 160 (.bool false)) ?_
      refine Sk [162, 163, 164] 16 true 161 rfl ?_
      refine V 165 4 (p0 161 (.tmp 164) (.const (.bool false)) (.bool false) rfl) ?_
      refine V 166 4 (mv 165 (.bool false)) ?_
      refine Sk [167, 168, 169] 21 true 166 rfl ?_
      refine V 170 4 (p0 166 (.tmp 169) (.const (.bool false)) (.bool false) rfl) ?_
      refine V 171 4 (mv 170 (.bool false)) ?_
      refine Sk [172, 173, 174] 26 true 171 rfl ?_
      refine V 175 4 (p0 171 (.tmp 174) (.const (.bool false)) (.bool false) rfl) ?_
      refine V 6 4 (ma 175 (.bool false)) ?_
      have hs237 : HS w0 F0 w204 F15 [(sb b4 (kRef x1) 27), (sb b1 (kSystem x0 a0_0 n0_0 a0_1 n0_1) 25)] := hs205.drop 0
      have hs238 : HS w0 F0 w204 F15 [(sb b1 (kSystem x0 a0_0 n0_0 a0_1 n0_1) 25)] := hs237.drop 0
      have hs239 : HS w0 F0 w204 F15 [] := hs238.drop 0
      exact RWP.nil ⟨rfl, F15, hs239, (Mem.le.refl _), e110, (congrArg Value.bool (and_f hb213 (rfl)))⟩
    ·rintro f w208 ⟨F16, hs209, le210, e211, e212⟩
     refine thenQ_nrm ?_
     refine CWP.ret (by kernel_rfl) ?_
     have hfin := some_inj h202
     subst hfin
     exact ⟨e211, (.bool (r10 && ((r160.1 == r168.1) && ((r160.2 == r168.2) && ((r176.1 == r184.1) && ((r176.2 == r184.2) && ((r192.1 == r200.1) && (r192.2 == r200.2)))))))), res_of (l := [.tmp 6]) (by kernel_rfl) (vs := [(.bool (r10 && ((r160.1 == r168.1) && ((r160.2 == r168.2) && ((r176.1 == r184.1) && ((r176.2 == r184.2) && ((r192.1 == r200.1) && (r192.2 == r200.2))))))))]) ⟨e212, trivial⟩, (.bool (r10 && ((r160.1 == r168.1) && ((r160.2 == r168.2) && ((r176.1 == r184.1) && ((r176.2 == r184.2) && ((r192.1 == r200.1) && (r192.2 == r200.2)))))))), F16, rfl, hs209.clear, rfl⟩
end Go.Proofs.Ythbcnabeabcmlaa
namespace Go.Proofs.Ythbcnabeabcmlaa
theorem relations_true {N : Nat} {s : System} (hN : 1000000 ≤ N) (hf : FitS N s) (a b : Ref) : law03_ClocksRelations N s a b = some true := by
  unfold law03_ClocksRelations
  obtain ⟨fw, hfw⟩ := few_some hf
  obtain ⟨x, hx⟩ := Before_some hN hf a b
  obtain ⟨y, hy⟩ := Offset_some hN hf a
  rw [awake_at (by omega), hfw]
  simp only [Option.bind_some, Interval_c hN hf, Interval_r hN hf, Offset_cr hN hf, Relation_c hN hf, Relation_r hN hf, May_c hN hf, May_r hN hf, Must_c hN hf, Must_r hN hf, Before_cr hN hf, hx, hy]
  cases fw with
  | false => rfl
  | true => simp
theorem relations_row (s : System) (a b : Ref) (q : qSystem s) (_ : qRef a) (_ : qRef b) : law03_ClocksRelations NN s a b = some true := relations_true (by decide) (fitS q) a b
end Go.Proofs.Ythbcnabeabcmlaa
namespace Go.Proofs.Ythbcnabeabcmlaa
open Go.ChangeShapes Go.WideShapes Go.ChangeAt Go.RowKit
set_option maxRecDepth 100000 in
theorem lifted_clocksRelations (os : Os) (started : os.Started) (H : Type) (enc : TypeId × Value → H) :
    ReturnsInHanded {} Try.checked os 5 .any (Rows.clocksRelationsSpec.pre6 enc Try.prog Try.f5 Rows.clocksRelationsRow.domain false) (Rows.clocksRelationsSpec.post enc Try.prog Try.f5 false true false false) := by
  refine returnsInHanded_of_change (C := Try.checked) (by kernel_rfl) started (by kernel_rfl) Try.func5
    (ChangeSpec.witness6 (enc := enc) (C := Try.checked) false ⟨#[], #[.agg #[.slice none 0 0, .slice none 0 0, .int .i64 0], .agg #[.int .i64 0, .int .i64 0], .agg #[.int .i64 0, .int .i64 0]], []⟩ 8 (by kernel_rfl) (by kernel_rfl) (by kernel_rfl) (by kernel_rfl)) ?_
  intro W base args ds gs before hval0 hW hcnd _
  have hval : ∀ (j : Nat) t v, Try.f5.params[j]? = some t → args[j]? = some v → Value.okWide Try.prog W .any base t v := hval0
  have hW' := hW
  obtain ⟨p, q, hA0, hV, rfl, hfz, hnd⟩ := hW
  have hA : DataW.TrodAll enc Try.prog W 0 (fun _ => true) true Try.f5.params.toList args.toList ds p := hA0
  rw [Try.params5] at hA hval
  obtain ⟨v0, vs0, d0, ds0, p0, q0, hargs, rfl, rfl, h0, r0⟩ := trodAll_cons hA
  obtain ⟨v1, vs1, d1, ds1, p1, q1, rfl, rfl, rfl, h1, r1⟩ := trodAll_cons r0
  obtain ⟨v2, vs2, d2, ds2, p2, q2, rfl, rfl, rfl, h2, r2⟩ := trodAll_cons r1
  obtain ⟨rfl, rfl, rfl⟩ := trodAll_nil r2
  obtain rfl : args = #[v0, v1, v2] := by cases args; simp_all
  obtain ⟨cs0, x0, rfl, R0, Q0⟩ := Opens.agg opens_System_25 (by kernel_rfl) (hval 0 25 v0 rfl rfl) h0
  obtain ⟨a0_0, n0_0, a0_1, n0_1, e0, hb0_0, hs0_0, hb0_1, hs0_1⟩ := R0
  obtain rfl : cs0 = #[.slice a0_0 x0.Tracks.length n0_0, .slice a0_1 x0.Ties.length n0_1, .int .i64 x0.Window] := Array.ext' (by exact e0)
  obtain ⟨cs1, x1, rfl, R1, Q1⟩ := Opens.agg opens_Ref_27 (by kernel_rfl) (hval 1 27 v1 rfl rfl) h1
  have e1 := R1
  obtain rfl : cs1 = #[.int .i64 x1.Log, .int .i64 x1.Line] := Array.ext' (by exact e1)
  obtain ⟨cs2, x2, rfl, R2, Q2⟩ := Opens.agg opens_Ref_27 (by kernel_rfl) (hval 2 27 v2 rfl rfl) h2
  have e2 := R2
  obtain rfl : cs2 = #[.int .i64 x2.Log, .int .i64 x2.Line] := Array.ext' (by exact e2)
  refine (c_law03_ClocksRelations 9223372036854775808 W (memOf W) (fun _ _ h => h) x0 a0_0 n0_0 hb0_0 hs0_0 a0_1 n0_1 hb0_1 hs0_1 x1 x2 true (relations_row x0 x1 x2 Q0 Q1 Q2)).mono fun e W' he => ?_
  obtain ⟨r, F', rfl, hs, rfl⟩ := he
  refine ⟨_, rfl, post_grown (by kernel_rfl) (tb := 4) ?_ rfl hW' (by kernel_rfl) (by kernel_rfl) ?_ hs⟩
  · intro t ht
    rw [Try.params5] at ht
    simp only [List.mem_cons, List.not_mem_nil, or_false] at ht
    rcases ht with rfl | rfl | rfl <;> exact ⟨by kernel_rfl, by decide +kernel⟩
  · intro _; rfl
theorem clocksRelations_proved : Rows.ClocksRelationsSaid :=
  OpenClaim.holds_of_wide 5 Try.f5 rfl rfl rfl rfl rfl rfl rfl ⟨rfl, rfl, rfl, rfl, rfl⟩ rfl rfl rfl rfl rfl (by kernel_rfl) Try.func5 (by kernel_rfl)
    (of_decide_eq_true (by kernel_rfl)) (by unfold Func.isWrapper; first | (rw [if_pos (by decide +kernel)]; kernel_rfl) | (rw [if_neg (by decide +kernel)]; exact ⟨rfl, rfl⟩))
    (fun os started H enc _ => lifted_clocksRelations os started H enc)
end Go.Proofs.Ythbcnabeabcmlaa
