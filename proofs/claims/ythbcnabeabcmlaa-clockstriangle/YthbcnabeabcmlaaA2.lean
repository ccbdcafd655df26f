/- Lemmas of the claim ClocksTriangle, printed by a program of the claimant and by hand. No statement of the seat is proved here. -/
import Derived.Test.YthbcnabeabcmlaaA1
set_option linter.unusedVariables false
set_option linter.unusedSimpArgs false
set_option linter.unusedSectionVars false
namespace Go.Proofs.Ythbcnabeabcmlaa
open Go.Proofs
abbrev enc134 (x : Bound) : List Value := [(.agg #[(.int .i64 x.From.Log), (.int .i64 x.From.Line), (.int .i64 x.To.Log), (.int .i64 x.To.Line), (.int .i64 x.Most), (.int .i64 x.Kind), (.int .i64 x.ID)])]
abbrev ok134 (_ : Mem) (_ : Bound) : Prop := True
abbrev px134 (x : Bound) : Bound := x
abbrev enc155 : (Bool × (List Bound) × Option Addr × Nat) → List Value := fun (y0, y1, ay1_0, ny1_0) => [(.bool y0), (.slice ay1_0 y1.length ny1_0)]
abbrev ok155 (F : Mem) : (Bool × (List Bound) × Option Addr × Nat) → Prop := fun (y0, y1, ay1_0, ny1_0) => LC y1.length ny1_0 ∧ SlA tBound F ay1_0 y1
abbrev px155 : (Bool × (List Bound) × Option Addr × Nat) → (Bool × (List Bound)) := fun (y0, y1, ay1_0, ny1_0) => (y0, y1)
def mk27 (x : Ref) : Value := .agg #[(.int .i64 x.Log), (.int .i64 x.Line)]
def eq27 (x y : Ref) : Bool := ((x.Log == y.Log) && ((x.Line == y.Line) && true))
theorem eqd27 (x y : Ref) : eq27 x y = decide (x = y) := by
  rw [Bool.eq_iff_iff]; unfold eq27
  simp only [Bool.and_eq_true, beq_iff_eq, decide_eq_true_eq, and_true]
  constructor
  · intro h
    obtain ⟨_, _⟩ := x; obtain ⟨_, _⟩ := y
    simp_all [Ref.mk.injEq]
  · rintro rfl
    simp
set_option maxRecDepth 100000 in
theorem kl27 : KL Try.prog 27 tRef := KL.ofStruct (d := 8) (by decide) mk27 (fun h => by obtain ⟨_, rfl, rfl⟩ := h; rfl) (by kernel_rfl) (fun x => by kernel_rfl) eq27 (fun x y => by kernel_rfl) eqd27 (fun x => by simp [mk27, Instr.sameBits])
def mk103 (x : Bound) : Value := .agg #[(.int .i64 x.From.Log), (.int .i64 x.From.Line), (.int .i64 x.To.Log), (.int .i64 x.To.Line), (.int .i64 x.Most), (.int .i64 x.Kind), (.int .i64 x.ID)]
def eq103 (x y : Bound) : Bool := (((x.From.Log == y.From.Log) && ((x.From.Line == y.From.Line) && true)) && (((x.To.Log == y.To.Log) && ((x.To.Line == y.To.Line) && true)) && ((x.Most == y.Most) && ((x.Kind == y.Kind) && ((x.ID == y.ID) && true)))))
theorem eqd103 (x y : Bound) : eq103 x y = decide (x = y) := by
  rw [Bool.eq_iff_iff]; unfold eq103
  simp only [Bool.and_eq_true, beq_iff_eq, decide_eq_true_eq, and_true]
  constructor
  · intro h
    obtain ⟨⟨_, _⟩, ⟨_, _⟩, _, _, _⟩ := x; obtain ⟨⟨_, _⟩, ⟨_, _⟩, _, _, _⟩ := y
    simp_all [Bound.mk.injEq, Ref.mk.injEq]
  · rintro rfl
    simp
set_option maxRecDepth 100000 in
theorem kl103 : KL Try.prog 103 tBound := KL.ofStruct (d := 8) (by decide) mk103 (fun h => by obtain ⟨_, rfl, rfl⟩ := h; rfl) (by kernel_rfl) (fun x => by kernel_rfl) eq103 (fun x y => by kernel_rfl) eqd103 (fun x => by simp [mk103, Instr.sameBits])
end Go.Proofs.Ythbcnabeabcmlaa
namespace Go.Proofs.Ythbcnabeabcmlaa
open Go.Proofs
def slices_IndexFunc_api_Track_api_Track_L0 (N : Nat) (x0 : (List Track)) (x1 : (Track → Option Bool)) : Int → Option (Flow Int Int) := fun s4 =>
 (bif (decide (s4 < (x0.length : Int))) then ((idx x0 s4).bind fun x26 => ((x1 x26).bind fun r40 => (bif r40 then some (.ret s4) else some (.next (W64 (s4 + 1)))))) else some (.done s4))
def slices_IndexFunc_api_Track_api_Track (N : Nat) (x0 : (List Track)) (x1 : (Track → Option Bool)) : Option Int :=
 ((iter (slices_IndexFunc_api_Track_api_Track_L0 N x0 x1) N 0).bind fun o => o.k (fun r => some r) (fun s13 => some (-1)))
theorem co_slices_IndexFunc_api_Track_api_Track : CallOk Try.prog 113 := fun _ _ => by kernel_rfl
set_option maxHeartbeats 4000000 in
set_option maxRecDepth 100000 in
theorem c_slices_IndexFunc_api_Track_api_Track (N : Nat) (w0 : World) (F0 : Mem) (hF : ∀ b o, F0 b = some o → w0.heap[b]? = some o) (x0 : (List Track)) (a0_0 : Option Addr) (n0_0 : Nat) (hb0_0 : LC x0.length n0_0) (hs0_0 : SlA tTrack F0 a0_0 x0) (gx1 : FuncId) (fx1 kx1 : List Value) (x1 : Track → Option Bool) (hox1 : CallOk Try.prog gx1) (hpx1 : ∀ (w' : World) (F' : Mem) (y0 : Track) (ax1y0_2 : Option Addr) (nx1y0_2 : Nat) (hbx1y0_2 : LC y0.Clock.Jumps.length nx1y0_2) (hsx1y0_2 : SlA tInt F' ax1y0_2 y0.Clock.Jumps) (ax1y0_3 : Option Addr) (nx1y0_3 : Nat) (hbx1y0_3 : LC y0.Times.length nx1y0_3) (hsx1y0_3 : SlA tInt F' ax1y0_3 y0.Times) (r : Bool), Mem.le F0 F' → (∀ b o, F' b = some o → w'.heap[b]? = some o) → x1 y0 = some r → Calls Try.prog gx1 (fx1 ++ (([(.agg #[(.int .i64 y0.Clock.Slip), (.int .i64 y0.Clock.Drift), (.slice ax1y0_2 y0.Clock.Jumps.length nx1y0_2), (.slice ax1y0_3 y0.Times.length nx1y0_3)])] : List Value) ++ kx1)).toArray w' (FRet w' F' fun F'' v => v = (.bool r))) (r : Int) (h : slices_IndexFunc_api_Track_api_Track N x0 x1 = some r) :
  Calls Try.prog 113 ([(.slice a0_0 x0.length n0_0), (.func (.func gx1) fx1.toArray kx1.toArray)] : List Value).toArray w0 (FRet w0 F0 fun F' v => v = (.int .i64 r)) := by
 have hs0 := HS.start hF
 refine calls_of (n := 19) (c := bodyOf Try.f113) Try.func113 (by kernel_rfl) (by kernel_rfl) (by kernel_rfl) ?_
 refine Sq (Rg [0] ?_)
 refine V 4 3 (mc (.int .i64 0) (.int .i64 0)) ?_
 refine Nss ?_
 refine Sq (Rg [0, 1, 2] ?_)
 refine V 6 22 (mv 0 (.slice a0_0 x0.length n0_0)) ?_
 refine V 7 3 (ln 6 22 a0_0 x0.length n0_0 54 4 64) ?_
 refine V 8 3 (run_move (x := (.const (.int .i64 0))) (v := (.int .i64 0)) rfl) ?_
 refine Nt ?_
 obtain ⟨o1, ho2, h3⟩ := bind_some h
 refine CWP.cut (fun f w => ∃ (s13 : Int) (F2 : Mem), o1 = .done s13 ∧ HS w0 F0 w F2 [] ∧ Mem.le F0 F2 ∧ f.d = []) ?_ ?_
 ·refine Bk ?_
  refine CWP.loop (by kernel_rfl) (fun m f w => ∃ (s4 : Int) (F1 : Mem), iter (slices_IndexFunc_api_Track_api_Track_L0 N x0 x1) m s4 = some o1 ∧ HS w0 F0 w F1 [] ∧ Mem.le F0 F1 ∧ f.d = [] ∧ f 0 = (.slice a0_0 x0.length n0_0) ∧ f 1 = (.func (.func gx1) fx1.toArray kx1.toArray) ∧ f 7 = (.int .i64 (x0.length : Int)) ∧ f 8 = (.int .i64 s4)) N ⟨0, F0, ho2, hs0, (Mem.le.refl _), rfl, rfl, rfl, rfl, rfl⟩ ?_
  rintro m18 f w5 ⟨s4, F1, hit19, hs6, le7, e8, e9, e10, e11, e12⟩
  obtain ⟨m20, fl21, rfl, hb22, hnx23⟩ := iter_step hit19
  refine Sq (Rg [0] ?_)
  refine V 9 0 (run_lss (t := 3) (t' := 3) (x := (.tmp 8)) (y := (.tmp 7)) (k := .i64) (a := s4) (b := (x0.length : Int)) e12 e11) ?_
  refine Nss ?_
  refine CWP.cond (t := (decide (s4 < (x0.length : Int)))) (by kernel_rfl) rfl (fun hb24 => ?_) (fun hb24 => ?_)
  ·have h25 := cond_t hb22 hb24
   refine Sc ?_
   refine thenQ_nrm ?_
   refine Sq ?_
   refine Bk ?_
   refine Sq (Rg [0, 1] ?_)
   refine V 10 3 (mv 8 (.int .i64 s4) e12) ?_
   refine V 5 3 (ma 10 (.int .i64 s4)) ?_
   refine Nss (Rg [0, 1, 2, 3, 4, 5] ?_)
   refine V 11 61 (mv 1 (.func (.func gx1) fx1.toArray kx1.toArray) e10) ?_
   refine V 12 22 (mv 0 (.slice a0_0 x0.length n0_0) e9) ?_
   refine V 13 3 (mv 5 (.int .i64 s4)) ?_
   obtain ⟨x26, hx27, h29⟩ := bind_some h25
   obtain ⟨hi28, hx27'⟩ := idx_spec hx27
   obtain ⟨b30, o31, C32, E33, fz34, rfl, hF36, hE37⟩ := SlA.open (SlA.mono hs0_0 le7) hx27'
   obtain ⟨ae38_2, ne38_2, ae38_3, ne38_3, hc39, hbe38_2, hse38_2, hbe38_3, hse38_3⟩ := hE37 _ _ hx27'
   refine V 14 0 (ix 22 12 13 b30 o31 54 4 64 hi28) ?_
   refine V 15 54 (lx 54 14 0 4 true 4 (.agg #[(.int .i64 x26.Clock.Slip), (.int .i64 x26.Clock.Drift), (.slice ae38_2 x26.Clock.Jumps.length ne38_2), (.slice ae38_3 x26.Times.length ne38_3)]) (hs6.pers _ _ hF36) hc39) ?_
   obtain ⟨r40, hr41, h42⟩ := bind_some h29
   refine RWP.call (dst := (some 16)) (ty := 4) (g := none) (by kernel_rfl) rfl (f0 := (.tmp 11)) (aos := #[(.tmp 15)]) (ats := #[54]) (fid := gx1) (first := fx1.toArray) (cap := kx1.toArray) (args := (fx1 ++ (([(.agg #[(.int .i64 x26.Clock.Slip), (.int .i64 x26.Clock.Drift), (.slice ae38_2 x26.Clock.Jumps.length ne38_2), (.slice ae38_3 x26.Times.length ne38_3)])] : List Value) ++ kx1))) rfl hox1 (app_args2 (l := [(.agg #[(.int .i64 x26.Clock.Slip), (.int .i64 x26.Clock.Drift), (.slice ae38_2 x26.Clock.Jumps.length ne38_2), (.slice ae38_3 x26.Times.length ne38_3)])]) (fi := fx1) (k := kx1) (rfl)) hs6 (hpx1 w5 F1 (x26) ae38_2 ne38_2 hbe38_2 hse38_2 ae38_3 ne38_3 hbe38_3 hse38_3 _ le7 hs6.pers hr41) ?_
   intro v43 F3 w44 hs45 le46 hp47
   obtain rfl := hp47
   refine Nt ?_
   refine CWP.cond (t := r40) (by kernel_rfl) rfl (fun hb48 => ?_) (fun hb48 => ?_)
   ·have h49 := cond_t h42 hb48
    refine Sq (Rg [0, 1] ?_)
    refine V 17 3 (mv 5 (.int .i64 s4)) ?_
    refine V 4 3 (ma 17 (.int .i64 s4)) ?_
    refine Nt ?_
    refine CWP.ret (by kernel_rfl) ?_
    refine blockQ_ret ?_
    refine thenQ_ret ?_
    refine thenQ_ret ?_
    refine blockQ_ret ?_
    have hret := iter_ret h49 hnx23
    subst hret
    refine .inr ?_
    refine thenQ_ret ?_
    have hfin := some_inj h3
    subst hfin
    exact ⟨e8, (.int .i64 s4), res_of (l := [.tmp 4]) (by kernel_rfl) (vs := [(.int .i64 s4)]) ⟨rfl, trivial⟩, (.int .i64 s4), F3, rfl, hs45.clear, rfl⟩
   ·have h50 := cond_f h42 hb48
    refine Sc ?_
    refine blockQ_nrm ?_
    refine thenQ_nrm ?_
    refine Rg [0, 1] ?_
    refine V 18 3 (run_add (t := 3) (t' := 3) (x := (.tmp 8)) (y := (.const (.int .i64 1))) (k := .i64) (a := s4) (b := 1) e12 rfl) ?_
    refine V 8 3 (mv 18 (.int .i64 (W64 (s4 + 1)))) ?_
    refine RWP.nil ?_
    have hn51 := iter_next h50 hnx23
    exact ⟨m20, Nat.lt_succ_self _, (W64 (s4 + 1)), F3, hn51, hs45, (le7.trans le46), e8, e9, e10, e11, rfl⟩
  ·have h52 := cond_f hb22 hb24
   refine CWP.exit (by kernel_rfl) ?_
   refine thenQ_ex ?_
   refine thenQ_ex ?_
   refine blockQ_hit rfl ?_
   have ho53 := iter_done h52 hnx23
   exact .inl ⟨rfl, s4, F1, ho53, hs6, le7, e8⟩
 ·rintro f w14 ⟨s13, F2, rfl, hs15, le16, e17⟩
  have h54 := k_done h3
  refine thenQ_nrm ?_
  refine Sq (Rg [0] ?_)
  refine V 4 3 (mc (.int .i64 (-1)) (.int .i64 (-1))) ?_
  refine Nt ?_
  refine CWP.ret (by kernel_rfl) ?_
  have hfin := some_inj h54
  subst hfin
  exact ⟨e17, (.int .i64 (-1)), res_of (l := [.tmp 4]) (by kernel_rfl) (vs := [(.int .i64 (-1))]) ⟨rfl, trivial⟩, (.int .i64 (-1)), F2, rfl, hs15.clear, rfl⟩
end Go.Proofs.Ythbcnabeabcmlaa
namespace Go.Proofs.Ythbcnabeabcmlaa
open Go.Proofs
def slices_ContainsFunc_api_Track_api_Track (N : Nat) (x0 : (List Track)) (x1 : (Track → Option Bool)) : Option Bool :=
 ((slices_IndexFunc_api_Track_api_Track N x0 x1).bind fun r1 => some (decide (r1 ≥ 0)))
theorem co_slices_ContainsFunc_api_Track_api_Track : CallOk Try.prog 65 := fun _ _ => by kernel_rfl
set_option maxHeartbeats 4000000 in
set_option maxRecDepth 100000 in
theorem c_slices_ContainsFunc_api_Track_api_Track (N : Nat) (w0 : World) (F0 : Mem) (hF : ∀ b o, F0 b = some o → w0.heap[b]? = some o) (x0 : (List Track)) (a0_0 : Option Addr) (n0_0 : Nat) (hb0_0 : LC x0.length n0_0) (hs0_0 : SlA tTrack F0 a0_0 x0) (gx1 : FuncId) (fx1 kx1 : List Value) (x1 : Track → Option Bool) (hox1 : CallOk Try.prog gx1) (hpx1 : ∀ (w' : World) (F' : Mem) (y0 : Track) (ax1y0_2 : Option Addr) (nx1y0_2 : Nat) (hbx1y0_2 : LC y0.Clock.Jumps.length nx1y0_2) (hsx1y0_2 : SlA tInt F' ax1y0_2 y0.Clock.Jumps) (ax1y0_3 : Option Addr) (nx1y0_3 : Nat) (hbx1y0_3 : LC y0.Times.length nx1y0_3) (hsx1y0_3 : SlA tInt F' ax1y0_3 y0.Times) (r : Bool), Mem.le F0 F' → (∀ b o, F' b = some o → w'.heap[b]? = some o) → x1 y0 = some r → Calls Try.prog gx1 (fx1 ++ (([(.agg #[(.int .i64 y0.Clock.Slip), (.int .i64 y0.Clock.Drift), (.slice ax1y0_2 y0.Clock.Jumps.length nx1y0_2), (.slice ax1y0_3 y0.Times.length nx1y0_3)])] : List Value) ++ kx1)).toArray w' (FRet w' F' fun F'' v => v = (.bool r))) (r : Bool) (h : slices_ContainsFunc_api_Track_api_Track N x0 x1 = some r) :
  Calls Try.prog 65 ([(.slice a0_0 x0.length n0_0), (.func (.func gx1) fx1.toArray kx1.toArray)] : List Value).toArray w0 (FRet w0 F0 fun F' v => v = (.bool r)) := by
 have hs0 := HS.start hF
 refine calls_of (n := 9) (c := bodyOf Try.f65) Try.func65 (by kernel_rfl) (by kernel_rfl) (by kernel_rfl) ?_
 refine Sq (Rg [0] ?_)
 refine V 4 4 (mc (.bool false) (.bool false)) ?_
 refine Nss (Rg [0, 1, 2, 3, 4] ?_)
 refine V 5 22 (mv 0 (.slice a0_0 x0.length n0_0)) ?_
 refine V 6 61 (mv 1 (.func (.func gx1) fx1.toArray kx1.toArray)) ?_
 obtain ⟨r1, hr2, h3⟩ := bind_some h
 refine Cl 7 3 113 #[(.tmp 5), (.tmp 6)] #[22, 61] co_slices_IndexFunc_api_Track_api_Track hs0 (c_slices_IndexFunc_api_Track_api_Track N w0 F0 hs0.pers (x0) a0_0 n0_0 hb0_0 hs0_0 gx1 fx1 kx1 x1 hox1 (fun w1 F1 y0 ay0_2 ny0_2 hby0_2 hsy0_2 ay0_3 ny0_3 hby0_3 hsy0_3 r le1 pe1 hr1 => hpx1 w1 F1 y0 ay0_2 ny0_2 hby0_2 hsy0_2 ay0_3 ny0_3 hby0_3 hsy0_3 r (le1) pe1 hr1) _ hr2) ?_
 intro v4 F1 w5 hs6 le7 hp8
 obtain rfl := hp8
 refine V 8 4 (run_geq (t := 3) (t' := 3) (x := (.tmp 7)) (y := (.const (.int .i64 0))) (k := .i64) (a := r1) (b := 0) rfl rfl) ?_
 refine V 4 4 (ma 8 (.bool (decide (r1 ≥ 0)))) ?_
 refine Nt ?_
 refine CWP.ret (by kernel_rfl) ?_
 have hfin := some_inj h3
 subst hfin
 exact ⟨rfl, (.bool (decide (r1 ≥ 0))), res_of (l := [.tmp 4]) (by kernel_rfl) (vs := [(.bool (decide (r1 ≥ 0)))]) ⟨rfl, trivial⟩, (.bool (decide (r1 ≥ 0))), F1, rfl, hs6.clear, rfl⟩
end Go.Proofs.Ythbcnabeabcmlaa
namespace Go.Proofs.Ythbcnabeabcmlaa
open Go.Proofs
def clocks_within (N : Nat) (x0 : Int) (x1 : Int) (x2 : Int) : Option Bool :=
 some ((decide (x0 ≥ x1)) && (decide (x0 ≤ x2)))
theorem co_clocks_within : CallOk Try.prog 67 := fun _ _ => by kernel_rfl
set_option maxHeartbeats 4000000 in
set_option maxRecDepth 100000 in
theorem c_clocks_within (N : Nat) (w0 : World) (F0 : Mem) (hF : ∀ b o, F0 b = some o → w0.heap[b]? = some o) (x0 : Int) (x1 : Int) (x2 : Int) (r : Bool) (h : clocks_within N x0 x1 x2 = some r) :
  Calls Try.prog 67 ([(.int .i64 x0), (.int .i64 x1), (.int .i64 x2)] : List Value).toArray w0 (FRet w0 F0 fun F' v => v = (.bool r)) := by
 have hs0 := HS.start hF
 refine calls_of (n := 15) (c := bodyOf Try.f67) Try.func67 (by kernel_rfl) (by kernel_rfl) (by kernel_rfl) ?_
 refine Sq (Rg [0] ?_)
 refine V 6 4 (mc (.bool false) (.bool false)) ?_
 refine Nss (Rg [0, 1, 2, 3, 4, 5, 6, 7, 8] ?_)
 refine RWP.cut (fun f w => ∃ (F1 : Mem), HS w0 F0 w F1 [] ∧ Mem.le F0 F1 ∧ f.d = [] ∧ f 6 = (.bool ((decide (x0 ≥ x1)) && (decide (x0 ≤ x2))))) ?_ ?_
 ·refine V 7 3 (mv 0 (.int .i64 x0)) ?_
  refine V 8 3 (mv 1 (.int .i64 x1)) ?_
  refine V 9 4 (run_geq (t := 3) (t' := 3) (x := (.tmp 7)) (y := (.tmp 8)) (k := .i64) (a := x0) (b := x1) rfl rfl) ?_
  refine V 10 4 (mv 9 (.bool (decide (x0 ≥ x1)))) ?_
  refine RWP.split (decide (x0 ≥ x1)) (fun hb6 => ?_) (fun hb6 => ?_)
  ·refine Vg 11 3 3 true 10 hb6 (mv 0 (.int .i64 x0)) ?_
   refine Vg 12 3 3 true 10 hb6 (mv 2 (.int .i64 x2)) ?_
   refine Vg 13 4 3 true 10 hb6 (run_leq (t := 3) (t' := 3) (x := (.tmp 11)) (y := (.tmp 12)) (k := .i64) (a := x0) (b := x2) rfl rfl) ?_
   refine V 14 4 (p1 10 (.tmp 13) (.const (.bool false)) (.bool (decide (x0 ≤ x2))) hb6) ?_
   refine V 6 4 (ma 14 (.bool (decide (x0 ≤ x2)))) ?_
   exact RWP.nil ⟨rfl, F0, hs0, (Mem.le.refl _), rfl, (congrArg Value.bool (and_t hb6 (rfl)))⟩
  ·refine Sk [11, 12, 13] 3 true 10 hb6 ?_
   refine V 14 4 (p0 10 (.tmp 13) (.const (.bool false)) (.bool false) hb6) ?_
   refine V 6 4 (ma 14 (.bool false)) ?_
   exact RWP.nil ⟨rfl, F0, hs0, (Mem.le.refl _), rfl, (congrArg Value.bool (and_f hb6 (rfl)))⟩
 ·rintro f w1 ⟨F1, hs2, le3, e4, e5⟩
  refine thenQ_nrm ?_
  refine CWP.ret (by kernel_rfl) ?_
  have hfin := some_inj h
  subst hfin
  exact ⟨e4, (.bool ((decide (x0 ≥ x1)) && (decide (x0 ≤ x2)))), res_of (l := [.tmp 6]) (by kernel_rfl) (vs := [(.bool ((decide (x0 ≥ x1)) && (decide (x0 ≤ x2))))]) ⟨e5, trivial⟩, (.bool ((decide (x0 ≥ x1)) && (decide (x0 ≤ x2)))), F1, rfl, hs2.clear, rfl⟩
end Go.Proofs.Ythbcnabeabcmlaa
namespace Go.Proofs.Ythbcnabeabcmlaa
open Go.Proofs
def clocks_ValidClock_L0 (N : Nat) (x0 : Clock) : Int → Option (Flow Bool Int) := fun s7 =>
 (bif (decide (s7 < (x0.Jumps.length : Int))) then ((idx x0.Jumps s7).bind fun x30 => (((clocks_within N x30 0 20000).bind fun r56 => (bif (!r56) then some true else (bif (decide (s7 > 0)) then ((idx x0.Jumps (W64 (s7 - 1))).bind fun x69 => some (decide (x30 ≤ x69))) else some false))).bind fun j47 => (bif j47 then some (.ret false) else some (.next (W64 (s7 + 1)))))) else some (.done s7))
def clocks_ValidClock (N : Nat) (x0 : Clock) : Option Bool :=
 ((iter (clocks_ValidClock_L0 N x0) N 0).bind fun o => o.k (fun r => some r) (fun s16 => (((clocks_within N x0.Slip 0 1440).bind fun r91 => (bif r91 then ((clocks_within N x0.Drift 0 100).bind fun r101 => (bif r101 then some (decide ((x0.Jumps.length : Int) ≤ 16)) else some false)) else some false)).bind fun j86 => some j86)))
theorem co_clocks_ValidClock : CallOk Try.prog 36 := fun _ _ => by kernel_rfl
set_option maxHeartbeats 4000000 in
set_option maxRecDepth 100000 in
theorem c_clocks_ValidClock (N : Nat) (w0 : World) (F0 : Mem) (hF : ∀ b o, F0 b = some o → w0.heap[b]? = some o) (x0 : Clock) (a0_2 : Option Addr) (n0_2 : Nat) (hb0_2 : LC x0.Jumps.length n0_2) (hs0_2 : SlA tInt F0 a0_2 x0.Jumps) (r : Bool) (h : clocks_ValidClock N x0 = some r) :
  Calls Try.prog 36 ([(.agg #[(.int .i64 x0.Slip), (.int .i64 x0.Drift), (.slice a0_2 x0.Jumps.length n0_2)])] : List Value).toArray w0 (FRet w0 F0 fun F' v => v = (.bool r)) := by
 have hs0 := HS.start hF
 refine calls_of (n := 45) (c := bodyOf Try.f36) Try.func36 (by kernel_rfl) (by kernel_rfl) (by kernel_rfl) ?_
 refine Sq (Rg [0, 1] ?_)
 refine Bx 1 0 0 52 #[(.int .i64 x0.Slip), (.int .i64 x0.Drift), (.slice a0_2 x0.Jumps.length n0_2)] hs0 (fun b1 w2 (hs3 : HS w0 F0 w2 F0 [(some b1, (.cells #[(.int .i64 x0.Slip), (.int .i64 x0.Drift), (.slice a0_2 x0.Jumps.length n0_2)] 52 (0, 0)))]) => ?_)
 refine V 2 4 (mc (.bool false) (.bool false)) ?_
 refine Nss ?_
 refine Sq (Rg [0, 1, 2, 3] ?_)
 refine V 5 0 (fa 52 1 2 2 1 b1 0 2) ?_
 refine V 6 50 (ld 50 5 b1 2 false 1 (.slice a0_2 x0.Jumps.length n0_2) (hs3.ownAt (k := 0) rfl)) ?_
 refine V 7 3 (ln 6 50 a0_2 x0.Jumps.length n0_2 3 1 8) ?_
 refine V 8 3 (run_move (x := (.const (.int .i64 0))) (v := (.int .i64 0)) rfl) ?_
 refine Nt ?_
 obtain ⟨o4, ho5, h6⟩ := bind_some h
 refine CWP.cut (fun f w => ∃ (s16 : Int) (F2 : Mem), o4 = .done s16 ∧ HS w0 F0 w F2 [(some b1, (.cells #[(.int .i64 x0.Slip), (.int .i64 x0.Drift), (.slice a0_2 x0.Jumps.length n0_2)] 52 (0, 0)))] ∧ Mem.le F0 F2 ∧ f.d = [] ∧ f 1 = (.pointer (some ⟨b1, 0, none⟩))) ?_ ?_
 ·refine Bk ?_
  refine CWP.loop (by kernel_rfl) (fun m f w => ∃ (s7 : Int) (F1 : Mem), iter (clocks_ValidClock_L0 N x0) m s7 = some o4 ∧ HS w0 F0 w F1 [(some b1, (.cells #[(.int .i64 x0.Slip), (.int .i64 x0.Drift), (.slice a0_2 x0.Jumps.length n0_2)] 52 (0, 0)))] ∧ Mem.le F0 F1 ∧ f.d = [] ∧ f 1 = (.pointer (some ⟨b1, 0, none⟩)) ∧ f 6 = (.slice a0_2 x0.Jumps.length n0_2) ∧ f 7 = (.int .i64 (x0.Jumps.length : Int)) ∧ f 8 = (.int .i64 s7)) N ⟨0, F0, ho5, hs3, (Mem.le.refl _), rfl, rfl, rfl, rfl, rfl⟩ ?_
  rintro m22 f w8 ⟨s7, F1, hit23, hs9, le10, e11, e12, e13, e14, e15⟩
  obtain ⟨m24, fl25, rfl, hb26, hnx27⟩ := iter_step hit23
  refine Sq (Rg [0] ?_)
  refine V 9 0 (run_lss (t := 3) (t' := 3) (x := (.tmp 8)) (y := (.tmp 7)) (k := .i64) (a := s7) (b := (x0.Jumps.length : Int)) e15 e14) ?_
  refine Nss ?_
  refine CWP.cond (t := (decide (s7 < (x0.Jumps.length : Int)))) (by kernel_rfl) rfl (fun hb28 => ?_) (fun hb28 => ?_)
  ·have h29 := cond_t hb26 hb28
   refine Sc ?_
   refine thenQ_nrm ?_
   refine Sq ?_
   refine Bk ?_
   refine Sq (Rg [0, 1, 2, 3, 4] ?_)
   refine V 10 3 (mv 8 (.int .i64 s7) e15) ?_
   obtain ⟨x30, hx31, h33⟩ := bind_some h29
   obtain ⟨hi32, hx31'⟩ := idx_spec hx31
   obtain ⟨b34, o35, C36, E37, fz38, rfl, hF40, hE41⟩ := SlA.open (SlA.mono hs0_2 le10) hx31'
   have hc43 := hE41 _ _ hx31'
   refine V 11 0 (run_index (t := 50) (x := (.tmp 6)) (y := (.tmp 8)) (b := b34) (o := o35) (E := 3) (s := 1) (by_ := 8) e13 e15 (by kernel_rfl) hi32) ?_
   refine V 12 3 (lx 3 11 0 1 false 1 (.int .i64 x30) (hs9.pers _ _ hF40) hc43) ?_
   refine V 3 3 (ma 10 (.int .i64 s7)) ?_
   refine V 4 3 (ma 12 (.int .i64 x30)) ?_
   refine Nss (Rg [0, 1, 2, 3, 4, 5, 6, 7, 8, 9, 10, 11, 12, 13, 14, 15, 16] ?_)
   obtain ⟨j47, hj54, h55⟩ := bind_some h33
   refine RWP.cut (fun f w => ∃ (F3 : Mem), HS w0 F0 w F3 [(some b1, (.cells #[(.int .i64 x0.Slip), (.int .i64 x0.Drift), (.slice (some ⟨b34, o35, none⟩) x0.Jumps.length n0_2)] 52 (0, 0)))] ∧ Mem.le F1 F3 ∧ f.d = [] ∧ f 1 = (.pointer (some ⟨b1, 0, none⟩)) ∧ f 6 = (.slice (some ⟨b34, o35, none⟩) x0.Jumps.length n0_2) ∧ f 7 = (.int .i64 (x0.Jumps.length : Int)) ∧ f 8 = (.int .i64 s7) ∧ f 29 = (.bool j47)) ?_ ?_
   ·refine V 13 3 (mv 4 (.int .i64 x30)) ?_
    obtain ⟨r56, hr57, h58⟩ := bind_some hj54
    refine Cl 14 4 67 #[(.tmp 13), (.const (.int .i64 0)), (.const (.int .i64 20000))] #[3, 3, 3] co_clocks_within hs9 (c_clocks_within N w8 F1 hs9.pers (x30) (0) (20000) _ hr57) ?_
    intro v59 F4 w60 hs61 le62 hp63
    obtain rfl := hp63
    refine V 15 4 (run_not (t := 4) (x := (.tmp 14)) (a := r56) rfl) ?_
    refine V 16 4 (mv 15 (.bool (!r56))) ?_
    refine RWP.split (!r56) (fun hb64 => ?_) (fun hb64 => ?_)
    ·have h65 := cond_t h58 hb64
     refine Sk [17, 18, 19] 3 false 16 hb64 ?_
     refine Su [20, 21, 22, 23, 24, 25, 26, 27] 6 true 19 ?_
     refine Sk [28] 3 false 16 hb64 ?_
     refine V 29 4 (p1 16 (.const (.bool true)) (.tmp 28) (.bool true) hb64) ?_
     obtain rfl := some_inj h65
     exact RWP.nil ⟨rfl, F4, hs61, le62, e11, e12, e13, e14, e15, rfl⟩
    ·have h66 := cond_f h58 hb64
     refine Vg 17 3 3 false 16 hb64 (mv 3 (.int .i64 s7)) ?_
     refine Vg 18 4 3 false 16 hb64 (run_gtr (t := 3) (t' := 3) (x := (.tmp 17)) (y := (.const (.int .i64 0))) (k := .i64) (a := s7) (b := 0) rfl rfl) ?_
     refine Vg 19 4 3 false 16 hb64 (mv 18 (.bool (decide (s7 > 0)))) ?_
     refine RWP.split (decide (s7 > 0)) (fun hb67 => ?_) (fun hb67 => ?_)
     ·have h68 := cond_t h66 hb67
      refine Vg 20 3 6 true 19 hb67 (mv 4 (.int .i64 x30)) ?_
      refine Vg 21 0 6 true 19 hb67 (fa 52 1 2 2 1 b1 0 2 e12) ?_
      refine Vg 22 50 6 true 19 hb67 (ld 50 21 b1 2 false 1 (.slice (some ⟨b34, o35, none⟩) x0.Jumps.length n0_2) (hs61.ownAt (k := 0) rfl)) ?_
      refine Vg 23 3 6 true 19 hb67 (mv 3 (.int .i64 s7)) ?_
      refine Vg 24 3 6 true 19 hb67 (run_sub (t := 3) (t' := 3) (x := (.tmp 23)) (y := (.const (.int .i64 1))) (k := .i64) (a := s7) (b := 1) rfl rfl) ?_
      obtain ⟨x69, hx70, h72⟩ := bind_some h68
      obtain ⟨hi71, hx70'⟩ := idx_spec hx70
      have hc74 := hE41 _ _ hx70'
      refine Vg 25 0 6 true 19 hb67 (ix 50 22 24 b34 o35 3 1 8 hi71) ?_
      refine Vg 26 3 6 true 19 hb67 (lx 3 25 0 1 false 1 (.int .i64 x69) (hs61.pers _ _ (le62 _ _ hF40)) hc74) ?_
      refine Vg 27 4 6 true 19 hb67 (run_leq (t := 3) (t' := 3) (x := (.tmp 20)) (y := (.tmp 26)) (k := .i64) (a := x30) (b := x69) rfl rfl) ?_
      refine Vg 28 4 3 false 16 hb64 (p1 19 (.tmp 27) (.const (.bool false)) (.bool (decide (x30 ≤ x69))) hb67) ?_
      refine V 29 4 (p0 16 (.const (.bool true)) (.tmp 28) (.bool (decide (x30 ≤ x69))) hb64) ?_
      obtain rfl := some_inj h72
      exact RWP.nil ⟨rfl, F4, hs61, le62, e11, e12, e13, e14, e15, rfl⟩
     ·have h75 := cond_f h66 hb67
      refine Sk [20, 21, 22, 23, 24, 25, 26, 27] 6 true 19 hb67 ?_
      refine Vg 28 4 3 false 16 hb64 (p0 19 (.tmp 27) (.const (.bool false)) (.bool false) hb67) ?_
      refine V 29 4 (p0 16 (.const (.bool true)) (.tmp 28) (.bool false) hb64) ?_
      obtain rfl := some_inj h75
      exact RWP.nil ⟨rfl, F4, hs61, le62, e11, e12, e13, e14, e15, rfl⟩
   ·rintro f w44 ⟨F3, hs45, le46, e48, e49, e50, e51, e52, e53⟩
    refine thenQ_nrm ?_
    refine CWP.cond (t := j47) (by kernel_rfl) e53 (fun hb76 => ?_) (fun hb76 => ?_)
    ·have h77 := cond_t h55 hb76
     refine Sq (Rg [0] ?_)
     refine V 2 4 (mc (.bool false) (.bool false)) ?_
     refine Nt ?_
     refine CWP.ret (by kernel_rfl) ?_
     refine blockQ_ret ?_
     refine thenQ_ret ?_
     refine thenQ_ret ?_
     refine blockQ_ret ?_
     have hret := iter_ret h77 hnx27
     subst hret
     refine .inr ?_
     refine thenQ_ret ?_
     have hfin := some_inj h6
     subst hfin
     exact ⟨e48, (.bool false), res_of (l := [.tmp 2]) (by kernel_rfl) (vs := [(.bool false)]) ⟨rfl, trivial⟩, (.bool false), F3, rfl, hs45.clear, rfl⟩
    ·have h78 := cond_f h55 hb76
     refine Sc ?_
     refine blockQ_nrm ?_
     refine thenQ_nrm ?_
     refine Rg [0, 1] ?_
     refine V 30 3 (run_add (t := 3) (t' := 3) (x := (.tmp 8)) (y := (.const (.int .i64 1))) (k := .i64) (a := s7) (b := 1) e52 rfl) ?_
     refine V 8 3 (mv 30 (.int .i64 (W64 (s7 + 1)))) ?_
     refine RWP.nil ?_
     have hn79 := iter_next h78 hnx27
     exact ⟨m24, Nat.lt_succ_self _, (W64 (s7 + 1)), F3, hn79, hs45, (le10.trans le46), e48, e49, e50, e51, rfl⟩
  ·have h80 := cond_f hb26 hb28
   refine CWP.exit (by kernel_rfl) ?_
   refine thenQ_ex ?_
   refine thenQ_ex ?_
   refine blockQ_hit rfl ?_
   have ho81 := iter_done h80 hnx27
   exact .inl ⟨rfl, s7, F1, ho81, hs9, le10, e11, e12⟩
 ·rintro f w17 ⟨s16, F2, rfl, hs18, le19, e20, e21⟩
  have h82 := k_done h6
  refine thenQ_nrm ?_
  refine Sq (Rg [0, 1, 2, 3, 4, 5, 6, 7, 8, 9, 10, 11, 12, 13, 14] ?_)
  obtain ⟨j86, hj89, h90⟩ := bind_some h82
  refine RWP.cut (fun f w => ∃ (F5 : Mem), HS w0 F0 w F5 [] ∧ Mem.le F2 F5 ∧ f.d = [] ∧ f 2 = (.bool j86)) ?_ ?_
  ·refine V 31 0 (fa 52 1 0 0 1 b1 0 0 e21) ?_
   refine V 32 3 (ld 3 31 b1 0 false 1 (.int .i64 x0.Slip) (hs18.ownAt (k := 0) rfl)) ?_
   obtain ⟨r91, hr92, h93⟩ := bind_some hj89
   refine Cl 33 4 67 #[(.tmp 32), (.const (.int .i64 0)), (.const (.int .i64 1440))] #[3, 3, 3] co_clocks_within hs18 (c_clocks_within N w17 F2 hs18.pers (x0.Slip) (0) (1440) _ hr92) ?_
   intro v94 F6 w95 hs96 le97 hp98
   obtain rfl := hp98
   refine V 34 4 (mv 33 (.bool r91)) ?_
   refine RWP.split r91 (fun hb99 => ?_) (fun hb99 => ?_)
   ·have h100 := cond_t h93 hb99
    refine Vg 35 0 3 true 34 hb99 (fa 52 1 1 1 1 b1 0 1 e21) ?_
    refine Vg 36 3 3 true 34 hb99 (ld 3 35 b1 1 false 1 (.int .i64 x0.Drift) (hs96.ownAt (k := 0) rfl)) ?_
    obtain ⟨r101, hr102, h103⟩ := bind_some h100
    refine RWP.call (dst := (some 37)) (ty := 4) (g := (some (3, true))) (by kernel_rfl) (gd_y (d := 34) (by kernel_rfl) rfl hb99) (f0 := (.func 67)) (aos := #[(.tmp 36), (.const (.int .i64 0)), (.const (.int .i64 100))]) (ats := #[3, 3, 3]) (fid := 67) (first := #[]) (cap := #[]) (args := [(.int .i64 x0.Drift), (.int .i64 0), (.int .i64 100)]) rfl co_clocks_within (rfl) hs96 (c_clocks_within N w95 F6 hs96.pers (x0.Drift) (0) (100) _ hr102) ?_
    intro v104 F7 w105 hs106 le107 hp108
    obtain rfl := hp108
    refine V 38 4 (p1 34 (.tmp 37) (.const (.bool false)) (.bool r101) hb99) ?_
    refine V 39 4 (mv 38 (.bool r101)) ?_
    refine RWP.split r101 (fun hb109 => ?_) (fun hb109 => ?_)
    ·have h110 := cond_t h103 hb109
     refine Vg 40 0 8 true 39 hb109 (fa 52 1 2 2 1 b1 0 2 e21) ?_
     refine Vg 41 50 8 true 39 hb109 (ld 50 40 b1 2 false 1 (.slice a0_2 x0.Jumps.length n0_2) (hs106.ownAt (k := 0) rfl)) ?_
     refine Vg 42 3 8 true 39 hb109 (ln 41 50 a0_2 x0.Jumps.length n0_2 3 1 8) ?_
     refine Vg 43 4 8 true 39 hb109 (run_leq (t := 3) (t' := 3) (x := (.tmp 42)) (y := (.const (.int .i64 16))) (k := .i64) (a := (x0.Jumps.length : Int)) (b := 16) rfl rfl) ?_
     refine V 44 4 (p1 39 (.tmp 43) (.const (.bool false)) (.bool (decide ((x0.Jumps.length : Int) ≤ 16))) hb109) ?_
     refine V 2 4 (ma 44 (.bool (decide ((x0.Jumps.length : Int) ≤ 16)))) ?_
     obtain rfl := some_inj h110
     have hs111 : HS w0 F0 w105 F7 [] := hs106.drop 0
     exact RWP.nil ⟨rfl, F7, hs111, (le97.trans le107), e20, rfl⟩
    ·have h112 := cond_f h103 hb109
     refine Sk [40, 41, 42, 43] 8 true 39 hb109 ?_
     refine V 44 4 (p0 39 (.tmp 43) (.const (.bool false)) (.bool false) hb109) ?_
     refine V 2 4 (ma 44 (.bool false)) ?_
     obtain rfl := some_inj h112
     have hs113 : HS w0 F0 w105 F7 [] := hs106.drop 0
     exact RWP.nil ⟨rfl, F7, hs113, (le97.trans le107), e20, rfl⟩
   ·have h114 := cond_f h93 hb99
    refine Sk [35, 36, 37] 3 true 34 hb99 ?_
    refine V 38 4 (p0 34 (.tmp 37) (.const (.bool false)) (.bool false) hb99) ?_
    refine V 39 4 (mv 38 (.bool false)) ?_
    refine Sk [40, 41, 42, 43] 8 true 39 rfl ?_
    refine V 44 4 (p0 39 (.tmp 43) (.const (.bool false)) (.bool false) rfl) ?_
    refine V 2 4 (ma 44 (.bool false)) ?_
    obtain rfl := some_inj h114
    have hs115 : HS w0 F0 w95 F6 [] := hs96.drop 0
    exact RWP.nil ⟨rfl, F6, hs115, le97, e20, rfl⟩
  ·rintro f w83 ⟨F5, hs84, le85, e87, e88⟩
   refine thenQ_nrm ?_
   refine CWP.ret (by kernel_rfl) ?_
   have hfin := some_inj h90
   subst hfin
   exact ⟨e87, (.bool j86), res_of (l := [.tmp 2]) (by kernel_rfl) (vs := [(.bool j86)]) ⟨e88, trivial⟩, (.bool j86), F5, rfl, hs84.clear, rfl⟩
end Go.Proofs.Ythbcnabeabcmlaa
namespace Go.Proofs.Ythbcnabeabcmlaa
open Go.Proofs
def clocks_ValidTrack_L0 (N : Nat) (x0 : Track) : Int → Option (Flow Bool Int) := fun s7 =>
 (bif (decide (s7 < (x0.Times.length : Int))) then ((idx x0.Times s7).bind fun x30 => (((clocks_within N x30 0 20000).bind fun r56 => (bif (!r56) then some true else (bif (decide (s7 > 0)) then ((idx x0.Times (W64 (s7 - 1))).bind fun x69 => some (decide (x30 < x69))) else some false))).bind fun j47 => (bif j47 then some (.ret false) else some (.next (W64 (s7 + 1)))))) else some (.done s7))
def clocks_ValidTrack (N : Nat) (x0 : Track) : Option Bool :=
 ((iter (clocks_ValidTrack_L0 N x0) N 0).bind fun o => o.k (fun r => some r) (fun s16 => (((clocks_ValidClock N x0.Clock).bind fun r91 => (bif r91 then some (decide ((x0.Times.length : Int) ≤ 400)) else some false)).bind fun j86 => some j86)))
theorem co_clocks_ValidTrack : CallOk Try.prog 38 := fun _ _ => by kernel_rfl
set_option maxHeartbeats 4000000 in
set_option maxRecDepth 100000 in
theorem c_clocks_ValidTrack (N : Nat) (w0 : World) (F0 : Mem) (hF : ∀ b o, F0 b = some o → w0.heap[b]? = some o) (x0 : Track) (a0_2 : Option Addr) (n0_2 : Nat) (hb0_2 : LC x0.Clock.Jumps.length n0_2) (hs0_2 : SlA tInt F0 a0_2 x0.Clock.Jumps) (a0_3 : Option Addr) (n0_3 : Nat) (hb0_3 : LC x0.Times.length n0_3) (hs0_3 : SlA tInt F0 a0_3 x0.Times) (r : Bool) (h : clocks_ValidTrack N x0 = some r) :
  Calls Try.prog 38 ([(.agg #[(.int .i64 x0.Clock.Slip), (.int .i64 x0.Clock.Drift), (.slice a0_2 x0.Clock.Jumps.length n0_2), (.slice a0_3 x0.Times.length n0_3)])] : List Value).toArray w0 (FRet w0 F0 fun F' v => v = (.bool r)) := by
 have hs0 := HS.start hF
 refine calls_of (n := 40) (c := bodyOf Try.f38) Try.func38 (by kernel_rfl) (by kernel_rfl) (by kernel_rfl) ?_
 refine Sq (Rg [0, 1] ?_)
 refine Bx 1 0 0 54 #[(.int .i64 x0.Clock.Slip), (.int .i64 x0.Clock.Drift), (.slice a0_2 x0.Clock.Jumps.length n0_2), (.slice a0_3 x0.Times.length n0_3)] hs0 (fun b1 w2 (hs3 : HS w0 F0 w2 F0 [(some b1, (.cells #[(.int .i64 x0.Clock.Slip), (.int .i64 x0.Clock.Drift), (.slice a0_2 x0.Clock.Jumps.length n0_2), (.slice a0_3 x0.Times.length n0_3)] 54 (0, 0)))]) => ?_)
 refine V 2 4 (mc (.bool false) (.bool false)) ?_
 refine Nss ?_
 refine Sq (Rg [0, 1, 2, 3] ?_)
 refine V 5 0 (fa 54 1 1 3 1 b1 0 3) ?_
 refine V 6 50 (ld 50 5 b1 3 false 1 (.slice a0_3 x0.Times.length n0_3) (hs3.ownAt (k := 0) rfl)) ?_
 refine V 7 3 (ln 6 50 a0_3 x0.Times.length n0_3 3 1 8) ?_
 refine V 8 3 (run_move (x := (.const (.int .i64 0))) (v := (.int .i64 0)) rfl) ?_
 refine Nt ?_
 obtain ⟨o4, ho5, h6⟩ := bind_some h
 refine CWP.cut (fun f w => ∃ (s16 : Int) (F2 : Mem), o4 = .done s16 ∧ HS w0 F0 w F2 [(some b1, (.cells #[(.int .i64 x0.Clock.Slip), (.int .i64 x0.Clock.Drift), (.slice a0_2 x0.Clock.Jumps.length n0_2), (.slice a0_3 x0.Times.length n0_3)] 54 (0, 0)))] ∧ Mem.le F0 F2 ∧ f.d = [] ∧ f 1 = (.pointer (some ⟨b1, 0, none⟩))) ?_ ?_
 ·refine Bk ?_
  refine CWP.loop (by kernel_rfl) (fun m f w => ∃ (s7 : Int) (F1 : Mem), iter (clocks_ValidTrack_L0 N x0) m s7 = some o4 ∧ HS w0 F0 w F1 [(some b1, (.cells #[(.int .i64 x0.Clock.Slip), (.int .i64 x0.Clock.Drift), (.slice a0_2 x0.Clock.Jumps.length n0_2), (.slice a0_3 x0.Times.length n0_3)] 54 (0, 0)))] ∧ Mem.le F0 F1 ∧ f.d = [] ∧ f 1 = (.pointer (some ⟨b1, 0, none⟩)) ∧ f 6 = (.slice a0_3 x0.Times.length n0_3) ∧ f 7 = (.int .i64 (x0.Times.length : Int)) ∧ f 8 = (.int .i64 s7)) N ⟨0, F0, ho5, hs3, (Mem.le.refl _), rfl, rfl, rfl, rfl, rfl⟩ ?_
  rintro m22 f w8 ⟨s7, F1, hit23, hs9, le10, e11, e12, e13, e14, e15⟩
  obtain ⟨m24, fl25, rfl, hb26, hnx27⟩ := iter_step hit23
  refine Sq (Rg [0] ?_)
  refine V 9 0 (run_lss (t := 3) (t' := 3) (x := (.tmp 8)) (y := (.tmp 7)) (k := .i64) (a := s7) (b := (x0.Times.length : Int)) e15 e14) ?_
  refine Nss ?_
  refine CWP.cond (t := (decide (s7 < (x0.Times.length : Int)))) (by kernel_rfl) rfl (fun hb28 => ?_) (fun hb28 => ?_)
  ·have h29 := cond_t hb26 hb28
   refine Sc ?_
   refine thenQ_nrm ?_
   refine Sq ?_
   refine Bk ?_
   refine Sq (Rg [0, 1, 2, 3, 4] ?_)
   refine V 10 3 (mv 8 (.int .i64 s7) e15) ?_
   obtain ⟨x30, hx31, h33⟩ := bind_some h29
   obtain ⟨hi32, hx31'⟩ := idx_spec hx31
   obtain ⟨b34, o35, C36, E37, fz38, rfl, hF40, hE41⟩ := SlA.open (SlA.mono hs0_3 le10) hx31'
   have hc43 := hE41 _ _ hx31'
   refine V 11 0 (run_index (t := 50) (x := (.tmp 6)) (y := (.tmp 8)) (b := b34) (o := o35) (E := 3) (s := 1) (by_ := 8) e13 e15 (by kernel_rfl) hi32) ?_
   refine V 12 3 (lx 3 11 0 1 false 1 (.int .i64 x30) (hs9.pers _ _ hF40) hc43) ?_
   refine V 3 3 (ma 10 (.int .i64 s7)) ?_
   refine V 4 3 (ma 12 (.int .i64 x30)) ?_
   refine Nss (Rg [0, 1, 2, 3, 4, 5, 6, 7, 8, 9, 10, 11, 12, 13, 14, 15, 16] ?_)
   obtain ⟨j47, hj54, h55⟩ := bind_some h33
   refine RWP.cut (fun f w => ∃ (F3 : Mem), HS w0 F0 w F3 [(some b1, (.cells #[(.int .i64 x0.Clock.Slip), (.int .i64 x0.Clock.Drift), (.slice a0_2 x0.Clock.Jumps.length n0_2), (.slice (some ⟨b34, o35, none⟩) x0.Times.length n0_3)] 54 (0, 0)))] ∧ Mem.le F1 F3 ∧ f.d = [] ∧ f 1 = (.pointer (some ⟨b1, 0, none⟩)) ∧ f 6 = (.slice (some ⟨b34, o35, none⟩) x0.Times.length n0_3) ∧ f 7 = (.int .i64 (x0.Times.length : Int)) ∧ f 8 = (.int .i64 s7) ∧ f 29 = (.bool j47)) ?_ ?_
   ·refine V 13 3 (mv 4 (.int .i64 x30)) ?_
    obtain ⟨r56, hr57, h58⟩ := bind_some hj54
    refine Cl 14 4 67 #[(.tmp 13), (.const (.int .i64 0)), (.const (.int .i64 20000))] #[3, 3, 3] co_clocks_within hs9 (c_clocks_within N w8 F1 hs9.pers (x30) (0) (20000) _ hr57) ?_
    intro v59 F4 w60 hs61 le62 hp63
    obtain rfl := hp63
    refine V 15 4 (run_not (t := 4) (x := (.tmp 14)) (a := r56) rfl) ?_
    refine V 16 4 (mv 15 (.bool (!r56))) ?_
    refine RWP.split (!r56) (fun hb64 => ?_) (fun hb64 => ?_)
    ·have h65 := cond_t h58 hb64
     refine Sk [17, 18, 19] 3 false 16 hb64 ?_
     refine Su [20, 21, 22, 23, 24, 25, 26, 27] 6 true 19 ?_
     refine Sk [28] 3 false 16 hb64 ?_
     refine V 29 4 (p1 16 (.const (.bool true)) (.tmp 28) (.bool true) hb64) ?_
     obtain rfl := some_inj h65
     exact RWP.nil ⟨rfl, F4, hs61, le62, e11, e12, e13, e14, e15, rfl⟩
    ·have h66 := cond_f h58 hb64
     refine Vg 17 3 3 false 16 hb64 (mv 3 (.int .i64 s7)) ?_
     refine Vg 18 4 3 false 16 hb64 (run_gtr (t := 3) (t' := 3) (x := (.tmp 17)) (y := (.const (.int .i64 0))) (k := .i64) (a := s7) (b := 0) rfl rfl) ?_
     refine Vg 19 4 3 false 16 hb64 (mv 18 (.bool (decide (s7 > 0)))) ?_
     refine RWP.split (decide (s7 > 0)) (fun hb67 => ?_) (fun hb67 => ?_)
     ·have h68 := cond_t h66 hb67
      refine Vg 20 3 6 true 19 hb67 (mv 4 (.int .i64 x30)) ?_
      refine Vg 21 0 6 true 19 hb67 (fa 54 1 1 3 1 b1 0 3 e12) ?_
      refine Vg 22 50 6 true 19 hb67 (ld 50 21 b1 3 false 1 (.slice (some ⟨b34, o35, none⟩) x0.Times.length n0_3) (hs61.ownAt (k := 0) rfl)) ?_
      refine Vg 23 3 6 true 19 hb67 (mv 3 (.int .i64 s7)) ?_
      refine Vg 24 3 6 true 19 hb67 (run_sub (t := 3) (t' := 3) (x := (.tmp 23)) (y := (.const (.int .i64 1))) (k := .i64) (a := s7) (b := 1) rfl rfl) ?_
      obtain ⟨x69, hx70, h72⟩ := bind_some h68
      obtain ⟨hi71, hx70'⟩ := idx_spec hx70
      have hc74 := hE41 _ _ hx70'
      refine Vg 25 0 6 true 19 hb67 (ix 50 22 24 b34 o35 3 1 8 hi71) ?_
      refine Vg 26 3 6 true 19 hb67 (lx 3 25 0 1 false 1 (.int .i64 x69) (hs61.pers _ _ (le62 _ _ hF40)) hc74) ?_
      refine Vg 27 4 6 true 19 hb67 (run_lss (t := 3) (t' := 3) (x := (.tmp 20)) (y := (.tmp 26)) (k := .i64) (a := x30) (b := x69) rfl rfl) ?_
      refine Vg 28 4 3 false 16 hb64 (p1 19 (.tmp 27) (.const (.bool false)) (.bool (decide (x30 < x69))) hb67) ?_
      refine V 29 4 (p0 16 (.const (.bool true)) (.tmp 28) (.bool (decide (x30 < x69))) hb64) ?_
      obtain rfl := some_inj h72
      exact RWP.nil ⟨rfl, F4, hs61, le62, e11, e12, e13, e14, e15, rfl⟩
     ·have h75 := cond_f h66 hb67
      refine Sk [20, 21, 22, 23, 24, 25, 26, 27] 6 true 19 hb67 ?_
      refine Vg 28 4 3 false 16 hb64 (p0 19 (.tmp 27) (.const (.bool false)) (.bool false) hb67) ?_
      refine V 29 4 (p0 16 (.const (.bool true)) (.tmp 28) (.bool false) hb64) ?_
      obtain rfl := some_inj h75
      exact RWP.nil ⟨rfl, F4, hs61, le62, e11, e12, e13, e14, e15, rfl⟩
   ·rintro f w44 ⟨F3, hs45, le46, e48, e49, e50, e51, e52, e53⟩
    refine thenQ_nrm ?_
    refine CWP.cond (t := j47) (by kernel_rfl) e53 (fun hb76 => ?_) (fun hb76 => ?_)
    ·have h77 := cond_t h55 hb76
     refine Sq (Rg [0] ?_)
     refine V 2 4 (mc (.bool false) (.bool false)) ?_
     refine Nt ?_
     refine CWP.ret (by kernel_rfl) ?_
     refine blockQ_ret ?_
     refine thenQ_ret ?_
     refine thenQ_ret ?_
     refine blockQ_ret ?_
     have hret := iter_ret h77 hnx27
     subst hret
     refine .inr ?_
     refine thenQ_ret ?_
     have hfin := some_inj h6
     subst hfin
     exact ⟨e48, (.bool false), res_of (l := [.tmp 2]) (by kernel_rfl) (vs := [(.bool false)]) ⟨rfl, trivial⟩, (.bool false), F3, rfl, hs45.clear, rfl⟩
    ·have h78 := cond_f h55 hb76
     refine Sc ?_
     refine blockQ_nrm ?_
     refine thenQ_nrm ?_
     refine Rg [0, 1] ?_
     refine V 30 3 (run_add (t := 3) (t' := 3) (x := (.tmp 8)) (y := (.const (.int .i64 1))) (k := .i64) (a := s7) (b := 1) e52 rfl) ?_
     refine V 8 3 (mv 30 (.int .i64 (W64 (s7 + 1)))) ?_
     refine RWP.nil ?_
     have hn79 := iter_next h78 hnx27
     exact ⟨m24, Nat.lt_succ_self _, (W64 (s7 + 1)), F3, hn79, hs45, (le10.trans le46), e48, e49, e50, e51, rfl⟩
  ·have h80 := cond_f hb26 hb28
   refine CWP.exit (by kernel_rfl) ?_
   refine thenQ_ex ?_
   refine thenQ_ex ?_
   refine blockQ_hit rfl ?_
   have ho81 := iter_done h80 hnx27
   exact .inl ⟨rfl, s7, F1, ho81, hs9, le10, e11, e12⟩
 ·rintro f w17 ⟨s16, F2, rfl, hs18, le19, e20, e21⟩
  have h82 := k_done h6
  refine thenQ_nrm ?_
  refine Sq (Rg [0, 1, 2, 3, 4, 5, 6, 7, 8, 9] ?_)
  obtain ⟨j86, hj89, h90⟩ := bind_some h82
  refine RWP.cut (fun f w => ∃ (F5 : Mem), HS w0 F0 w F5 [] ∧ Mem.le F2 F5 ∧ f.d = [] ∧ f 2 = (.bool j86)) ?_ ?_
  ·refine V 31 0 (fa 54 1 0 0 3 b1 0 0 e21) ?_
   refine V 32 52 (ld 52 31 b1 0 true 3 (.agg #[(.int .i64 x0.Clock.Slip), (.int .i64 x0.Clock.Drift), (.slice a0_2 x0.Clock.Jumps.length n0_2)]) (hs18.ownAt (k := 0) rfl)) ?_
   obtain ⟨r91, hr92, h93⟩ := bind_some hj89
   refine Cl 33 4 36 #[(.tmp 32)] #[52] co_clocks_ValidClock hs18 (c_clocks_ValidClock N w17 F2 hs18.pers (x0.Clock) a0_2 n0_2 hb0_2 (SlA.mono hs0_2 le19) _ hr92) ?_
   intro v94 F6 w95 hs96 le97 hp98
   obtain rfl := hp98
   refine V 34 4 (mv 33 (.bool r91)) ?_
   refine RWP.split r91 (fun hb99 => ?_) (fun hb99 => ?_)
   ·have h100 := cond_t h93 hb99
    refine Vg 35 0 3 true 34 hb99 (fa 54 1 1 3 1 b1 0 3 e21) ?_
    refine Vg 36 50 3 true 34 hb99 (ld 50 35 b1 3 false 1 (.slice a0_3 x0.Times.length n0_3) (hs96.ownAt (k := 0) rfl)) ?_
    refine Vg 37 3 3 true 34 hb99 (ln 36 50 a0_3 x0.Times.length n0_3 3 1 8) ?_
    refine Vg 38 4 3 true 34 hb99 (run_leq (t := 3) (t' := 3) (x := (.tmp 37)) (y := (.const (.int .i64 400))) (k := .i64) (a := (x0.Times.length : Int)) (b := 400) rfl rfl) ?_
    refine V 39 4 (p1 34 (.tmp 38) (.const (.bool false)) (.bool (decide ((x0.Times.length : Int) ≤ 400))) hb99) ?_
    refine V 2 4 (ma 39 (.bool (decide ((x0.Times.length : Int) ≤ 400)))) ?_
    obtain rfl := some_inj h100
    have hs101 : HS w0 F0 w95 F6 [] := hs96.drop 0
    exact RWP.nil ⟨rfl, F6, hs101, le97, e20, rfl⟩
   ·have h102 := cond_f h93 hb99
    refine Sk [35, 36, 37, 38] 3 true 34 hb99 ?_
    refine V 39 4 (p0 34 (.tmp 38) (.const (.bool false)) (.bool false) hb99) ?_
    refine V 2 4 (ma 39 (.bool false)) ?_
    obtain rfl := some_inj h102
    have hs103 : HS w0 F0 w95 F6 [] := hs96.drop 0
    exact RWP.nil ⟨rfl, F6, hs103, le97, e20, rfl⟩
  ·rintro f w83 ⟨F5, hs84, le85, e87, e88⟩
   refine thenQ_nrm ?_
   refine CWP.ret (by kernel_rfl) ?_
   have hfin := some_inj h90
   subst hfin
   exact ⟨e87, (.bool j86), res_of (l := [.tmp 2]) (by kernel_rfl) (vs := [(.bool j86)]) ⟨e88, trivial⟩, (.bool j86), F5, rfl, hs84.clear, rfl⟩
end Go.Proofs.Ythbcnabeabcmlaa
namespace Go.Proofs.Ythbcnabeabcmlaa
open Go.Proofs
def clocks_Check_1 (N : Nat) (x0 : Track) : Option Bool :=
 ((clocks_ValidTrack N x0).bind fun r4 => some (!r4))
theorem co_clocks_Check_1 : CallOk Try.prog 66 := fun _ _ => by kernel_rfl
set_option maxHeartbeats 4000000 in
set_option maxRecDepth 100000 in
theorem c_clocks_Check_1 (N : Nat) (w0 : World) (F0 : Mem) (hF : ∀ b o, F0 b = some o → w0.heap[b]? = some o) (x0 : Track) (a0_2 : Option Addr) (n0_2 : Nat) (hb0_2 : LC x0.Clock.Jumps.length n0_2) (hs0_2 : SlA tInt F0 a0_2 x0.Clock.Jumps) (a0_3 : Option Addr) (n0_3 : Nat) (hb0_3 : LC x0.Times.length n0_3) (hs0_3 : SlA tInt F0 a0_3 x0.Times) (r : Bool) (h : clocks_Check_1 N x0 = some r) :
  Calls Try.prog 66 ([(.agg #[(.int .i64 x0.Clock.Slip), (.int .i64 x0.Clock.Drift), (.slice a0_2 x0.Clock.Jumps.length n0_2), (.slice a0_3 x0.Times.length n0_3)])] : List Value).toArray w0 (FRet w0 F0 fun F' v => v = (.bool r)) := by
 have hs0 := HS.start hF
 refine calls_of (n := 6) (c := bodyOf Try.f66) Try.func66 (by kernel_rfl) (by kernel_rfl) (by kernel_rfl) ?_
 refine Sq (Rg [0, 1] ?_)
 refine Bx 1 0 0 54 #[(.int .i64 x0.Clock.Slip), (.int .i64 x0.Clock.Drift), (.slice a0_2 x0.Clock.Jumps.length n0_2), (.slice a0_3 x0.Times.length n0_3)] hs0 (fun b1 w2 (hs3 : HS w0 F0 w2 F0 [(some b1, (.cells #[(.int .i64 x0.Clock.Slip), (.int .i64 x0.Clock.Drift), (.slice a0_2 x0.Clock.Jumps.length n0_2), (.slice a0_3 x0.Times.length n0_3)] 54 (0, 0)))]) => ?_)
 refine V 2 4 (mc (.bool false) (.bool false)) ?_
 refine Nss (Rg [0, 1, 2, 3] ?_)
 refine V 3 54 (ld 54 1 b1 0 true 4 (.agg #[(.int .i64 x0.Clock.Slip), (.int .i64 x0.Clock.Drift), (.slice a0_2 x0.Clock.Jumps.length n0_2), (.slice a0_3 x0.Times.length n0_3)]) (hs3.ownAt (k := 0) rfl)) ?_
 obtain ⟨r4, hr5, h6⟩ := bind_some h
 refine Cl 4 4 38 #[(.tmp 3)] #[54] co_clocks_ValidTrack hs3 (c_clocks_ValidTrack N w2 F0 hs3.pers (x0) a0_2 n0_2 hb0_2 hs0_2 a0_3 n0_3 hb0_3 hs0_3 _ hr5) ?_
 intro v7 F1 w8 hs9 le10 hp11
 obtain rfl := hp11
 refine V 5 4 (run_not (t := 4) (x := (.tmp 4)) (a := r4) rfl) ?_
 refine V 2 4 (ma 5 (.bool (!r4))) ?_
 refine Nt ?_
 refine CWP.ret (by kernel_rfl) ?_
 have hfin := some_inj h6
 subst hfin
 exact ⟨rfl, (.bool (!r4)), res_of (l := [.tmp 2]) (by kernel_rfl) (vs := [(.bool (!r4))]) ⟨rfl, trivial⟩, (.bool (!r4)), F1, rfl, hs9.clear, rfl⟩
end Go.Proofs.Ythbcnabeabcmlaa
namespace Go.Proofs.Ythbcnabeabcmlaa
open Go.Proofs
def slices_IndexFunc_api_Tie_api_Tie_L0 (N : Nat) (x0 : (List Tie)) (x1 : (Tie → Option Bool)) : Int → Option (Flow Int Int) := fun s4 =>
 (bif (decide (s4 < (x0.length : Int))) then ((idx x0 s4).bind fun x26 => ((x1 x26).bind fun r40 => (bif r40 then some (.ret s4) else some (.next (W64 (s4 + 1)))))) else some (.done s4))
def slices_IndexFunc_api_Tie_api_Tie (N : Nat) (x0 : (List Tie)) (x1 : (Tie → Option Bool)) : Option Int :=
 ((iter (slices_IndexFunc_api_Tie_api_Tie_L0 N x0 x1) N 0).bind fun o => o.k (fun r => some r) (fun s13 => some (-1)))
theorem co_slices_IndexFunc_api_Tie_api_Tie : CallOk Try.prog 114 := fun _ _ => by kernel_rfl
set_option maxHeartbeats 4000000 in
set_option maxRecDepth 100000 in
theorem c_slices_IndexFunc_api_Tie_api_Tie (N : Nat) (w0 : World) (F0 : Mem) (hF : ∀ b o, F0 b = some o → w0.heap[b]? = some o) (x0 : (List Tie)) (a0_0 : Option Addr) (n0_0 : Nat) (hb0_0 : LC x0.length n0_0) (hs0_0 : SlA tTie F0 a0_0 x0) (gx1 : FuncId) (fx1 kx1 : List Value) (x1 : Tie → Option Bool) (hox1 : CallOk Try.prog gx1) (hpx1 : ∀ (w' : World) (F' : Mem) (y0 : Tie) (r : Bool), Mem.le F0 F' → (∀ b o, F' b = some o → w'.heap[b]? = some o) → x1 y0 = some r → Calls Try.prog gx1 (fx1 ++ (([(.agg #[(.int .i64 y0.A.Log), (.int .i64 y0.A.Line), (.int .i64 y0.B.Log), (.int .i64 y0.B.Line)])] : List Value) ++ kx1)).toArray w' (FRet w' F' fun F'' v => v = (.bool r))) (r : Int) (h : slices_IndexFunc_api_Tie_api_Tie N x0 x1 = some r) :
  Calls Try.prog 114 ([(.slice a0_0 x0.length n0_0), (.func (.func gx1) fx1.toArray kx1.toArray)] : List Value).toArray w0 (FRet w0 F0 fun F' v => v = (.int .i64 r)) := by
 have hs0 := HS.start hF
 refine calls_of (n := 19) (c := bodyOf Try.f114) Try.func114 (by kernel_rfl) (by kernel_rfl) (by kernel_rfl) ?_
 refine Sq (Rg [0] ?_)
 refine V 4 3 (mc (.int .i64 0) (.int .i64 0)) ?_
 refine Nss ?_
 refine Sq (Rg [0, 1, 2] ?_)
 refine V 6 23 (mv 0 (.slice a0_0 x0.length n0_0)) ?_
 refine V 7 3 (ln 6 23 a0_0 x0.length n0_0 46 4 32) ?_
 refine V 8 3 (run_move (x := (.const (.int .i64 0))) (v := (.int .i64 0)) rfl) ?_
 refine Nt ?_
 obtain ⟨o1, ho2, h3⟩ := bind_some h
 refine CWP.cut (fun f w => ∃ (s13 : Int) (F2 : Mem), o1 = .done s13 ∧ HS w0 F0 w F2 [] ∧ Mem.le F0 F2 ∧ f.d = []) ?_ ?_
 ·refine Bk ?_
  refine CWP.loop (by kernel_rfl) (fun m f w => ∃ (s4 : Int) (F1 : Mem), iter (slices_IndexFunc_api_Tie_api_Tie_L0 N x0 x1) m s4 = some o1 ∧ HS w0 F0 w F1 [] ∧ Mem.le F0 F1 ∧ f.d = [] ∧ f 0 = (.slice a0_0 x0.length n0_0) ∧ f 1 = (.func (.func gx1) fx1.toArray kx1.toArray) ∧ f 7 = (.int .i64 (x0.length : Int)) ∧ f 8 = (.int .i64 s4)) N ⟨0, F0, ho2, hs0, (Mem.le.refl _), rfl, rfl, rfl, rfl, rfl⟩ ?_
  rintro m18 f w5 ⟨s4, F1, hit19, hs6, le7, e8, e9, e10, e11, e12⟩
  obtain ⟨m20, fl21, rfl, hb22, hnx23⟩ := iter_step hit19
  refine Sq (Rg [0] ?_)
  refine V 9 0 (run_lss (t := 3) (t' := 3) (x := (.tmp 8)) (y := (.tmp 7)) (k := .i64) (a := s4) (b := (x0.length : Int)) e12 e11) ?_
  refine Nss ?_
  refine CWP.cond (t := (decide (s4 < (x0.length : Int)))) (by kernel_rfl) rfl (fun hb24 => ?_) (fun hb24 => ?_)
  ·have h25 := cond_t hb22 hb24
   refine Sc ?_
   refine thenQ_nrm ?_
   refine Sq ?_
   refine Bk ?_
   refine Sq (Rg [0, 1] ?_)
   refine V 10 3 (mv 8 (.int .i64 s4) e12) ?_
   refine V 5 3 (ma 10 (.int .i64 s4)) ?_
   refine Nss (Rg [0, 1, 2, 3, 4, 5] ?_)
   refine V 11 91 (mv 1 (.func (.func gx1) fx1.toArray kx1.toArray) e10) ?_
   refine V 12 23 (mv 0 (.slice a0_0 x0.length n0_0) e9) ?_
   refine V 13 3 (mv 5 (.int .i64 s4)) ?_
   obtain ⟨x26, hx27, h29⟩ := bind_some h25
   obtain ⟨hi28, hx27'⟩ := idx_spec hx27
   obtain ⟨b30, o31, C32, E33, fz34, rfl, hF36, hE37⟩ := SlA.open (SlA.mono hs0_0 le7) hx27'
   have hc39 := hE37 _ _ hx27'
   refine V 14 0 (ix 23 12 13 b30 o31 46 4 32 hi28) ?_
   refine V 15 46 (lx 46 14 0 4 true 4 (.agg #[(.int .i64 x26.A.Log), (.int .i64 x26.A.Line), (.int .i64 x26.B.Log), (.int .i64 x26.B.Line)]) (hs6.pers _ _ hF36) hc39) ?_
   obtain ⟨r40, hr41, h42⟩ := bind_some h29
   refine RWP.call (dst := (some 16)) (ty := 4) (g := none) (by kernel_rfl) rfl (f0 := (.tmp 11)) (aos := #[(.tmp 15)]) (ats := #[46]) (fid := gx1) (first := fx1.toArray) (cap := kx1.toArray) (args := (fx1 ++ (([(.agg #[(.int .i64 x26.A.Log), (.int .i64 x26.A.Line), (.int .i64 x26.B.Log), (.int .i64 x26.B.Line)])] : List Value) ++ kx1))) rfl hox1 (app_args2 (l := [(.agg #[(.int .i64 x26.A.Log), (.int .i64 x26.A.Line), (.int .i64 x26.B.Log), (.int .i64 x26.B.Line)])]) (fi := fx1) (k := kx1) (rfl)) hs6 (hpx1 w5 F1 (x26) _ le7 hs6.pers hr41) ?_
   intro v43 F3 w44 hs45 le46 hp47
   obtain rfl := hp47
   refine Nt ?_
   refine CWP.cond (t := r40) (by kernel_rfl) rfl (fun hb48 => ?_) (fun hb48 => ?_)
   ·have h49 := cond_t h42 hb48
    refine Sq (Rg [0, 1] ?_)
    refine V 17 3 (mv 5 (.int .i64 s4)) ?_
    refine V 4 3 (ma 17 (.int .i64 s4)) ?_
    refine Nt ?_
    refine CWP.ret (by kernel_rfl) ?_
    refine blockQ_ret ?_
    refine thenQ_ret ?_
    refine thenQ_ret ?_
    refine blockQ_ret ?_
    have hret := iter_ret h49 hnx23
    subst hret
    refine .inr ?_
    refine thenQ_ret ?_
    have hfin := some_inj h3
    subst hfin
    exact ⟨e8, (.int .i64 s4), res_of (l := [.tmp 4]) (by kernel_rfl) (vs := [(.int .i64 s4)]) ⟨rfl, trivial⟩, (.int .i64 s4), F3, rfl, hs45.clear, rfl⟩
   ·have h50 := cond_f h42 hb48
    refine Sc ?_
    refine blockQ_nrm ?_
    refine thenQ_nrm ?_
    refine Rg [0, 1] ?_
    refine V 18 3 (run_add (t := 3) (t' := 3) (x := (.tmp 8)) (y := (.const (.int .i64 1))) (k := .i64) (a := s4) (b := 1) e12 rfl) ?_
    refine V 8 3 (mv 18 (.int .i64 (W64 (s4 + 1)))) ?_
    refine RWP.nil ?_
    have hn51 := iter_next h50 hnx23
    exact ⟨m20, Nat.lt_succ_self _, (W64 (s4 + 1)), F3, hn51, hs45, (le7.trans le46), e8, e9, e10, e11, rfl⟩
  ·have h52 := cond_f hb22 hb24
   refine CWP.exit (by kernel_rfl) ?_
   refine thenQ_ex ?_
   refine thenQ_ex ?_
   refine blockQ_hit rfl ?_
   have ho53 := iter_done h52 hnx23
   exact .inl ⟨rfl, s4, F1, ho53, hs6, le7, e8⟩
 ·rintro f w14 ⟨s13, F2, rfl, hs15, le16, e17⟩
  have h54 := k_done h3
  refine thenQ_nrm ?_
  refine Sq (Rg [0] ?_)
  refine V 4 3 (mc (.int .i64 (-1)) (.int .i64 (-1))) ?_
  refine Nt ?_
  refine CWP.ret (by kernel_rfl) ?_
  have hfin := some_inj h54
  subst hfin
  exact ⟨e17, (.int .i64 (-1)), res_of (l := [.tmp 4]) (by kernel_rfl) (vs := [(.int .i64 (-1))]) ⟨rfl, trivial⟩, (.int .i64 (-1)), F2, rfl, hs15.clear, rfl⟩
end Go.Proofs.Ythbcnabeabcmlaa
namespace Go.Proofs.Ythbcnabeabcmlaa
open Go.Proofs
def slices_ContainsFunc_api_Tie_api_Tie (N : Nat) (x0 : (List Tie)) (x1 : (Tie → Option Bool)) : Option Bool :=
 ((slices_IndexFunc_api_Tie_api_Tie N x0 x1).bind fun r1 => some (decide (r1 ≥ 0)))
theorem co_slices_ContainsFunc_api_Tie_api_Tie : CallOk Try.prog 68 := fun _ _ => by kernel_rfl
set_option maxHeartbeats 4000000 in
set_option maxRecDepth 100000 in
theorem c_slices_ContainsFunc_api_Tie_api_Tie (N : Nat) (w0 : World) (F0 : Mem) (hF : ∀ b o, F0 b = some o → w0.heap[b]? = some o) (x0 : (List Tie)) (a0_0 : Option Addr) (n0_0 : Nat) (hb0_0 : LC x0.length n0_0) (hs0_0 : SlA tTie F0 a0_0 x0) (gx1 : FuncId) (fx1 kx1 : List Value) (x1 : Tie → Option Bool) (hox1 : CallOk Try.prog gx1) (hpx1 : ∀ (w' : World) (F' : Mem) (y0 : Tie) (r : Bool), Mem.le F0 F' → (∀ b o, F' b = some o → w'.heap[b]? = some o) → x1 y0 = some r → Calls Try.prog gx1 (fx1 ++ (([(.agg #[(.int .i64 y0.A.Log), (.int .i64 y0.A.Line), (.int .i64 y0.B.Log), (.int .i64 y0.B.Line)])] : List Value) ++ kx1)).toArray w' (FRet w' F' fun F'' v => v = (.bool r))) (r : Bool) (h : slices_ContainsFunc_api_Tie_api_Tie N x0 x1 = some r) :
  Calls Try.prog 68 ([(.slice a0_0 x0.length n0_0), (.func (.func gx1) fx1.toArray kx1.toArray)] : List Value).toArray w0 (FRet w0 F0 fun F' v => v = (.bool r)) := by
 have hs0 := HS.start hF
 refine calls_of (n := 9) (c := bodyOf Try.f68) Try.func68 (by kernel_rfl) (by kernel_rfl) (by kernel_rfl) ?_
 refine Sq (Rg [0] ?_)
 refine V 4 4 (mc (.bool false) (.bool false)) ?_
 refine Nss (Rg [0, 1, 2, 3, 4] ?_)
 refine V 5 23 (mv 0 (.slice a0_0 x0.length n0_0)) ?_
 refine V 6 91 (mv 1 (.func (.func gx1) fx1.toArray kx1.toArray)) ?_
 obtain ⟨r1, hr2, h3⟩ := bind_some h
 refine Cl 7 3 114 #[(.tmp 5), (.tmp 6)] #[23, 91] co_slices_IndexFunc_api_Tie_api_Tie hs0 (c_slices_IndexFunc_api_Tie_api_Tie N w0 F0 hs0.pers (x0) a0_0 n0_0 hb0_0 hs0_0 gx1 fx1 kx1 x1 hox1 (fun w1 F1 y0 r le1 pe1 hr1 => hpx1 w1 F1 y0 r (le1) pe1 hr1) _ hr2) ?_
 intro v4 F1 w5 hs6 le7 hp8
 obtain rfl := hp8
 refine V 8 4 (run_geq (t := 3) (t' := 3) (x := (.tmp 7)) (y := (.const (.int .i64 0))) (k := .i64) (a := r1) (b := 0) rfl rfl) ?_
 refine V 4 4 (ma 8 (.bool (decide (r1 ≥ 0)))) ?_
 refine Nt ?_
 refine CWP.ret (by kernel_rfl) ?_
 have hfin := some_inj h3
 subst hfin
 exact ⟨rfl, (.bool (decide (r1 ≥ 0))), res_of (l := [.tmp 4]) (by kernel_rfl) (vs := [(.bool (decide (r1 ≥ 0)))]) ⟨rfl, trivial⟩, (.bool (decide (r1 ≥ 0))), F1, rfl, hs6.clear, rfl⟩
end Go.Proofs.Ythbcnabeabcmlaa
namespace Go.Proofs.Ythbcnabeabcmlaa
open Go.Proofs
def clocks_has (N : Nat) (x0 : System) (x1 : Ref) : Option Bool :=
 (((clocks_within N x1.Log 0 (W64 ((x0.Tracks.length : Int) - 1))).bind fun r17 => (bif r17 then ((idx x0.Tracks x1.Log).bind fun x27 => ((clocks_within N x1.Line 0 (W64 ((x27.Times.length : Int) - 1))).bind fun r41 => some r41)) else some false)).bind fun j12 => some j12)
theorem co_clocks_has : CallOk Try.prog 107 := fun _ _ => by kernel_rfl
set_option maxHeartbeats 4000000 in
set_option maxRecDepth 100000 in
theorem c_clocks_has (N : Nat) (w0 : World) (F0 : Mem) (hF : ∀ b o, F0 b = some o → w0.heap[b]? = some o) (x0 : System) (a0_0 : Option Addr) (n0_0 : Nat) (hb0_0 : LC x0.Tracks.length n0_0) (hs0_0 : SlA tTrack F0 a0_0 x0.Tracks) (a0_1 : Option Addr) (n0_1 : Nat) (hb0_1 : LC x0.Ties.length n0_1) (hs0_1 : SlA tTie F0 a0_1 x0.Ties) (x1 : Ref) (r : Bool) (h : clocks_has N x0 x1 = some r) :
  Calls Try.prog 107 ([(.agg #[(.slice a0_0 x0.Tracks.length n0_0), (.slice a0_1 x0.Ties.length n0_1), (.int .i64 x0.Window)]), (.agg #[(.int .i64 x1.Log), (.int .i64 x1.Line)])] : List Value).toArray w0 (FRet w0 F0 fun F' v => v = (.bool r)) := by
 have hs0 := HS.start hF
 refine calls_of (n := 26) (c := bodyOf Try.f107) Try.func107 (by kernel_rfl) (by kernel_rfl) (by kernel_rfl) ?_
 refine Sq (Rg [0, 1, 2] ?_)
 refine Bx 2 0 0 25 #[(.slice a0_0 x0.Tracks.length n0_0), (.slice a0_1 x0.Ties.length n0_1), (.int .i64 x0.Window)] hs0 (fun b1 w2 (hs3 : HS w0 F0 w2 F0 [(some b1, (.cells #[(.slice a0_0 x0.Tracks.length n0_0), (.slice a0_1 x0.Ties.length n0_1), (.int .i64 x0.Window)] 25 (0, 0)))]) => ?_)
 refine Bx 3 0 1 27 #[(.int .i64 x1.Log), (.int .i64 x1.Line)] hs3 (fun b4 w5 (hs6 : HS w0 F0 w5 F0 [(some b4, (.cells #[(.int .i64 x1.Log), (.int .i64 x1.Line)] 27 (0, 0))), (some b1, (.cells #[(.slice a0_0 x0.Tracks.length n0_0), (.slice a0_1 x0.Ties.length n0_1), (.int .i64 x0.Window)] 25 (0, 0)))]) => ?_)
 refine V 4 4 (mc (.bool false) (.bool false)) ?_
 refine Nss ?_
 obtain ⟨j12, hj15, h16⟩ := bind_some h
 refine CWP.regionD (by kernel_rfl) (by kernel_rfl) (by kernel_rfl) (by kernel_rfl) (z := 22) (F := F0) (Lc := [(some b4, (.cells #[(.int .i64 x1.Log), (.int .i64 x1.Line)] 27 (0, 0))), (some b1, (.cells #[(.slice a0_0 x0.Tracks.length n0_0), (.slice a0_1 x0.Ties.length n0_1), (.int .i64 x0.Window)] 25 (0, 0)))]) (Lz := []) (l := [false, false, false, false, false, false, false, false, false, false, false, false, false, false, false, false, false, false, false, false, false, false]) (fuel := 22) (by kernel_rfl) (by kernel_rfl) hs6 (by simp) (by simp) (fun f w => ∃ (F1 : Mem), HS w0 F0 w F1 [] ∧ Mem.le F0 F1 ∧ f.d = [] ∧ f 4 = (.bool j12)) (fun wd7 hw8 => ?_) ?_
 ·refine Dtl 0 5 0 (.pointer (some ⟨b4, 0, none⟩)) [tt, ff, ff, ff, ff, ff, ff, ff, ff, ff, ff, ff, ff, ff, ff, ff, ff, ff, ff, ff, ff, ff] (fun _ hq => fa 27 3 0 0 1 b4 0 0) ?_
  refine Dtl 1 6 3 _ [tt, tt, ff, ff, ff, ff, ff, ff, ff, ff, ff, ff, ff, ff, ff, ff, ff, ff, ff, ff, ff, ff] (fun _ hq => ld 3 5 b4 0 false 1 (.int .i64 x1.Log) (hq.1.2 0 _ _ rfl)) ?_
  refine Dtl 2 7 0 (.pointer (some ⟨b1, 0, none⟩)) [tt, tt, tt, ff, ff, ff, ff, ff, ff, ff, ff, ff, ff, ff, ff, ff, ff, ff, ff, ff, ff, ff] (fun _ hq => fa 25 2 0 0 1 b1 0 0) ?_
  refine Dtl 3 8 22 _ [tt, tt, tt, tt, ff, ff, ff, ff, ff, ff, ff, ff, ff, ff, ff, ff, ff, ff, ff, ff, ff, ff] (fun _ hq => ld 22 7 b1 0 false 1 (.slice a0_0 x0.Tracks.length n0_0) (hq.1.2 1 _ _ rfl)) ?_
  refine Dtl 4 9 3 (.int .i64 (x0.Tracks.length : Int)) [tt, tt, tt, tt, tt, ff, ff, ff, ff, ff, ff, ff, ff, ff, ff, ff, ff, ff, ff, ff, ff, ff] (fun _ hq => ln 8 22 a0_0 x0.Tracks.length n0_0 54 4 64) ?_
  refine Dtl 5 10 3 (.int .i64 (W64 ((x0.Tracks.length : Int) - 1))) [tt, tt, tt, tt, tt, tt, ff, ff, ff, ff, ff, ff, ff, ff, ff, ff, ff, ff, ff, ff, ff, ff] (fun _ hq => run_sub (t := 3) (t' := 3) (x := (.tmp 9)) (y := (.const (.int .i64 1))) (k := .i64) (a := (x0.Tracks.length : Int)) (b := 1) rfl rfl) ?_
  refine DWP.one (i := 6) (by kernel_rfl) ?_
  obtain ⟨r17, hr18, h19⟩ := bind_some hj15
  refine DStep.call (l' := [true, true, true, true, true, true, true, false, false, false, false, false, false, false, false, false, false, false, false, false, false, false]) (zd := true) (by kernel_rfl) (by kernel_rfl) (by kernel_rfl) (dst := (some 11)) (ty := 4) (g := none) (by kernel_rfl) rfl (f0 := (.func 67)) (aos := #[(.tmp 6), (.const (.int .i64 0)), (.tmp 10)]) (ats := #[3, 3, 3]) (fid := 67) (first := #[]) (cap := #[]) (args := [(.int .i64 x1.Log), (.int .i64 0), (.int .i64 (W64 ((x0.Tracks.length : Int) - 1)))]) rfl co_clocks_within (rfl) hw8 (c_clocks_within N wd7 F0 hw8.pers (x1.Log) (0) ((W64 ((x0.Tracks.length : Int) - 1))) _ hr18) ?_
  intro v20 F2 w21 hs22 le23 hp24
  obtain rfl := hp24
  refine Dtl 7 12 4 _ [tt, tt, tt, tt, tt, tt, tt, tt, ff, ff, ff, ff, ff, ff, ff, ff, ff, ff, ff, ff, ff, ff] (fun _ hq => mv 11 (.bool r17)) ?_
  refine DWP.split r17 (fun hb25 => ?_) (fun hb25 => ?_)
  ·have h26 := cond_t h19 hb25
   refine Dgl 8 13 0 (.pointer (some ⟨b4, 1, none⟩)) [tt, tt, tt, tt, tt, tt, tt, tt, tt, ff, ff, ff, ff, ff, ff, ff, ff, ff, ff, ff, ff, ff] 7 true 12 hb25 (fun _ hq => fa 27 3 1 1 1 b4 0 1) ?_
   refine Dgl 9 14 3 _ [tt, tt, tt, tt, tt, tt, tt, tt, tt, tt, ff, ff, ff, ff, ff, ff, ff, ff, ff, ff, ff, ff] 7 true 12 hb25 (fun _ hq => ld 3 13 b4 1 false 1 (.int .i64 x1.Line) (hq.1.2 0 _ _ rfl)) ?_
   refine Dgl 10 15 0 (.pointer (some ⟨b1, 0, none⟩)) [tt, tt, tt, tt, tt, tt, tt, tt, tt, tt, tt, ff, ff, ff, ff, ff, ff, ff, ff, ff, ff, ff] 7 true 12 hb25 (fun _ hq => fa 25 2 0 0 1 b1 0 0) ?_
   refine Dgl 11 16 22 _ [tt, tt, tt, tt, tt, tt, tt, tt, tt, tt, tt, tt, ff, ff, ff, ff, ff, ff, ff, ff, ff, ff] 7 true 12 hb25 (fun _ hq => ld 22 15 b1 0 false 1 (.slice a0_0 x0.Tracks.length n0_0) (hq.1.2 1 _ _ rfl)) ?_
   refine Dgl 12 17 0 (.pointer (some ⟨b4, 0, none⟩)) [tt, tt, tt, tt, tt, tt, tt, tt, tt, tt, tt, tt, tt, ff, ff, ff, ff, ff, ff, ff, ff, ff] 7 true 12 hb25 (fun _ hq => fa 27 3 0 0 1 b4 0 0) ?_
   refine Dgl 13 18 3 _ [tt, tt, tt, tt, tt, tt, tt, tt, tt, tt, tt, tt, tt, tt, ff, ff, ff, ff, ff, ff, ff, ff] 7 true 12 hb25 (fun _ hq => ld 3 17 b4 0 false 1 (.int .i64 x1.Log) (hq.1.2 0 _ _ rfl)) ?_
   obtain ⟨x27, hx28, h30⟩ := bind_some h26
   obtain ⟨hi29, hx28'⟩ := idx_spec hx28
   obtain ⟨b31, o32, C33, E34, fz35, rfl, hF37, hE38⟩ := SlA.open hs0_0 hx28'
   obtain ⟨ae39_2, ne39_2, ae39_3, ne39_3, hc40, hbe39_2, hse39_2, hbe39_3, hse39_3⟩ := hE38 _ _ hx28'
   refine Dgl 14 19 0 (.pointer (some ⟨b31, (o32 + (x1.Log : Int).toNat * 4), none⟩)) [tt, tt, tt, tt, tt, tt, tt, tt, tt, tt, tt, tt, tt, tt, tt, ff, ff, ff, ff, ff, ff, ff] 7 true 12 hb25 (fun _ hq => ix 22 16 18 b31 o32 54 4 64 hi29) ?_
   refine Dgl 15 20 0 (.pointer (some ⟨b31, ((o32 + (x1.Log : Int).toNat * 4) + 3), none⟩)) [tt, tt, tt, tt, tt, tt, tt, tt, tt, tt, tt, tt, tt, tt, tt, tt, ff, ff, ff, ff, ff, ff] 7 true 12 hb25 (fun _ hq => fa 54 19 1 3 1 b31 (o32 + (x1.Log : Int).toNat * 4) ((o32 + (x1.Log : Int).toNat * 4) + 3)) ?_
   refine Dgl 16 21 50 _ [tt, tt, tt, tt, tt, tt, tt, tt, tt, tt, tt, tt, tt, tt, tt, tt, tt, ff, ff, ff, ff, ff] 7 true 12 hb25 (fun _ hq => lx 50 20 3 4 false 1 (.slice ae39_3 x27.Times.length ne39_3) (hq.1.1 _ _ hF37) hc40) ?_
   refine Dgl 17 22 3 (.int .i64 (x27.Times.length : Int)) [tt, tt, tt, tt, tt, tt, tt, tt, tt, tt, tt, tt, tt, tt, tt, tt, tt, tt, ff, ff, ff, ff] 7 true 12 hb25 (fun _ hq => ln 21 50 ae39_3 x27.Times.length ne39_3 3 1 8) ?_
   refine Dgl 18 23 3 (.int .i64 (W64 ((x27.Times.length : Int) - 1))) [tt, tt, tt, tt, tt, tt, tt, tt, tt, tt, tt, tt, tt, tt, tt, tt, tt, tt, tt, ff, ff, ff] 7 true 12 hb25 (fun _ hq => run_sub (t := 3) (t' := 3) (x := (.tmp 22)) (y := (.const (.int .i64 1))) (k := .i64) (a := (x27.Times.length : Int)) (b := 1) rfl rfl) ?_
   refine DWP.one (i := 19) (by kernel_rfl) ?_
   obtain ⟨r41, hr42, h43⟩ := bind_some h30
   refine DStep.call (l' := [true, true, true, true, true, true, true, true, true, true, true, true, true, true, true, true, true, true, true, true, false, false]) (zd := true) (by kernel_rfl) (by kernel_rfl) (by kernel_rfl) (dst := (some 24)) (ty := 4) (g := (some (7, true))) (by kernel_rfl) (gd_y (d := 12) (by kernel_rfl) rfl hb25) (f0 := (.func 67)) (aos := #[(.tmp 14), (.const (.int .i64 0)), (.tmp 23)]) (ats := #[3, 3, 3]) (fid := 67) (first := #[]) (cap := #[]) (args := [(.int .i64 x1.Line), (.int .i64 0), (.int .i64 (W64 ((x27.Times.length : Int) - 1)))]) rfl co_clocks_within (rfl) hs22 (c_clocks_within N w21 F2 hs22.pers (x1.Line) (0) ((W64 ((x27.Times.length : Int) - 1))) _ hr42) ?_
   intro v44 F3 w45 hs46 le47 hp48
   obtain rfl := hp48
   refine Dtl 20 25 4 _ [tt, tt, tt, tt, tt, tt, tt, tt, tt, tt, tt, tt, tt, tt, tt, tt, tt, tt, tt, tt, tt, ff] (fun _ hq => p1 12 (.tmp 24) (.const (.bool false)) (.bool r41) hb25) ?_
   refine Dtl 21 4 4 _ [tt, tt, tt, tt, tt, tt, tt, tt, tt, tt, tt, tt, tt, tt, tt, tt, tt, tt, tt, tt, tt, tt] (fun _ hq => ma 25 (.bool r41)) ?_
   obtain rfl := some_inj h43
   have hs49 : HS w0 F0 w45 F3 [(some b1, (.cells #[(.slice (some ⟨b31, o32, none⟩) x0.Tracks.length n0_0), (.slice a0_1 x0.Ties.length n0_1), (.int .i64 x0.Window)] 25 (0, 0)))] := hs46.drop 0
   have hs50 : HS w0 F0 w45 F3 [] := hs49.drop 0
   exact DWP.done (by kernel_rfl) ⟨F3, hs50, (le23.trans le47), rfl, rfl⟩
  ·have h51 := cond_f h19 hb25
   refine Dkl [(8, 13), (9, 14), (10, 15), (11, 16), (12, 17), (13, 18)] 7 true 12 hb25 [tt, tt, tt, tt, tt, tt, tt, tt, tt, tt, tt, tt, tt, tt, ff, ff, ff, ff, ff, ff, ff, ff] ?_
   refine Dkl [(14, 19), (15, 20), (16, 21), (17, 22), (18, 23), (19, 24)] 7 true 12 hb25 [tt, tt, tt, tt, tt, tt, tt, tt, tt, tt, tt, tt, tt, tt, tt, tt, tt, tt, tt, tt, ff, ff] ?_
   refine Dtl 20 25 4 _ [tt, tt, tt, tt, tt, tt, tt, tt, tt, tt, tt, tt, tt, tt, tt, tt, tt, tt, tt, tt, tt, ff] (fun _ hq => p0 12 (.tmp 24) (.const (.bool false)) (.bool false) hb25) ?_
   refine Dtl 21 4 4 _ [tt, tt, tt, tt, tt, tt, tt, tt, tt, tt, tt, tt, tt, tt, tt, tt, tt, tt, tt, tt, tt, tt] (fun _ hq => ma 25 (.bool false)) ?_
   obtain rfl := some_inj h51
   have hs52 : HS w0 F0 w21 F2 [(some b1, (.cells #[(.slice a0_0 x0.Tracks.length n0_0), (.slice a0_1 x0.Ties.length n0_1), (.int .i64 x0.Window)] 25 (0, 0)))] := hs22.drop 0
   have hs53 : HS w0 F0 w21 F2 [] := hs52.drop 0
   exact DWP.done (by kernel_rfl) ⟨F2, hs53, le23, rfl, rfl⟩
 ·rintro f w9 ⟨F1, hs10, le11, e13, e14⟩
  refine thenQ_nrm ?_
  refine CWP.ret (by kernel_rfl) ?_
  have hfin := some_inj h16
  subst hfin
  exact ⟨e13, (.bool j12), res_of (l := [.tmp 4]) (by kernel_rfl) (vs := [(.bool j12)]) ⟨e14, trivial⟩, (.bool j12), F1, rfl, hs10.clear, rfl⟩
end Go.Proofs.Ythbcnabeabcmlaa
namespace Go.Proofs.Ythbcnabeabcmlaa
open Go.Proofs
def clocks_tied (N : Nat) (x0 : System) (x1 : Tie) : Option Bool :=
 (((clocks_has N x0 x1.A).bind fun r15 => (bif r15 then ((clocks_has N x0 x1.B).bind fun r25 => (bif r25 then some (x1.A.Log != x1.B.Log) else some false)) else some false)).bind fun j10 => some j10)
theorem co_clocks_tied : CallOk Try.prog 70 := fun _ _ => by kernel_rfl
set_option maxHeartbeats 4000000 in
set_option maxRecDepth 100000 in
theorem c_clocks_tied (N : Nat) (w0 : World) (F0 : Mem) (hF : ∀ b o, F0 b = some o → w0.heap[b]? = some o) (x0 : System) (a0_0 : Option Addr) (n0_0 : Nat) (hb0_0 : LC x0.Tracks.length n0_0) (hs0_0 : SlA tTrack F0 a0_0 x0.Tracks) (a0_1 : Option Addr) (n0_1 : Nat) (hb0_1 : LC x0.Ties.length n0_1) (hs0_1 : SlA tTie F0 a0_1 x0.Ties) (x1 : Tie) (r : Bool) (h : clocks_tied N x0 x1 = some r) :
  Calls Try.prog 70 ([(.agg #[(.slice a0_0 x0.Tracks.length n0_0), (.slice a0_1 x0.Ties.length n0_1), (.int .i64 x0.Window)]), (.agg #[(.int .i64 x1.A.Log), (.int .i64 x1.A.Line), (.int .i64 x1.B.Log), (.int .i64 x1.B.Line)])] : List Value).toArray w0 (FRet w0 F0 fun F' v => v = (.bool r)) := by
 have hs0 := HS.start hF
 refine calls_of (n := 24) (c := bodyOf Try.f70) Try.func70 (by kernel_rfl) (by kernel_rfl) (by kernel_rfl) ?_
 refine Sq (Rg [0, 1, 2] ?_)
 refine Bx 2 0 0 25 #[(.slice a0_0 x0.Tracks.length n0_0), (.slice a0_1 x0.Ties.length n0_1), (.int .i64 x0.Window)] hs0 (fun b1 w2 (hs3 : HS w0 F0 w2 F0 [(some b1, (.cells #[(.slice a0_0 x0.Tracks.length n0_0), (.slice a0_1 x0.Ties.length n0_1), (.int .i64 x0.Window)] 25 (0, 0)))]) => ?_)
 refine Bx 3 0 1 46 #[(.int .i64 x1.A.Log), (.int .i64 x1.A.Line), (.int .i64 x1.B.Log), (.int .i64 x1.B.Line)] hs3 (fun b4 w5 (hs6 : HS w0 F0 w5 F0 [(some b4, (.cells #[(.int .i64 x1.A.Log), (.int .i64 x1.A.Line), (.int .i64 x1.B.Log), (.int .i64 x1.B.Line)] 46 (0, 0))), (some b1, (.cells #[(.slice a0_0 x0.Tracks.length n0_0), (.slice a0_1 x0.Ties.length n0_1), (.int .i64 x0.Window)] 25 (0, 0)))]) => ?_)
 refine V 4 4 (mc (.bool false) (.bool false)) ?_
 refine Nss (Rg [0, 1, 2, 3, 4, 5, 6, 7, 8, 9, 10, 11, 12, 13, 14, 15, 16, 17, 18, 19] ?_)
 obtain ⟨j10, hj13, h14⟩ := bind_some h
 refine RWP.cut (fun f w => ∃ (F1 : Mem), HS w0 F0 w F1 [] ∧ Mem.le F0 F1 ∧ f.d = [] ∧ f 4 = (.bool j10)) ?_ ?_
 ·refine V 5 25 (ld 25 2 b1 0 true 3 (.agg #[(.slice a0_0 x0.Tracks.length n0_0), (.slice a0_1 x0.Ties.length n0_1), (.int .i64 x0.Window)]) (hs6.ownAt (k := 1) rfl)) ?_
  refine V 6 0 (fa 46 3 0 0 2 b4 0 0) ?_
  refine V 7 27 (ld 27 6 b4 0 true 2 (.agg #[(.int .i64 x1.A.Log), (.int .i64 x1.A.Line)]) (hs6.ownAt (k := 0) rfl)) ?_
  obtain ⟨r15, hr16, h17⟩ := bind_some hj13
  refine Cl 8 4 107 #[(.tmp 5), (.tmp 7)] #[25, 27] co_clocks_has hs6 (c_clocks_has N w5 F0 hs6.pers (x0) a0_0 n0_0 hb0_0 hs0_0 a0_1 n0_1 hb0_1 hs0_1 (x1.A) _ hr16) ?_
  intro v18 F2 w19 hs20 le21 hp22
  obtain rfl := hp22
  refine V 9 4 (mv 8 (.bool r15)) ?_
  refine RWP.split r15 (fun hb23 => ?_) (fun hb23 => ?_)
  ·have h24 := cond_t h17 hb23
   refine Vg 10 25 4 true 9 hb23 (ld 25 2 b1 0 true 3 (.agg #[(.slice a0_0 x0.Tracks.length n0_0), (.slice a0_1 x0.Ties.length n0_1), (.int .i64 x0.Window)]) (hs20.ownAt (k := 1) rfl)) ?_
   refine Vg 11 0 4 true 9 hb23 (fa 46 3 1 2 2 b4 0 2) ?_
   refine Vg 12 27 4 true 9 hb23 (ld 27 11 b4 2 true 2 (.agg #[(.int .i64 x1.B.Log), (.int .i64 x1.B.Line)]) (hs20.ownAt (k := 0) rfl)) ?_
   obtain ⟨r25, hr26, h27⟩ := bind_some h24
   refine RWP.call (dst := (some 13)) (ty := 4) (g := (some (4, true))) (by kernel_rfl) (gd_y (d := 9) (by kernel_rfl) rfl hb23) (f0 := (.func 107)) (aos := #[(.tmp 10), (.tmp 12)]) (ats := #[25, 27]) (fid := 107) (first := #[]) (cap := #[]) (args := [(.agg #[(.slice a0_0 x0.Tracks.length n0_0), (.slice a0_1 x0.Ties.length n0_1), (.int .i64 x0.Window)]), (.agg #[(.int .i64 x1.B.Log), (.int .i64 x1.B.Line)])]) rfl co_clocks_has (rfl) hs20 (c_clocks_has N w19 F2 hs20.pers (x0) a0_0 n0_0 hb0_0 (SlA.mono hs0_0 le21) a0_1 n0_1 hb0_1 (SlA.mono hs0_1 le21) (x1.B) _ hr26) ?_
   intro v28 F3 w29 hs30 le31 hp32
   obtain rfl := hp32
   refine V 14 4 (p1 9 (.tmp 13) (.const (.bool false)) (.bool r25) hb23) ?_
   refine V 15 4 (mv 14 (.bool r25)) ?_
   refine RWP.split r25 (fun hb33 => ?_) (fun hb33 => ?_)
   ·have h34 := cond_t h27 hb33
    refine Vg 16 0 10 true 15 hb33 (fa 46 3 0 0 2 b4 0 0) ?_
    refine Vg 17 0 10 true 15 hb33 (fa 27 16 0 0 1 b4 0 0) ?_
    refine Vg 18 3 10 true 15 hb33 (ld 3 17 b4 0 false 1 (.int .i64 x1.A.Log) (hs30.ownAt (k := 0) rfl)) ?_
    refine Vg 19 0 10 true 15 hb33 (fa 46 3 1 2 2 b4 0 2) ?_
    refine Vg 20 0 10 true 15 hb33 (fa 27 19 0 0 1 b4 2 2) ?_
    refine Vg 21 3 10 true 15 hb33 (ld 3 20 b4 2 false 1 (.int .i64 x1.B.Log) (hs30.ownAt (k := 0) rfl)) ?_
    refine Vg 22 4 10 true 15 hb33 (run_neq (t := 3) (t' := 3) (x := (.tmp 18)) (y := (.tmp 21)) (k := .i64) (a := x1.A.Log) (b := x1.B.Log) rfl rfl) ?_
    refine V 23 4 (p1 15 (.tmp 22) (.const (.bool false)) (.bool (x1.A.Log != x1.B.Log)) hb33) ?_
    refine V 4 4 (ma 23 (.bool (x1.A.Log != x1.B.Log))) ?_
    obtain rfl := some_inj h34
    have hs35 : HS w0 F0 w29 F3 [(some b1, (.cells #[(.slice a0_0 x0.Tracks.length n0_0), (.slice a0_1 x0.Ties.length n0_1), (.int .i64 x0.Window)] 25 (0, 0)))] := hs30.drop 0
    have hs36 : HS w0 F0 w29 F3 [] := hs35.drop 0
    exact RWP.nil ⟨rfl, F3, hs36, (le21.trans le31), rfl, rfl⟩
   ·have h37 := cond_f h27 hb33
    refine Sk [16, 17, 18, 19, 20, 21, 22] 10 true 15 hb33 ?_
    refine V 23 4 (p0 15 (.tmp 22) (.const (.bool false)) (.bool false) hb33) ?_
    refine V 4 4 (ma 23 (.bool false)) ?_
    obtain rfl := some_inj h37
    have hs38 : HS w0 F0 w29 F3 [(some b1, (.cells #[(.slice a0_0 x0.Tracks.length n0_0), (.slice a0_1 x0.Ties.length n0_1), (.int .i64 x0.Window)] 25 (0, 0)))] := hs30.drop 0
    have hs39 : HS w0 F0 w29 F3 [] := hs38.drop 0
    exact RWP.nil ⟨rfl, F3, hs39, (le21.trans le31), rfl, rfl⟩
  ·have h40 := cond_f h17 hb23
   refine Sk [10, 11, 12, 13] 4 true 9 hb23 ?_
   refine V 14 4 (p0 9 (.tmp 13) (.const (.bool false)) (.bool false) hb23) ?_
   refine V 15 4 (mv 14 (.bool false)) ?_
   refine Sk [16, 17, 18, 19, 20, 21, 22] 10 true 15 rfl ?_
   refine V 23 4 (p0 15 (.tmp 22) (.const (.bool false)) (.bool false) rfl) ?_
   refine V 4 4 (ma 23 (.bool false)) ?_
   obtain rfl := some_inj h40
   have hs41 : HS w0 F0 w19 F2 [(some b1, (.cells #[(.slice a0_0 x0.Tracks.length n0_0), (.slice a0_1 x0.Ties.length n0_1), (.int .i64 x0.Window)] 25 (0, 0)))] := hs20.drop 0
   have hs42 : HS w0 F0 w19 F2 [] := hs41.drop 0
   exact RWP.nil ⟨rfl, F2, hs42, le21, rfl, rfl⟩
 ·rintro f w7 ⟨F1, hs8, le9, e11, e12⟩
  refine thenQ_nrm ?_
  refine CWP.ret (by kernel_rfl) ?_
  have hfin := some_inj h14
  subst hfin
  exact ⟨e11, (.bool j10), res_of (l := [.tmp 4]) (by kernel_rfl) (vs := [(.bool j10)]) ⟨e12, trivial⟩, (.bool j10), F1, rfl, hs8.clear, rfl⟩
end Go.Proofs.Ythbcnabeabcmlaa
namespace Go.Proofs.Ythbcnabeabcmlaa
open Go.Proofs
def clocks_Check_2 (N : Nat) (x0 : Tie) (z0 : System) : Option Bool :=
 ((clocks_tied N z0 x0).bind fun r4 => some (!r4))
theorem co_clocks_Check_2 : CallOk Try.prog 69 := fun _ _ => by kernel_rfl
set_option maxHeartbeats 4000000 in
set_option maxRecDepth 100000 in
theorem c_clocks_Check_2 (N : Nat) (w0 : World) (F0 : Mem) (hF : ∀ b o, F0 b = some o → w0.heap[b]? = some o) (x0 : Tie) (bz0 : Nat) (z0 : System) (az0_0 : Option Addr) (nz0_0 : Nat) (hbz0_0 : LC z0.Tracks.length nz0_0) (hsz0_0 : SlA tTrack F0 az0_0 z0.Tracks) (az0_1 : Option Addr) (nz0_1 : Nat) (hbz0_1 : LC z0.Ties.length nz0_1) (hsz0_1 : SlA tTie F0 az0_1 z0.Ties) (hz0 : F0 bz0 = some (.cells #[(.slice az0_0 z0.Tracks.length nz0_0), (.slice az0_1 z0.Ties.length nz0_1), (.int .i64 z0.Window)] 25 (0, 0))) (r : Bool) (h : clocks_Check_2 N x0 z0 = some r) :
  Calls Try.prog 69 ([(.agg #[(.int .i64 x0.A.Log), (.int .i64 x0.A.Line), (.int .i64 x0.B.Log), (.int .i64 x0.B.Line)]), (.pointer (some ⟨bz0, 0, none⟩))] : List Value).toArray w0 (FRet w0 F0 fun F' v => v = (.bool r)) := by
 have hs0 := HS.start hF
 refine calls_of (n := 8) (c := bodyOf Try.f69) Try.func69 (by kernel_rfl) (by kernel_rfl) (by kernel_rfl) ?_
 refine Sq (Rg [0, 1] ?_)
 refine Bx 2 0 0 46 #[(.int .i64 x0.A.Log), (.int .i64 x0.A.Line), (.int .i64 x0.B.Log), (.int .i64 x0.B.Line)] hs0 (fun b1 w2 (hs3 : HS w0 F0 w2 F0 [(some b1, (.cells #[(.int .i64 x0.A.Log), (.int .i64 x0.A.Line), (.int .i64 x0.B.Log), (.int .i64 x0.B.Line)] 46 (0, 0)))]) => ?_)
 refine V 3 4 (mc (.bool false) (.bool false)) ?_
 refine Nss (Rg [0, 1, 2, 3, 4] ?_)
 refine V 4 25 (ld 25 1 bz0 0 true 3 (.agg #[(.slice az0_0 z0.Tracks.length nz0_0), (.slice az0_1 z0.Ties.length nz0_1), (.int .i64 z0.Window)]) (hs3.pers _ _ hz0)) ?_
 refine V 5 46 (ld 46 2 b1 0 true 4 (.agg #[(.int .i64 x0.A.Log), (.int .i64 x0.A.Line), (.int .i64 x0.B.Log), (.int .i64 x0.B.Line)]) (hs3.ownAt (k := 0) rfl)) ?_
 obtain ⟨r4, hr5, h6⟩ := bind_some h
 refine Cl 6 4 70 #[(.tmp 4), (.tmp 5)] #[25, 46] co_clocks_tied hs3 (c_clocks_tied N w2 F0 hs3.pers (z0) az0_0 nz0_0 hbz0_0 hsz0_0 az0_1 nz0_1 hbz0_1 hsz0_1 (x0) _ hr5) ?_
 intro v7 F1 w8 hs9 le10 hp11
 obtain rfl := hp11
 refine V 7 4 (run_not (t := 4) (x := (.tmp 6)) (a := r4) rfl) ?_
 refine V 3 4 (ma 7 (.bool (!r4))) ?_
 refine Nt ?_
 refine CWP.ret (by kernel_rfl) ?_
 have hfin := some_inj h6
 subst hfin
 exact ⟨rfl, (.bool (!r4)), res_of (l := [.tmp 3]) (by kernel_rfl) (vs := [(.bool (!r4))]) ⟨rfl, trivial⟩, (.bool (!r4)), F1, rfl, hs9.clear, rfl⟩
end Go.Proofs.Ythbcnabeabcmlaa
namespace Go.Proofs.Ythbcnabeabcmlaa
open Go.Proofs
def clocks_Check (N : Nat) (x0 : System) : Option Int :=
 (bif ((decide ((x0.Tracks.length : Int) > 64)) || (decide ((x0.Ties.length : Int) > 400))) then some 2 else ((slices_ContainsFunc_api_Track_api_Track N x0.Tracks (fun y0 => clocks_Check_1 N y0)).bind fun r14 => ((bif r14 then some true else ((clocks_within N x0.Window 0 120).bind fun r34 => (bif (!r34) then some true else ((slices_ContainsFunc_api_Tie_api_Tie N x0.Ties (fun y0 => clocks_Check_2 N y0 x0)).bind fun r49 => some r49)))).bind fun j25 => (bif j25 then some 30 else some 0))))
theorem co_clocks_Check : CallOk Try.prog 17 := fun _ _ => by kernel_rfl
set_option maxHeartbeats 4000000 in
set_option maxRecDepth 100000 in
theorem c_clocks_Check (N : Nat) (w0 : World) (F0 : Mem) (hF : ∀ b o, F0 b = some o → w0.heap[b]? = some o) (x0 : System) (a0_0 : Option Addr) (n0_0 : Nat) (hb0_0 : LC x0.Tracks.length n0_0) (hs0_0 : SlA tTrack F0 a0_0 x0.Tracks) (a0_1 : Option Addr) (n0_1 : Nat) (hb0_1 : LC x0.Ties.length n0_1) (hs0_1 : SlA tTie F0 a0_1 x0.Ties) (r : Int) (h : clocks_Check N x0 = some r) :
  Calls Try.prog 17 ([(.agg #[(.slice a0_0 x0.Tracks.length n0_0), (.slice a0_1 x0.Ties.length n0_1), (.int .i64 x0.Window)])] : List Value).toArray w0 (FRet w0 F0 fun F' v => v = (.int .i64 r)) := by
 have hs0 := HS.start hF
 refine calls_of (n := 30) (c := bodyOf Try.f17) Try.func17 (by kernel_rfl) (by kernel_rfl) (by kernel_rfl) ?_
 refine Sq (Rg [0, 1] ?_)
 refine Bx 1 0 0 25 #[(.slice a0_0 x0.Tracks.length n0_0), (.slice a0_1 x0.Ties.length n0_1), (.int .i64 x0.Window)] hs0 (fun b1 w2 (hs3 : HS w0 F0 w2 F0 [(some b1, (.cells #[(.slice a0_0 x0.Tracks.length n0_0), (.slice a0_1 x0.Ties.length n0_1), (.int .i64 x0.Window)] 25 (0, 0)))]) => ?_)
 refine V 2 30 (mc (.int .i64 0) (.int .i64 0)) ?_
 refine Nss ?_
 refine Sq (Rg [0, 1, 2, 3, 4, 5, 6, 7, 8, 9] ?_)
 refine RWP.cut (fun f w => ∃ (F1 : Mem), HS w0 F0 w F1 [(some b1, (.cells #[(.slice a0_0 x0.Tracks.length n0_0), (.slice a0_1 x0.Ties.length n0_1), (.int .i64 x0.Window)] 25 (0, 0)))] ∧ Mem.le F0 F1 ∧ f.d = [] ∧ f 1 = (.pointer (some ⟨b1, 0, none⟩)) ∧ f 13 = (.bool ((decide ((x0.Tracks.length : Int) > 64)) || (decide ((x0.Ties.length : Int) > 400))))) ?_ ?_
 ·refine V 4 0 (fa 25 1 0 0 1 b1 0 0) ?_
  refine V 5 22 (ld 22 4 b1 0 false 1 (.slice a0_0 x0.Tracks.length n0_0) (hs3.ownAt (k := 0) rfl)) ?_
  refine V 6 3 (ln 5 22 a0_0 x0.Tracks.length n0_0 54 4 64) ?_
  refine V 7 4 (run_gtr (t := 3) (t' := 3) (x := (.tmp 6)) (y := (.const (.int .i64 64))) (k := .i64) (a := (x0.Tracks.length : Int)) (b := 64) rfl rfl) ?_
  refine V 8 4 (mv 7 (.bool (decide ((x0.Tracks.length : Int) > 64)))) ?_
  refine RWP.split (decide ((x0.Tracks.length : Int) > 64)) (fun hb10 => ?_) (fun hb10 => ?_)
  ·refine Sk [9, 10, 11, 12] 4 false 8 hb10 ?_
   refine V 13 4 (p1 8 (.const (.bool true)) (.tmp 12) (.bool true) hb10) ?_
   exact RWP.nil ⟨rfl, F0, hs3, (Mem.le.refl _), rfl, rfl, (congrArg Value.bool (or_t hb10 (rfl)))⟩
  ·refine Vg 9 0 4 false 8 hb10 (fa 25 1 1 1 1 b1 0 1) ?_
   refine Vg 10 23 4 false 8 hb10 (ld 23 9 b1 1 false 1 (.slice a0_1 x0.Ties.length n0_1) (hs3.ownAt (k := 0) rfl)) ?_
   refine Vg 11 3 4 false 8 hb10 (ln 10 23 a0_1 x0.Ties.length n0_1 46 4 32) ?_
   refine Vg 12 4 4 false 8 hb10 (run_gtr (t := 3) (t' := 3) (x := (.tmp 11)) (y := (.const (.int .i64 400))) (k := .i64) (a := (x0.Ties.length : Int)) (b := 400) rfl rfl) ?_
   refine V 13 4 (p0 8 (.const (.bool true)) (.tmp 12) (.bool (decide ((x0.Ties.length : Int) > 400))) hb10) ?_
   exact RWP.nil ⟨rfl, F0, hs3, (Mem.le.refl _), rfl, rfl, (congrArg Value.bool (or_f hb10 (rfl)))⟩
 ·rintro f w4 ⟨F1, hs5, le6, e7, e8, e9⟩
  refine thenQ_nrm ?_
  refine CWP.cond (t := ((decide ((x0.Tracks.length : Int) > 64)) || (decide ((x0.Ties.length : Int) > 400)))) (by kernel_rfl) e9 (fun hb11 => ?_) (fun hb11 => ?_)
  ·have h12 := cond_t h hb11
   refine Sq (Rg [0] ?_)
   refine V 2 30 (mc (.int .i64 2) (.int .i64 2)) ?_
   refine Nt ?_
   refine CWP.ret (by kernel_rfl) ?_
   refine thenQ_ret ?_
   have hfin := some_inj h12
   subst hfin
   exact ⟨e7, (.int .i64 2), res_of (l := [.tmp 2]) (by kernel_rfl) (vs := [(.int .i64 2)]) ⟨rfl, trivial⟩, (.int .i64 2), F1, rfl, hs5.clear, rfl⟩
  ·have h13 := cond_f h hb11
   refine Sc ?_
   refine thenQ_nrm ?_
   refine Sq (Rg [0, 1, 2, 3] ?_)
   refine V 14 0 (fa 25 1 0 0 1 b1 0 0 e8) ?_
   refine V 15 22 (ld 22 14 b1 0 false 1 (.slice a0_0 x0.Tracks.length n0_0) (hs5.ownAt (k := 0) rfl)) ?_
   obtain ⟨r14, hr15, h16⟩ := bind_some h13
   refine Cl 16 4 65 #[(.tmp 15), (.func 66)] #[22, 61] co_slices_ContainsFunc_api_Track_api_Track hs5 (c_slices_ContainsFunc_api_Track_api_Track N w4 F1 hs5.pers (x0.Tracks) a0_0 n0_0 hb0_0 (SlA.mono hs0_0 le6) 66 [] [] (fun y0 => clocks_Check_1 N y0) co_clocks_Check_1 (fun w1 F1 y0 ay0_2 ny0_2 hby0_2 hsy0_2 ay0_3 ny0_3 hby0_3 hsy0_3 r le1 pe1 hr1 => c_clocks_Check_1 N w1 F1 pe1  y0 ay0_2 ny0_2 hby0_2 hsy0_2 ay0_3 ny0_3 hby0_3 hsy0_3  r hr1) _ hr15) ?_
   intro v17 F2 w18 hs19 le20 hp21
   obtain rfl := hp21
   refine V 3 4 (ma 16 (.bool r14)) ?_
   refine Nss ?_
   refine Sq (Rg [0, 1, 2, 3, 4, 5, 6, 7, 8, 9, 10, 11, 12] ?_)
   obtain ⟨j25, hj28, h29⟩ := bind_some h16
   refine RWP.cut (fun f w => ∃ (F3 : Mem), HS w0 F0 w F3 [] ∧ Mem.le F2 F3 ∧ f.d = [] ∧ f 29 = (.bool j25)) ?_ ?_
   ·refine V 17 4 (mv 3 (.bool r14)) ?_
    refine V 18 4 (mv 17 (.bool r14)) ?_
    refine RWP.split r14 (fun hb30 => ?_) (fun hb30 => ?_)
    ·have h31 := cond_t hj28 hb30
     refine Sk [19, 20, 21, 22] 1 false 18 hb30 ?_
     refine V 23 4 (p1 18 (.const (.bool true)) (.tmp 22) (.bool true) hb30) ?_
     refine V 24 4 (mv 23 (.bool true)) ?_
     refine Sk [25, 26, 27, 28] 7 false 24 rfl ?_
     refine V 29 4 (p1 24 (.const (.bool true)) (.tmp 28) (.bool true) rfl) ?_
     obtain rfl := some_inj h31
     have hs32 : HS w0 F0 w18 F2 [] := hs19.drop 0
     exact RWP.nil ⟨rfl, F2, hs32, (Mem.le.refl _), e7, rfl⟩
    ·have h33 := cond_f hj28 hb30
     refine Vg 19 0 1 false 18 hb30 (fa 25 1 2 2 1 b1 0 2 e8) ?_
     refine Vg 20 3 1 false 18 hb30 (ld 3 19 b1 2 false 1 (.int .i64 x0.Window) (hs19.ownAt (k := 0) rfl)) ?_
     obtain ⟨r34, hr35, h36⟩ := bind_some h33
     refine RWP.call (dst := (some 21)) (ty := 4) (g := (some (1, false))) (by kernel_rfl) (gd_y (d := 18) (by kernel_rfl) rfl hb30) (f0 := (.func 67)) (aos := #[(.tmp 20), (.const (.int .i64 0)), (.const (.int .i64 120))]) (ats := #[3, 3, 3]) (fid := 67) (first := #[]) (cap := #[]) (args := [(.int .i64 x0.Window), (.int .i64 0), (.int .i64 120)]) rfl co_clocks_within (rfl) hs19 (c_clocks_within N w18 F2 hs19.pers (x0.Window) (0) (120) _ hr35) ?_
     intro v37 F4 w38 hs39 le40 hp41
     obtain rfl := hp41
     refine Vg 22 4 1 false 18 hb30 (run_not (t := 4) (x := (.tmp 21)) (a := r34) rfl) ?_
     refine V 23 4 (p0 18 (.const (.bool true)) (.tmp 22) (.bool (!r34)) hb30) ?_
     refine V 24 4 (mv 23 (.bool (!r34))) ?_
     refine RWP.split (!r34) (fun hb42 => ?_) (fun hb42 => ?_)
     ·have h43 := cond_t h36 hb42
      refine Sk [25, 26, 27, 28] 7 false 24 hb42 ?_
      refine V 29 4 (p1 24 (.const (.bool true)) (.tmp 28) (.bool true) hb42) ?_
      obtain rfl := some_inj h43
      have hs44 : HS w0 F0 w38 F4 [] := hs39.drop 0
      exact RWP.nil ⟨rfl, F4, hs44, le40, e7, rfl⟩
     ·have h45 := cond_f h36 hb42
      refine Vg 25 0 7 false 24 hb42 (fa 25 1 1 1 1 b1 0 1 e8) ?_
      refine Vg 26 23 7 false 24 hb42 (ld 23 25 b1 1 false 1 (.slice a0_1 x0.Ties.length n0_1) (hs39.ownAt (k := 0) rfl)) ?_
      refine Vg 27 91 7 false 24 hb42 (run_makeFunc (fn := .func 69) (first := #[]) (cap := #[(.tmp 1)]) (fl := []) (cl := [(.pointer (some ⟨b1, 0, none⟩))]) rfl (cons_eq e8 (rfl))) ?_
      obtain ⟨F5, hs46, le47, hF48⟩ : ∃ Fq, HS w0 F0 w38 Fq [] ∧ Mem.le F4 Fq ∧ Fq b1 = some (.cells #[(.slice a0_0 x0.Tracks.length n0_0), (.slice a0_1 x0.Ties.length n0_1), (.int .i64 x0.Window)] 25 (0, 0)) := HS.freezeC hs39 (k := 0) rfl
      obtain ⟨r49, hr50, h51⟩ := bind_some h45
      refine RWP.call (dst := (some 28)) (ty := 4) (g := (some (7, false))) (by kernel_rfl) (gd_y (d := 24) (by kernel_rfl) rfl hb42) (f0 := (.func 68)) (aos := #[(.tmp 26), (.tmp 27)]) (ats := #[23, 91]) (fid := 68) (first := #[]) (cap := #[]) (args := [(.slice a0_1 x0.Ties.length n0_1), (.func (.func 69) #[] #[(.pointer (some ⟨b1, 0, none⟩))])]) rfl co_slices_ContainsFunc_api_Tie_api_Tie (rfl) hs46 (c_slices_ContainsFunc_api_Tie_api_Tie N w38 F5 hs46.pers (x0.Ties) a0_1 n0_1 hb0_1 (SlA.mono hs0_1 (((le6.trans le20).trans le40).trans le47)) 69 [] [(.pointer (some ⟨b1, 0, none⟩))] (fun y0 => clocks_Check_2 N y0 x0) co_clocks_Check_2 (fun w1 F1 y0 r le1 pe1 hr1 => c_clocks_Check_2 N w1 F1 pe1  y0 b1 x0 a0_0 n0_0 hb0_0 (SlA.mono (SlA.mono hs0_0 (((le6.trans le20).trans le40).trans le47)) le1) a0_1 n0_1 hb0_1 (SlA.mono (SlA.mono hs0_1 (((le6.trans le20).trans le40).trans le47)) le1) (le1 _ _ hF48) r hr1) _ hr50) ?_
      intro v52 F6 w53 hs54 le55 hp56
      obtain rfl := hp56
      refine V 29 4 (p0 24 (.const (.bool true)) (.tmp 28) (.bool r49) hb42) ?_
      obtain rfl := some_inj h51
      exact RWP.nil ⟨rfl, F6, hs54, ((le40.trans le47).trans le55), e7, rfl⟩
   ·rintro f w22 ⟨F3, hs23, le24, e26, e27⟩
    refine thenQ_nrm ?_
    refine CWP.cond (t := j25) (by kernel_rfl) e27 (fun hb57 => ?_) (fun hb57 => ?_)
    ·have h58 := cond_t h29 hb57
     refine Sq (Rg [0] ?_)
     refine V 2 30 (mc (.int .i64 30) (.int .i64 30)) ?_
     refine Nt ?_
     refine CWP.ret (by kernel_rfl) ?_
     refine thenQ_ret ?_
     have hfin := some_inj h58
     subst hfin
     exact ⟨e26, (.int .i64 30), res_of (l := [.tmp 2]) (by kernel_rfl) (vs := [(.int .i64 30)]) ⟨rfl, trivial⟩, (.int .i64 30), F3, rfl, hs23.clear, rfl⟩
    ·have h59 := cond_f h29 hb57
     refine Sc ?_
     refine thenQ_nrm ?_
     refine Sq (Rg [0] ?_)
     refine V 2 30 (mc (.int .i64 0) (.int .i64 0)) ?_
     refine Nt ?_
     refine CWP.ret (by kernel_rfl) ?_
     have hfin := some_inj h59
     subst hfin
     exact ⟨e26, (.int .i64 0), res_of (l := [.tmp 2]) (by kernel_rfl) (vs := [(.int .i64 0)]) ⟨rfl, trivial⟩, (.int .i64 0), F3, rfl, hs23.clear, rfl⟩
end Go.Proofs.Ythbcnabeabcmlaa
namespace Go.Proofs.Ythbcnabeabcmlaa
open Go.Proofs
def ref03_within (N : Nat) (x0 : Int) (x1 : Int) (x2 : Int) : Option Bool :=
 some ((decide (x1 ≤ x0)) && (decide (x0 ≤ x2)))
theorem co_ref03_within : CallOk Try.prog 83 := fun _ _ => by kernel_rfl
set_option maxHeartbeats 4000000 in
set_option maxRecDepth 100000 in
theorem c_ref03_within (N : Nat) (w0 : World) (F0 : Mem) (hF : ∀ b o, F0 b = some o → w0.heap[b]? = some o) (x0 : Int) (x1 : Int) (x2 : Int) (r : Bool) (h : ref03_within N x0 x1 x2 = some r) :
  Calls Try.prog 83 ([(.int .i64 x0), (.int .i64 x1), (.int .i64 x2)] : List Value).toArray w0 (FRet w0 F0 fun F' v => v = (.bool r)) := by
 have hs0 := HS.start hF
 refine calls_of (n := 15) (c := bodyOf Try.f83) Try.func83 (by kernel_rfl) (by kernel_rfl) (by kernel_rfl) ?_
 refine Sq (Rg [0] ?_)
 refine V 6 4 (mc (.bool false) (.bool false)) ?_
 refine Nss (Rg [0, 1, 2, 3, 4, 5, 6, 7, 8] ?_)
 refine RWP.cut (fun f w => ∃ (F1 : Mem), HS w0 F0 w F1 [] ∧ Mem.le F0 F1 ∧ f.d = [] ∧ f 6 = (.bool ((decide (x1 ≤ x0)) && (decide (x0 ≤ x2))))) ?_ ?_
 ·refine V 7 3 (mv 1 (.int .i64 x1)) ?_
  refine V 8 3 (mv 0 (.int .i64 x0)) ?_
  refine V 9 4 (run_leq (t := 3) (t' := 3) (x := (.tmp 7)) (y := (.tmp 8)) (k := .i64) (a := x1) (b := x0) rfl rfl) ?_
  refine V 10 4 (mv 9 (.bool (decide (x1 ≤ x0)))) ?_
  refine RWP.split (decide (x1 ≤ x0)) (fun hb6 => ?_) (fun hb6 => ?_)
  ·refine Vg 11 3 3 true 10 hb6 (mv 0 (.int .i64 x0)) ?_
   refine Vg 12 3 3 true 10 hb6 (mv 2 (.int .i64 x2)) ?_
   refine Vg 13 4 3 true 10 hb6 (run_leq (t := 3) (t' := 3) (x := (.tmp 11)) (y := (.tmp 12)) (k := .i64) (a := x0) (b := x2) rfl rfl) ?_
   refine V 14 4 (p1 10 (.tmp 13) (.const (.bool false)) (.bool (decide (x0 ≤ x2))) hb6) ?_
   refine V 6 4 (ma 14 (.bool (decide (x0 ≤ x2)))) ?_
   exact RWP.nil ⟨rfl, F0, hs0, (Mem.le.refl _), rfl, (congrArg Value.bool (and_t hb6 (rfl)))⟩
  ·refine Sk [11, 12, 13] 3 true 10 hb6 ?_
   refine V 14 4 (p0 10 (.tmp 13) (.const (.bool false)) (.bool false) hb6) ?_
   refine V 6 4 (ma 14 (.bool false)) ?_
   exact RWP.nil ⟨rfl, F0, hs0, (Mem.le.refl _), rfl, (congrArg Value.bool (and_f hb6 (rfl)))⟩
 ·rintro f w1 ⟨F1, hs2, le3, e4, e5⟩
  refine thenQ_nrm ?_
  refine CWP.ret (by kernel_rfl) ?_
  have hfin := some_inj h
  subst hfin
  exact ⟨e4, (.bool ((decide (x1 ≤ x0)) && (decide (x0 ≤ x2)))), res_of (l := [.tmp 6]) (by kernel_rfl) (vs := [(.bool ((decide (x1 ≤ x0)) && (decide (x0 ≤ x2))))]) ⟨e5, trivial⟩, (.bool ((decide (x1 ≤ x0)) && (decide (x0 ≤ x2)))), F1, rfl, hs2.clear, rfl⟩
end Go.Proofs.Ythbcnabeabcmlaa
namespace Go.Proofs.Ythbcnabeabcmlaa
open Go.Proofs
def ref03_ValidClock_L0 (N : Nat) (x0 : Clock) (j7 : (Bool)) : Int → Option (Flow Bool Int) := fun s41 =>
 (bif (decide (s41 < (x0.Jumps.length : Int))) then (((idx x0.Jumps s41).bind fun x73 => ((ref03_within N x73 0 20000).bind fun r87 => (bif (!r87) then some true else (bif (decide (s41 > 0)) then ((idx x0.Jumps s41).bind fun x100 => ((idx x0.Jumps (W64 (s41 - 1))).bind fun x106 => some (decide (x100 ≤ x106)))) else some false)))).bind fun j66 => (bif j66 then some (.ret false) else some (.next (W64 (s41 + 1))))) else some (.done s41))
def ref03_ValidClock (N : Nat) (x0 : Clock) : Option Bool :=
 (((ref03_within N x0.Slip 0 1440).bind fun r13 => (bif (!r13) then some true else ((ref03_within N x0.Drift 0 100).bind fun r24 => (bif (!r24) then some true else some (decide ((x0.Jumps.length : Int) > 16)))))).bind fun j7 => (bif j7 then some false else ((iter (ref03_ValidClock_L0 N x0 j7) N 0).bind fun o => o.k (fun r => some r) (fun s48 => some true))))
theorem co_ref03_ValidClock : CallOk Try.prog 37 := fun _ _ => by kernel_rfl
set_option maxHeartbeats 4000000 in
set_option maxRecDepth 100000 in
theorem c_ref03_ValidClock (N : Nat) (w0 : World) (F0 : Mem) (hF : ∀ b o, F0 b = some o → w0.heap[b]? = some o) (x0 : Clock) (a0_2 : Option Addr) (n0_2 : Nat) (hb0_2 : LC x0.Jumps.length n0_2) (hs0_2 : SlA tInt F0 a0_2 x0.Jumps) (r : Bool) (h : ref03_ValidClock N x0 = some r) :
  Calls Try.prog 37 ([(.agg #[(.int .i64 x0.Slip), (.int .i64 x0.Drift), (.slice a0_2 x0.Jumps.length n0_2)])] : List Value).toArray w0 (FRet w0 F0 fun F' v => v = (.bool r)) := by
 have hs0 := HS.start hF
 refine calls_of (n := 52) (c := bodyOf Try.f37) Try.func37 (by kernel_rfl) (by kernel_rfl) (by kernel_rfl) ?_
 refine Sq (Rg [0, 1] ?_)
 refine Bx 1 0 0 52 #[(.int .i64 x0.Slip), (.int .i64 x0.Drift), (.slice a0_2 x0.Jumps.length n0_2)] hs0 (fun b1 w2 (hs3 : HS w0 F0 w2 F0 [(some b1, (.cells #[(.int .i64 x0.Slip), (.int .i64 x0.Drift), (.slice a0_2 x0.Jumps.length n0_2)] 52 (0, 0)))]) => ?_)
 refine V 2 4 (mc (.bool false) (.bool false)) ?_
 refine Nss ?_
 refine Sq (Rg [0, 1, 2, 3, 4, 5, 6, 7, 8, 9, 10, 11, 12, 13, 14, 15] ?_)
 obtain ⟨j7, hj11, h12⟩ := bind_some h
 refine RWP.cut (fun f w => ∃ (F1 : Mem), HS w0 F0 w F1 [(some b1, (.cells #[(.int .i64 x0.Slip), (.int .i64 x0.Drift), (.slice a0_2 x0.Jumps.length n0_2)] 52 (0, 0)))] ∧ Mem.le F0 F1 ∧ f.d = [] ∧ f 1 = (.pointer (some ⟨b1, 0, none⟩)) ∧ f 19 = (.bool j7)) ?_ ?_
 ·refine V 4 0 (fa 52 1 0 0 1 b1 0 0) ?_
  refine V 5 3 (ld 3 4 b1 0 false 1 (.int .i64 x0.Slip) (hs3.ownAt (k := 0) rfl)) ?_
  obtain ⟨r13, hr14, h15⟩ := bind_some hj11
  refine Cl 6 4 83 #[(.tmp 5), (.const (.int .i64 0)), (.const (.int .i64 1440))] #[3, 3, 3] co_ref03_within hs3 (c_ref03_within N w2 F0 hs3.pers (x0.Slip) (0) (1440) _ hr14) ?_
  intro v16 F2 w17 hs18 le19 hp20
  obtain rfl := hp20
  refine V 7 4 (run_not (t := 4) (x := (.tmp 6)) (a := r13) rfl) ?_
  refine V 8 4 (mv 7 (.bool (!r13))) ?_
  refine RWP.split (!r13) (fun hb21 => ?_) (fun hb21 => ?_)
  ·have h22 := cond_t h15 hb21
   refine Sk [9, 10, 11, 12] 4 false 8 hb21 ?_
   refine V 13 4 (p1 8 (.const (.bool true)) (.tmp 12) (.bool true) hb21) ?_
   refine V 14 4 (mv 13 (.bool true)) ?_
   refine Sk [15, 16, 17, 18] 10 false 14 rfl ?_
   refine V 19 4 (p1 14 (.const (.bool true)) (.tmp 18) (.bool true) rfl) ?_
   obtain rfl := some_inj h22
   exact RWP.nil ⟨rfl, F2, hs18, le19, rfl, rfl, rfl⟩
  ·have h23 := cond_f h15 hb21
   refine Vg 9 0 4 false 8 hb21 (fa 52 1 1 1 1 b1 0 1) ?_
   refine Vg 10 3 4 false 8 hb21 (ld 3 9 b1 1 false 1 (.int .i64 x0.Drift) (hs18.ownAt (k := 0) rfl)) ?_
   obtain ⟨r24, hr25, h26⟩ := bind_some h23
   refine RWP.call (dst := (some 11)) (ty := 4) (g := (some (4, false))) (by kernel_rfl) (gd_y (d := 8) (by kernel_rfl) rfl hb21) (f0 := (.func 83)) (aos := #[(.tmp 10), (.const (.int .i64 0)), (.const (.int .i64 100))]) (ats := #[3, 3, 3]) (fid := 83) (first := #[]) (cap := #[]) (args := [(.int .i64 x0.Drift), (.int .i64 0), (.int .i64 100)]) rfl co_ref03_within (rfl) hs18 (c_ref03_within N w17 F2 hs18.pers (x0.Drift) (0) (100) _ hr25) ?_
   intro v27 F3 w28 hs29 le30 hp31
   obtain rfl := hp31
   refine Vg 12 4 4 false 8 hb21 (run_not (t := 4) (x := (.tmp 11)) (a := r24) rfl) ?_
   refine V 13 4 (p0 8 (.const (.bool true)) (.tmp 12) (.bool (!r24)) hb21) ?_
   refine V 14 4 (mv 13 (.bool (!r24))) ?_
   refine RWP.split (!r24) (fun hb32 => ?_) (fun hb32 => ?_)
   ·have h33 := cond_t h26 hb32
    refine Sk [15, 16, 17, 18] 10 false 14 hb32 ?_
    refine V 19 4 (p1 14 (.const (.bool true)) (.tmp 18) (.bool true) hb32) ?_
    obtain rfl := some_inj h33
    exact RWP.nil ⟨rfl, F3, hs29, (le19.trans le30), rfl, rfl, rfl⟩
   ·have h34 := cond_f h26 hb32
    refine Vg 15 0 10 false 14 hb32 (fa 52 1 2 2 1 b1 0 2) ?_
    refine Vg 16 50 10 false 14 hb32 (ld 50 15 b1 2 false 1 (.slice a0_2 x0.Jumps.length n0_2) (hs29.ownAt (k := 0) rfl)) ?_
    refine Vg 17 3 10 false 14 hb32 (ln 16 50 a0_2 x0.Jumps.length n0_2 3 1 8) ?_
    refine Vg 18 4 10 false 14 hb32 (run_gtr (t := 3) (t' := 3) (x := (.tmp 17)) (y := (.const (.int .i64 16))) (k := .i64) (a := (x0.Jumps.length : Int)) (b := 16) rfl rfl) ?_
    refine V 19 4 (p0 14 (.const (.bool true)) (.tmp 18) (.bool (decide ((x0.Jumps.length : Int) > 16))) hb32) ?_
    obtain rfl := some_inj h34
    exact RWP.nil ⟨rfl, F3, hs29, (le19.trans le30), rfl, rfl, rfl⟩
 ·rintro f w4 ⟨F1, hs5, le6, e8, e9, e10⟩
  refine thenQ_nrm ?_
  refine CWP.cond (t := j7) (by kernel_rfl) e10 (fun hb35 => ?_) (fun hb35 => ?_)
  ·have h36 := cond_t h12 hb35
   refine Sq (Rg [0] ?_)
   refine V 2 4 (mc (.bool false) (.bool false)) ?_
   refine Nt ?_
   refine CWP.ret (by kernel_rfl) ?_
   refine thenQ_ret ?_
   have hfin := some_inj h36
   subst hfin
   exact ⟨e8, (.bool false), res_of (l := [.tmp 2]) (by kernel_rfl) (vs := [(.bool false)]) ⟨rfl, trivial⟩, (.bool false), F1, rfl, hs5.clear, rfl⟩
  ·have h37 := cond_f h12 hb35
   refine Sc ?_
   refine thenQ_nrm ?_
   refine Sq ?_
   refine Sq (Rg [0] ?_)
   refine V 3 3 (mc (.int .i64 0) (.int .i64 0)) ?_
   refine Nt ?_
   obtain ⟨o38, ho39, h40⟩ := bind_some h37
   refine CWP.cut (fun f w => ∃ (s48 : Int) (F5 : Mem), o38 = .done s48 ∧ HS w0 F0 w F5 [] ∧ Mem.le F1 F5 ∧ f.d = []) ?_ ?_
   ·refine Bk ?_
    refine CWP.loop (by kernel_rfl) (fun m f w => ∃ (s41 : Int) (F4 : Mem), iter (ref03_ValidClock_L0 N x0 j7) m s41 = some o38 ∧ HS w0 F0 w F4 [(some b1, (.cells #[(.int .i64 x0.Slip), (.int .i64 x0.Drift), (.slice a0_2 x0.Jumps.length n0_2)] 52 (0, 0)))] ∧ Mem.le F1 F4 ∧ f.d = [] ∧ f 1 = (.pointer (some ⟨b1, 0, none⟩)) ∧ f 3 = (.int .i64 s41)) N ⟨0, F1, ho39, hs5, (Mem.le.refl _), e8, e9, rfl⟩ ?_
    rintro m53 f w42 ⟨s41, F4, hit54, hs43, le44, e45, e46, e47⟩
    obtain ⟨m55, fl56, rfl, hb57, hnx58⟩ := iter_step hit54
    refine Sq ?_
    refine Sq (Rg [0, 1, 2, 3, 4] ?_)
    refine V 20 3 (mv 3 (.int .i64 s41) e47) ?_
    refine V 21 0 (fa 52 1 2 2 1 b1 0 2 e46) ?_
    refine V 22 50 (ld 50 21 b1 2 false 1 (.slice a0_2 x0.Jumps.length n0_2) (hs43.ownAt (k := 0) rfl)) ?_
    refine V 23 3 (ln 22 50 a0_2 x0.Jumps.length n0_2 3 1 8) ?_
    refine V 24 4 (run_lss (t := 3) (t' := 3) (x := (.tmp 20)) (y := (.tmp 23)) (k := .i64) (a := s41) (b := (x0.Jumps.length : Int)) rfl rfl) ?_
    refine Nt ?_
    refine CWP.cond (t := (decide (s41 < (x0.Jumps.length : Int)))) (by kernel_rfl) rfl (fun hb59 => ?_) (fun hb59 => ?_)
    ·have h60 := cond_t hb57 hb59
     refine Sc ?_
     refine thenQ_nrm ?_
     refine Sq ?_
     refine Bk ?_
     refine Sq ?_
     obtain ⟨j66, hj71, h72⟩ := bind_some h60
     refine CWP.regionD (by kernel_rfl) (by kernel_rfl) (by kernel_rfl) (by kernel_rfl) (z := 25) (F := F4) (Lc := [(some b1, (.cells #[(.int .i64 x0.Slip), (.int .i64 x0.Drift), (.slice a0_2 x0.Jumps.length n0_2)] 52 (0, 0)))]) (Lz := []) (l := [false, false, false, false, false, false, false, false, false, false, false, false, false, false, false, false, false, false, false, false, false, false, false, false, false]) (fuel := 25) (by kernel_rfl) (by kernel_rfl) hs43 (by simp) (by simp) (fun f w => ∃ (F6 : Mem), HS w0 F0 w F6 [(some b1, (.cells #[(.int .i64 x0.Slip), (.int .i64 x0.Drift), (.slice a0_2 x0.Jumps.length n0_2)] 52 (0, 0)))] ∧ Mem.le F4 F6 ∧ f.d = [] ∧ f 1 = (.pointer (some ⟨b1, 0, none⟩)) ∧ f 3 = (.int .i64 s41) ∧ f 51 = (.bool j66)) (fun wd61 hw62 => ?_) ?_
     ·refine Dtl 0 27 0 (.pointer (some ⟨b1, 2, none⟩)) [tt, ff, ff, ff, ff, ff, ff, ff, ff, ff, ff, ff, ff, ff, ff, ff, ff, ff, ff, ff, ff, ff, ff, ff, ff] (fun _ hq => fa 52 1 2 2 1 b1 0 2 e46) ?_
      refine Dtl 1 28 50 _ [tt, tt, ff, ff, ff, ff, ff, ff, ff, ff, ff, ff, ff, ff, ff, ff, ff, ff, ff, ff, ff, ff, ff, ff, ff] (fun _ hq => ld 50 27 b1 2 false 1 (.slice a0_2 x0.Jumps.length n0_2) (hq.1.2 0 _ _ rfl)) ?_
      refine Dtl 2 29 3 _ [tt, tt, tt, ff, ff, ff, ff, ff, ff, ff, ff, ff, ff, ff, ff, ff, ff, ff, ff, ff, ff, ff, ff, ff, ff] (fun _ hq => mv 3 (.int .i64 s41) e47) ?_
      obtain ⟨x73, hx74, h76⟩ := bind_some hj71
      obtain ⟨hi75, hx74'⟩ := idx_spec hx74
      obtain ⟨b77, o78, C79, E80, fz81, rfl, hF83, hE84⟩ := SlA.open (SlA.mono hs0_2 (le6.trans le44)) hx74'
      have hc86 := hE84 _ _ hx74'
      refine Dtl 3 30 0 (.pointer (some ⟨b77, (o78 + (s41 : Int).toNat * 1), none⟩)) [tt, tt, tt, tt, ff, ff, ff, ff, ff, ff, ff, ff, ff, ff, ff, ff, ff, ff, ff, ff, ff, ff, ff, ff, ff] (fun _ hq => ix 50 28 29 b77 o78 3 1 8 hi75) ?_
      refine Dtl 4 31 3 _ [tt, tt, tt, tt, tt, ff, ff, ff, ff, ff, ff, ff, ff, ff, ff, ff, ff, ff, ff, ff, ff, ff, ff, ff, ff] (fun _ hq => lx 3 30 0 1 false 1 (.int .i64 x73) (hq.1.1 _ _ hF83) hc86) ?_
      refine DWP.one (i := 5) (by kernel_rfl) ?_
      obtain ⟨r87, hr88, h89⟩ := bind_some h76
      refine DStep.call (l' := [true, true, true, true, true, true, false, false, false, false, false, false, false, false, false, false, false, false, false, false, false, false, false, false, false]) (zd := true) (by kernel_rfl) (by kernel_rfl) (by kernel_rfl) (dst := (some 32)) (ty := 4) (g := none) (by kernel_rfl) rfl (f0 := (.func 83)) (aos := #[(.tmp 31), (.const (.int .i64 0)), (.const (.int .i64 20000))]) (ats := #[3, 3, 3]) (fid := 83) (first := #[]) (cap := #[]) (args := [(.int .i64 x73), (.int .i64 0), (.int .i64 20000)]) rfl co_ref03_within (rfl) hw62 (c_ref03_within N wd61 F4 hw62.pers (x73) (0) (20000) _ hr88) ?_
      intro v90 F7 w91 hs92 le93 hp94
      obtain rfl := hp94
      refine Dtl 6 33 4 (.bool (!r87)) [tt, tt, tt, tt, tt, tt, tt, ff, ff, ff, ff, ff, ff, ff, ff, ff, ff, ff, ff, ff, ff, ff, ff, ff, ff] (fun _ hq => run_not (t := 4) (x := (.tmp 32)) (a := r87) rfl) ?_
      refine Dtl 7 34 4 _ [tt, tt, tt, tt, tt, tt, tt, tt, ff, ff, ff, ff, ff, ff, ff, ff, ff, ff, ff, ff, ff, ff, ff, ff, ff] (fun _ hq => mv 33 (.bool (!r87))) ?_
      refine DWP.split (!r87) (fun hb95 => ?_) (fun hb95 => ?_)
      ·have h96 := cond_t h89 hb95
       refine Dkl [(8, 35), (9, 36), (10, 37)] 7 false 34 hb95 [tt, tt, tt, tt, tt, tt, tt, tt, tt, tt, tt, ff, ff, ff, ff, ff, ff, ff, ff, ff, ff, ff, ff, ff, ff] ?_
       refine Dul [(11, 38), (12, 39), (13, 40), (14, 41), (15, 42), (16, 43)] 10 true 37 [tt, tt, tt, tt, tt, tt, tt, tt, tt, tt, tt, tt, tt, tt, tt, tt, tt, ff, ff, ff, ff, ff, ff, ff, ff] ?_
       refine Dul [(17, 44), (18, 45), (19, 46), (20, 47), (21, 48), (22, 49)] 10 true 37 [tt, tt, tt, tt, tt, tt, tt, tt, tt, tt, tt, tt, tt, tt, tt, tt, tt, tt, tt, tt, tt, tt, tt, ff, ff] ?_
       refine Dkl [(23, 50)] 7 false 34 hb95 [tt, tt, tt, tt, tt, tt, tt, tt, tt, tt, tt, tt, tt, tt, tt, tt, tt, tt, tt, tt, tt, tt, tt, tt, ff] ?_
       refine Dtl 24 51 4 _ [tt, tt, tt, tt, tt, tt, tt, tt, tt, tt, tt, tt, tt, tt, tt, tt, tt, tt, tt, tt, tt, tt, tt, tt, tt] (fun _ hq => p1 34 (.const (.bool true)) (.tmp 50) (.bool true) hb95) ?_
       obtain rfl := some_inj h96
       exact DWP.done (by kernel_rfl) ⟨F7, hs92, le93, e45, e46, e47, rfl⟩
      ·have h97 := cond_f h89 hb95
       refine Dgl 8 35 3 _ [tt, tt, tt, tt, tt, tt, tt, tt, tt, ff, ff, ff, ff, ff, ff, ff, ff, ff, ff, ff, ff, ff, ff, ff, ff] 7 false 34 hb95 (fun _ hq => mv 3 (.int .i64 s41) e47) ?_
       refine Dgl 9 36 4 (.bool (decide (s41 > 0))) [tt, tt, tt, tt, tt, tt, tt, tt, tt, tt, ff, ff, ff, ff, ff, ff, ff, ff, ff, ff, ff, ff, ff, ff, ff] 7 false 34 hb95 (fun _ hq => run_gtr (t := 3) (t' := 3) (x := (.tmp 35)) (y := (.const (.int .i64 0))) (k := .i64) (a := s41) (b := 0) rfl rfl) ?_
       refine Dgl 10 37 4 _ [tt, tt, tt, tt, tt, tt, tt, tt, tt, tt, tt, ff, ff, ff, ff, ff, ff, ff, ff, ff, ff, ff, ff, ff, ff] 7 false 34 hb95 (fun _ hq => mv 36 (.bool (decide (s41 > 0)))) ?_
       refine DWP.split (decide (s41 > 0)) (fun hb98 => ?_) (fun hb98 => ?_)
       ·have h99 := cond_t h97 hb98
        refine Dgl 11 38 0 (.pointer (some ⟨b1, 2, none⟩)) [tt, tt, tt, tt, tt, tt, tt, tt, tt, tt, tt, tt, ff, ff, ff, ff, ff, ff, ff, ff, ff, ff, ff, ff, ff] 10 true 37 hb98 (fun _ hq => fa 52 1 2 2 1 b1 0 2 e46) ?_
        refine Dgl 12 39 50 _ [tt, tt, tt, tt, tt, tt, tt, tt, tt, tt, tt, tt, tt, ff, ff, ff, ff, ff, ff, ff, ff, ff, ff, ff, ff] 10 true 37 hb98 (fun _ hq => ld 50 38 b1 2 false 1 (.slice (some ⟨b77, o78, none⟩) x0.Jumps.length n0_2) (hq.1.2 0 _ _ rfl)) ?_
        refine Dgl 13 40 3 _ [tt, tt, tt, tt, tt, tt, tt, tt, tt, tt, tt, tt, tt, tt, ff, ff, ff, ff, ff, ff, ff, ff, ff, ff, ff] 10 true 37 hb98 (fun _ hq => mv 3 (.int .i64 s41) e47) ?_
        obtain ⟨x100, hx101, h103⟩ := bind_some h99
        obtain ⟨hi102, hx101'⟩ := idx_spec hx101
        have hc105 := hE84 _ _ hx101'
        refine Dgl 14 41 0 (.pointer (some ⟨b77, (o78 + (s41 : Int).toNat * 1), none⟩)) [tt, tt, tt, tt, tt, tt, tt, tt, tt, tt, tt, tt, tt, tt, tt, ff, ff, ff, ff, ff, ff, ff, ff, ff, ff] 10 true 37 hb98 (fun _ hq => ix 50 39 40 b77 o78 3 1 8 hi102) ?_
        refine Dgl 15 42 3 _ [tt, tt, tt, tt, tt, tt, tt, tt, tt, tt, tt, tt, tt, tt, tt, tt, ff, ff, ff, ff, ff, ff, ff, ff, ff] 10 true 37 hb98 (fun _ hq => lx 3 41 0 1 false 1 (.int .i64 x100) (hq.1.1 _ _ hF83) hc105) ?_
        refine Dgl 16 43 0 (.pointer (some ⟨b1, 2, none⟩)) [tt, tt, tt, tt, tt, tt, tt, tt, tt, tt, tt, tt, tt, tt, tt, tt, tt, ff, ff, ff, ff, ff, ff, ff, ff] 10 true 37 hb98 (fun _ hq => fa 52 1 2 2 1 b1 0 2 e46) ?_
        refine Dgl 17 44 50 _ [tt, tt, tt, tt, tt, tt, tt, tt, tt, tt, tt, tt, tt, tt, tt, tt, tt, tt, ff, ff, ff, ff, ff, ff, ff] 10 true 37 hb98 (fun _ hq => ld 50 43 b1 2 false 1 (.slice (some ⟨b77, o78, none⟩) x0.Jumps.length n0_2) (hq.1.2 0 _ _ rfl)) ?_
        refine Dgl 18 45 3 _ [tt, tt, tt, tt, tt, tt, tt, tt, tt, tt, tt, tt, tt, tt, tt, tt, tt, tt, tt, ff, ff, ff, ff, ff, ff] 10 true 37 hb98 (fun _ hq => mv 3 (.int .i64 s41) e47) ?_
        refine Dgl 19 46 3 (.int .i64 (W64 (s41 - 1))) [tt, tt, tt, tt, tt, tt, tt, tt, tt, tt, tt, tt, tt, tt, tt, tt, tt, tt, tt, tt, ff, ff, ff, ff, ff] 10 true 37 hb98 (fun _ hq => run_sub (t := 3) (t' := 3) (x := (.tmp 45)) (y := (.const (.int .i64 1))) (k := .i64) (a := s41) (b := 1) rfl rfl) ?_
        obtain ⟨x106, hx107, h109⟩ := bind_some h103
        obtain ⟨hi108, hx107'⟩ := idx_spec hx107
        have hc111 := hE84 _ _ hx107'
        refine Dgl 20 47 0 (.pointer (some ⟨b77, (o78 + ((W64 (s41 - 1)) : Int).toNat * 1), none⟩)) [tt, tt, tt, tt, tt, tt, tt, tt, tt, tt, tt, tt, tt, tt, tt, tt, tt, tt, tt, tt, tt, ff, ff, ff, ff] 10 true 37 hb98 (fun _ hq => ix 50 44 46 b77 o78 3 1 8 hi108) ?_
        refine Dgl 21 48 3 _ [tt, tt, tt, tt, tt, tt, tt, tt, tt, tt, tt, tt, tt, tt, tt, tt, tt, tt, tt, tt, tt, tt, ff, ff, ff] 10 true 37 hb98 (fun _ hq => lx 3 47 0 1 false 1 (.int .i64 x106) (hq.1.1 _ _ hF83) hc111) ?_
        refine Dgl 22 49 4 (.bool (decide (x100 ≤ x106))) [tt, tt, tt, tt, tt, tt, tt, tt, tt, tt, tt, tt, tt, tt, tt, tt, tt, tt, tt, tt, tt, tt, tt, ff, ff] 10 true 37 hb98 (fun _ hq => run_leq (t := 3) (t' := 3) (x := (.tmp 42)) (y := (.tmp 48)) (k := .i64) (a := x100) (b := x106) rfl rfl) ?_
        refine Dgl 23 50 4 _ [tt, tt, tt, tt, tt, tt, tt, tt, tt, tt, tt, tt, tt, tt, tt, tt, tt, tt, tt, tt, tt, tt, tt, tt, ff] 7 false 34 hb95 (fun _ hq => p1 37 (.tmp 49) (.const (.bool false)) (.bool (decide (x100 ≤ x106))) hb98) ?_
        refine Dtl 24 51 4 _ [tt, tt, tt, tt, tt, tt, tt, tt, tt, tt, tt, tt, tt, tt, tt, tt, tt, tt, tt, tt, tt, tt, tt, tt, tt] (fun _ hq => p0 34 (.const (.bool true)) (.tmp 50) (.bool (decide (x100 ≤ x106))) hb95) ?_
        obtain rfl := some_inj h109
        exact DWP.done (by kernel_rfl) ⟨F7, hs92, le93, e45, e46, e47, rfl⟩
       ·have h112 := cond_f h97 hb98
        refine Dkl [(11, 38), (12, 39), (13, 40), (14, 41), (15, 42), (16, 43)] 10 true 37 hb98 [tt, tt, tt, tt, tt, tt, tt, tt, tt, tt, tt, tt, tt, tt, tt, tt, tt, ff, ff, ff, ff, ff, ff, ff, ff] ?_
        refine Dkl [(17, 44), (18, 45), (19, 46), (20, 47), (21, 48), (22, 49)] 10 true 37 hb98 [tt, tt, tt, tt, tt, tt, tt, tt, tt, tt, tt, tt, tt, tt, tt, tt, tt, tt, tt, tt, tt, tt, tt, ff, ff] ?_
        refine Dgl 23 50 4 _ [tt, tt, tt, tt, tt, tt, tt, tt, tt, tt, tt, tt, tt, tt, tt, tt, tt, tt, tt, tt, tt, tt, tt, tt, ff] 7 false 34 hb95 (fun _ hq => p0 37 (.tmp 49) (.const (.bool false)) (.bool false) hb98) ?_
        refine Dtl 24 51 4 _ [tt, tt, tt, tt, tt, tt, tt, tt, tt, tt, tt, tt, tt, tt, tt, tt, tt, tt, tt, tt, tt, tt, tt, tt, tt] (fun _ hq => p0 34 (.const (.bool true)) (.tmp 50) (.bool false) hb95) ?_
        obtain rfl := some_inj h112
        exact DWP.done (by kernel_rfl) ⟨F7, hs92, le93, e45, e46, e47, rfl⟩
     ·rintro f w63 ⟨F6, hs64, le65, e67, e68, e69, e70⟩
      refine thenQ_nrm ?_
      refine CWP.cond (t := j66) (by kernel_rfl) e70 (fun hb113 => ?_) (fun hb113 => ?_)
      ·have h114 := cond_t h72 hb113
       refine Sq (Rg [0] ?_)
       refine V 2 4 (mc (.bool false) (.bool false)) ?_
       refine Nt ?_
       refine CWP.ret (by kernel_rfl) ?_
       refine blockQ_ret ?_
       refine thenQ_ret ?_
       refine thenQ_ret ?_
       refine blockQ_ret ?_
       have hret := iter_ret h114 hnx58
       subst hret
       refine .inr ?_
       refine thenQ_ret ?_
       have hfin := some_inj h40
       subst hfin
       exact ⟨e67, (.bool false), res_of (l := [.tmp 2]) (by kernel_rfl) (vs := [(.bool false)]) ⟨rfl, trivial⟩, (.bool false), F6, rfl, hs64.clear, rfl⟩
      ·have h115 := cond_f h72 hb113
       refine Sc ?_
       refine blockQ_nrm ?_
       refine thenQ_nrm ?_
       refine Rg [0, 1, 2] ?_
       refine V 25 3 (mv 3 (.int .i64 s41) e69) ?_
       refine V 26 3 (run_add (t := 3) (t' := 3) (x := (.tmp 25)) (y := (.const (.int .i64 1))) (k := .i64) (a := s41) (b := 1) rfl rfl) ?_
       refine V 3 3 (ma 26 (.int .i64 (W64 (s41 + 1)))) ?_
       refine RWP.nil ?_
       have hn116 := iter_next h115 hnx58
       exact ⟨m55, Nat.lt_succ_self _, (W64 (s41 + 1)), F6, hn116, hs64, (le44.trans le65), e67, e68, rfl⟩
    ·have h117 := cond_f hb57 hb59
     refine CWP.exit (by kernel_rfl) ?_
     refine thenQ_ex ?_
     refine thenQ_ex ?_
     refine blockQ_hit rfl ?_
     have hs118 : HS w0 F0 w42 F4 [] := hs43.drop 0
     have ho119 := iter_done h117 hnx58
     exact .inl ⟨rfl, s41, F4, ho119, hs118, le44, e45⟩
   ·rintro f w49 ⟨s48, F5, rfl, hs50, le51, e52⟩
    have h120 := k_done h40
    refine thenQ_nrm ?_
    refine Sq (Rg [0] ?_)
    refine V 2 4 (mc (.bool true) (.bool true)) ?_
    refine Nt ?_
    refine CWP.ret (by kernel_rfl) ?_
    have hfin := some_inj h120
    subst hfin
    exact ⟨e52, (.bool true), res_of (l := [.tmp 2]) (by kernel_rfl) (vs := [(.bool true)]) ⟨rfl, trivial⟩, (.bool true), F5, rfl, hs50.clear, rfl⟩
end Go.Proofs.Ythbcnabeabcmlaa
namespace Go.Proofs.Ythbcnabeabcmlaa
open Go.Proofs
def ref03_ValidTrack_L0 (N : Nat) (x0 : Track) (j7 : (Bool)) : Int → Option (Flow Bool Int) := fun s30 =>
 (bif (decide (s30 < (x0.Times.length : Int))) then (((idx x0.Times s30).bind fun x62 => ((ref03_within N x62 0 20000).bind fun r76 => (bif (!r76) then some true else (bif (decide (s30 > 0)) then ((idx x0.Times s30).bind fun x89 => ((idx x0.Times (W64 (s30 - 1))).bind fun x95 => some (decide (x89 < x95)))) else some false)))).bind fun j55 => (bif j55 then some (.ret false) else some (.next (W64 (s30 + 1))))) else some (.done s30))
def ref03_ValidTrack (N : Nat) (x0 : Track) : Option Bool :=
 (((ref03_ValidClock N x0.Clock).bind fun r13 => (bif (!r13) then some true else some (decide ((x0.Times.length : Int) > 400)))).bind fun j7 => (bif j7 then some false else ((iter (ref03_ValidTrack_L0 N x0 j7) N 0).bind fun o => o.k (fun r => some r) (fun s37 => some true))))
theorem co_ref03_ValidTrack : CallOk Try.prog 39 := fun _ _ => by kernel_rfl
set_option maxHeartbeats 4000000 in
set_option maxRecDepth 100000 in
theorem c_ref03_ValidTrack (N : Nat) (w0 : World) (F0 : Mem) (hF : ∀ b o, F0 b = some o → w0.heap[b]? = some o) (x0 : Track) (a0_2 : Option Addr) (n0_2 : Nat) (hb0_2 : LC x0.Clock.Jumps.length n0_2) (hs0_2 : SlA tInt F0 a0_2 x0.Clock.Jumps) (a0_3 : Option Addr) (n0_3 : Nat) (hb0_3 : LC x0.Times.length n0_3) (hs0_3 : SlA tInt F0 a0_3 x0.Times) (r : Bool) (h : ref03_ValidTrack N x0 = some r) :
  Calls Try.prog 39 ([(.agg #[(.int .i64 x0.Clock.Slip), (.int .i64 x0.Clock.Drift), (.slice a0_2 x0.Clock.Jumps.length n0_2), (.slice a0_3 x0.Times.length n0_3)])] : List Value).toArray w0 (FRet w0 F0 fun F' v => v = (.bool r)) := by
 have hs0 := HS.start hF
 refine calls_of (n := 46) (c := bodyOf Try.f39) Try.func39 (by kernel_rfl) (by kernel_rfl) (by kernel_rfl) ?_
 refine Sq (Rg [0, 1] ?_)
 refine Bx 1 0 0 54 #[(.int .i64 x0.Clock.Slip), (.int .i64 x0.Clock.Drift), (.slice a0_2 x0.Clock.Jumps.length n0_2), (.slice a0_3 x0.Times.length n0_3)] hs0 (fun b1 w2 (hs3 : HS w0 F0 w2 F0 [(some b1, (.cells #[(.int .i64 x0.Clock.Slip), (.int .i64 x0.Clock.Drift), (.slice a0_2 x0.Clock.Jumps.length n0_2), (.slice a0_3 x0.Times.length n0_3)] 54 (0, 0)))]) => ?_)
 refine V 2 4 (mc (.bool false) (.bool false)) ?_
 refine Nss ?_
 refine Sq (Rg [0, 1, 2, 3, 4, 5, 6, 7, 8, 9] ?_)
 obtain ⟨j7, hj11, h12⟩ := bind_some h
 refine RWP.cut (fun f w => ∃ (F1 : Mem), HS w0 F0 w F1 [(some b1, (.cells #[(.int .i64 x0.Clock.Slip), (.int .i64 x0.Clock.Drift), (.slice a0_2 x0.Clock.Jumps.length n0_2), (.slice a0_3 x0.Times.length n0_3)] 54 (0, 0)))] ∧ Mem.le F0 F1 ∧ f.d = [] ∧ f 1 = (.pointer (some ⟨b1, 0, none⟩)) ∧ f 13 = (.bool j7)) ?_ ?_
 ·refine V 4 0 (fa 54 1 0 0 3 b1 0 0) ?_
  refine V 5 52 (ld 52 4 b1 0 true 3 (.agg #[(.int .i64 x0.Clock.Slip), (.int .i64 x0.Clock.Drift), (.slice a0_2 x0.Clock.Jumps.length n0_2)]) (hs3.ownAt (k := 0) rfl)) ?_
  obtain ⟨r13, hr14, h15⟩ := bind_some hj11
  refine Cl 6 4 37 #[(.tmp 5)] #[52] co_ref03_ValidClock hs3 (c_ref03_ValidClock N w2 F0 hs3.pers (x0.Clock) a0_2 n0_2 hb0_2 hs0_2 _ hr14) ?_
  intro v16 F2 w17 hs18 le19 hp20
  obtain rfl := hp20
  refine V 7 4 (run_not (t := 4) (x := (.tmp 6)) (a := r13) rfl) ?_
  refine V 8 4 (mv 7 (.bool (!r13))) ?_
  refine RWP.split (!r13) (fun hb21 => ?_) (fun hb21 => ?_)
  ·have h22 := cond_t h15 hb21
   refine Sk [9, 10, 11, 12] 4 false 8 hb21 ?_
   refine V 13 4 (p1 8 (.const (.bool true)) (.tmp 12) (.bool true) hb21) ?_
   obtain rfl := some_inj h22
   exact RWP.nil ⟨rfl, F2, hs18, le19, rfl, rfl, rfl⟩
  ·have h23 := cond_f h15 hb21
   refine Vg 9 0 4 false 8 hb21 (fa 54 1 1 3 1 b1 0 3) ?_
   refine Vg 10 50 4 false 8 hb21 (ld 50 9 b1 3 false 1 (.slice a0_3 x0.Times.length n0_3) (hs18.ownAt (k := 0) rfl)) ?_
   refine Vg 11 3 4 false 8 hb21 (ln 10 50 a0_3 x0.Times.length n0_3 3 1 8) ?_
   refine Vg 12 4 4 false 8 hb21 (run_gtr (t := 3) (t' := 3) (x := (.tmp 11)) (y := (.const (.int .i64 400))) (k := .i64) (a := (x0.Times.length : Int)) (b := 400) rfl rfl) ?_
   refine V 13 4 (p0 8 (.const (.bool true)) (.tmp 12) (.bool (decide ((x0.Times.length : Int) > 400))) hb21) ?_
   obtain rfl := some_inj h23
   exact RWP.nil ⟨rfl, F2, hs18, le19, rfl, rfl, rfl⟩
 ·rintro f w4 ⟨F1, hs5, le6, e8, e9, e10⟩
  refine thenQ_nrm ?_
  refine CWP.cond (t := j7) (by kernel_rfl) e10 (fun hb24 => ?_) (fun hb24 => ?_)
  ·have h25 := cond_t h12 hb24
   refine Sq (Rg [0] ?_)
   refine V 2 4 (mc (.bool false) (.bool false)) ?_
   refine Nt ?_
   refine CWP.ret (by kernel_rfl) ?_
   refine thenQ_ret ?_
   have hfin := some_inj h25
   subst hfin
   exact ⟨e8, (.bool false), res_of (l := [.tmp 2]) (by kernel_rfl) (vs := [(.bool false)]) ⟨rfl, trivial⟩, (.bool false), F1, rfl, hs5.clear, rfl⟩
  ·have h26 := cond_f h12 hb24
   refine Sc ?_
   refine thenQ_nrm ?_
   refine Sq ?_
   refine Sq (Rg [0] ?_)
   refine V 3 3 (mc (.int .i64 0) (.int .i64 0)) ?_
   refine Nt ?_
   obtain ⟨o27, ho28, h29⟩ := bind_some h26
   refine CWP.cut (fun f w => ∃ (s37 : Int) (F4 : Mem), o27 = .done s37 ∧ HS w0 F0 w F4 [] ∧ Mem.le F1 F4 ∧ f.d = []) ?_ ?_
   ·refine Bk ?_
    refine CWP.loop (by kernel_rfl) (fun m f w => ∃ (s30 : Int) (F3 : Mem), iter (ref03_ValidTrack_L0 N x0 j7) m s30 = some o27 ∧ HS w0 F0 w F3 [(some b1, (.cells #[(.int .i64 x0.Clock.Slip), (.int .i64 x0.Clock.Drift), (.slice a0_2 x0.Clock.Jumps.length n0_2), (.slice a0_3 x0.Times.length n0_3)] 54 (0, 0)))] ∧ Mem.le F1 F3 ∧ f.d = [] ∧ f 1 = (.pointer (some ⟨b1, 0, none⟩)) ∧ f 3 = (.int .i64 s30)) N ⟨0, F1, ho28, hs5, (Mem.le.refl _), e8, e9, rfl⟩ ?_
    rintro m42 f w31 ⟨s30, F3, hit43, hs32, le33, e34, e35, e36⟩
    obtain ⟨m44, fl45, rfl, hb46, hnx47⟩ := iter_step hit43
    refine Sq ?_
    refine Sq (Rg [0, 1, 2, 3, 4] ?_)
    refine V 14 3 (mv 3 (.int .i64 s30) e36) ?_
    refine V 15 0 (fa 54 1 1 3 1 b1 0 3 e35) ?_
    refine V 16 50 (ld 50 15 b1 3 false 1 (.slice a0_3 x0.Times.length n0_3) (hs32.ownAt (k := 0) rfl)) ?_
    refine V 17 3 (ln 16 50 a0_3 x0.Times.length n0_3 3 1 8) ?_
    refine V 18 4 (run_lss (t := 3) (t' := 3) (x := (.tmp 14)) (y := (.tmp 17)) (k := .i64) (a := s30) (b := (x0.Times.length : Int)) rfl rfl) ?_
    refine Nt ?_
    refine CWP.cond (t := (decide (s30 < (x0.Times.length : Int)))) (by kernel_rfl) rfl (fun hb48 => ?_) (fun hb48 => ?_)
    ·have h49 := cond_t hb46 hb48
     refine Sc ?_
     refine thenQ_nrm ?_
     refine Sq ?_
     refine Bk ?_
     refine Sq ?_
     obtain ⟨j55, hj60, h61⟩ := bind_some h49
     refine CWP.regionD (by kernel_rfl) (by kernel_rfl) (by kernel_rfl) (by kernel_rfl) (z := 25) (F := F3) (Lc := [(some b1, (.cells #[(.int .i64 x0.Clock.Slip), (.int .i64 x0.Clock.Drift), (.slice a0_2 x0.Clock.Jumps.length n0_2), (.slice a0_3 x0.Times.length n0_3)] 54 (0, 0)))]) (Lz := []) (l := [false, false, false, false, false, false, false, false, false, false, false, false, false, false, false, false, false, false, false, false, false, false, false, false, false]) (fuel := 25) (by kernel_rfl) (by kernel_rfl) hs32 (by simp) (by simp) (fun f w => ∃ (F5 : Mem), HS w0 F0 w F5 [(some b1, (.cells #[(.int .i64 x0.Clock.Slip), (.int .i64 x0.Clock.Drift), (.slice a0_2 x0.Clock.Jumps.length n0_2), (.slice a0_3 x0.Times.length n0_3)] 54 (0, 0)))] ∧ Mem.le F3 F5 ∧ f.d = [] ∧ f 1 = (.pointer (some ⟨b1, 0, none⟩)) ∧ f 3 = (.int .i64 s30) ∧ f 45 = (.bool j55)) (fun wd50 hw51 => ?_) ?_
     ·refine Dtl 0 21 0 (.pointer (some ⟨b1, 3, none⟩)) [tt, ff, ff, ff, ff, ff, ff, ff, ff, ff, ff, ff, ff, ff, ff, ff, ff, ff, ff, ff, ff, ff, ff, ff, ff] (fun _ hq => fa 54 1 1 3 1 b1 0 3 e35) ?_
      refine Dtl 1 22 50 _ [tt, tt, ff, ff, ff, ff, ff, ff, ff, ff, ff, ff, ff, ff, ff, ff, ff, ff, ff, ff, ff, ff, ff, ff, ff] (fun _ hq => ld 50 21 b1 3 false 1 (.slice a0_3 x0.Times.length n0_3) (hq.1.2 0 _ _ rfl)) ?_
      refine Dtl 2 23 3 _ [tt, tt, tt, ff, ff, ff, ff, ff, ff, ff, ff, ff, ff, ff, ff, ff, ff, ff, ff, ff, ff, ff, ff, ff, ff] (fun _ hq => mv 3 (.int .i64 s30) e36) ?_
      obtain ⟨x62, hx63, h65⟩ := bind_some hj60
      obtain ⟨hi64, hx63'⟩ := idx_spec hx63
      obtain ⟨b66, o67, C68, E69, fz70, rfl, hF72, hE73⟩ := SlA.open (SlA.mono hs0_3 (le6.trans le33)) hx63'
      have hc75 := hE73 _ _ hx63'
      refine Dtl 3 24 0 (.pointer (some ⟨b66, (o67 + (s30 : Int).toNat * 1), none⟩)) [tt, tt, tt, tt, ff, ff, ff, ff, ff, ff, ff, ff, ff, ff, ff, ff, ff, ff, ff, ff, ff, ff, ff, ff, ff] (fun _ hq => ix 50 22 23 b66 o67 3 1 8 hi64) ?_
      refine Dtl 4 25 3 _ [tt, tt, tt, tt, tt, ff, ff, ff, ff, ff, ff, ff, ff, ff, ff, ff, ff, ff, ff, ff, ff, ff, ff, ff, ff] (fun _ hq => lx 3 24 0 1 false 1 (.int .i64 x62) (hq.1.1 _ _ hF72) hc75) ?_
      refine DWP.one (i := 5) (by kernel_rfl) ?_
      obtain ⟨r76, hr77, h78⟩ := bind_some h65
      refine DStep.call (l' := [true, true, true, true, true, true, false, false, false, false, false, false, false, false, false, false, false, false, false, false, false, false, false, false, false]) (zd := true) (by kernel_rfl) (by kernel_rfl) (by kernel_rfl) (dst := (some 26)) (ty := 4) (g := none) (by kernel_rfl) rfl (f0 := (.func 83)) (aos := #[(.tmp 25), (.const (.int .i64 0)), (.const (.int .i64 20000))]) (ats := #[3, 3, 3]) (fid := 83) (first := #[]) (cap := #[]) (args := [(.int .i64 x62), (.int .i64 0), (.int .i64 20000)]) rfl co_ref03_within (rfl) hw51 (c_ref03_within N wd50 F3 hw51.pers (x62) (0) (20000) _ hr77) ?_
      intro v79 F6 w80 hs81 le82 hp83
      obtain rfl := hp83
      refine Dtl 6 27 4 (.bool (!r76)) [tt, tt, tt, tt, tt, tt, tt, ff, ff, ff, ff, ff, ff, ff, ff, ff, ff, ff, ff, ff, ff, ff, ff, ff, ff] (fun _ hq => run_not (t := 4) (x := (.tmp 26)) (a := r76) rfl) ?_
      refine Dtl 7 28 4 _ [tt, tt, tt, tt, tt, tt, tt, tt, ff, ff, ff, ff, ff, ff, ff, ff, ff, ff, ff, ff, ff, ff, ff, ff, ff] (fun _ hq => mv 27 (.bool (!r76))) ?_
      refine DWP.split (!r76) (fun hb84 => ?_) (fun hb84 => ?_)
      ·have h85 := cond_t h78 hb84
       refine Dkl [(8, 29), (9, 30), (10, 31)] 7 false 28 hb84 [tt, tt, tt, tt, tt, tt, tt, tt, tt, tt, tt, ff, ff, ff, ff, ff, ff, ff, ff, ff, ff, ff, ff, ff, ff] ?_
       refine Dul [(11, 32), (12, 33), (13, 34), (14, 35), (15, 36), (16, 37)] 10 true 31 [tt, tt, tt, tt, tt, tt, tt, tt, tt, tt, tt, tt, tt, tt, tt, tt, tt, ff, ff, ff, ff, ff, ff, ff, ff] ?_
       refine Dul [(17, 38), (18, 39), (19, 40), (20, 41), (21, 42), (22, 43)] 10 true 31 [tt, tt, tt, tt, tt, tt, tt, tt, tt, tt, tt, tt, tt, tt, tt, tt, tt, tt, tt, tt, tt, tt, tt, ff, ff] ?_
       refine Dkl [(23, 44)] 7 false 28 hb84 [tt, tt, tt, tt, tt, tt, tt, tt, tt, tt, tt, tt, tt, tt, tt, tt, tt, tt, tt, tt, tt, tt, tt, tt, ff] ?_
       refine Dtl 24 45 4 _ [tt, tt, tt, tt, tt, tt, tt, tt, tt, tt, tt, tt, tt, tt, tt, tt, tt, tt, tt, tt, tt, tt, tt, tt, tt] (fun _ hq => p1 28 (.const (.bool true)) (.tmp 44) (.bool true) hb84) ?_
       obtain rfl := some_inj h85
       exact DWP.done (by kernel_rfl) ⟨F6, hs81, le82, e34, e35, e36, rfl⟩
      ·have h86 := cond_f h78 hb84
       refine Dgl 8 29 3 _ [tt, tt, tt, tt, tt, tt, tt, tt, tt, ff, ff, ff, ff, ff, ff, ff, ff, ff, ff, ff, ff, ff, ff, ff, ff] 7 false 28 hb84 (fun _ hq => mv 3 (.int .i64 s30) e36) ?_
       refine Dgl 9 30 4 (.bool (decide (s30 > 0))) [tt, tt, tt, tt, tt, tt, tt, tt, tt, tt, ff, ff, ff, ff, ff, ff, ff, ff, ff, ff, ff, ff, ff, ff, ff] 7 false 28 hb84 (fun _ hq => run_gtr (t := 3) (t' := 3) (x := (.tmp 29)) (y := (.const (.int .i64 0))) (k := .i64) (a := s30) (b := 0) rfl rfl) ?_
       refine Dgl 10 31 4 _ [tt, tt, tt, tt, tt, tt, tt, tt, tt, tt, tt, ff, ff, ff, ff, ff, ff, ff, ff, ff, ff, ff, ff, ff, ff] 7 false 28 hb84 (fun _ hq => mv 30 (.bool (decide (s30 > 0)))) ?_
       refine DWP.split (decide (s30 > 0)) (fun hb87 => ?_) (fun hb87 => ?_)
       ·have h88 := cond_t h86 hb87
        refine Dgl 11 32 0 (.pointer (some ⟨b1, 3, none⟩)) [tt, tt, tt, tt, tt, tt, tt, tt, tt, tt, tt, tt, ff, ff, ff, ff, ff, ff, ff, ff, ff, ff, ff, ff, ff] 10 true 31 hb87 (fun _ hq => fa 54 1 1 3 1 b1 0 3 e35) ?_
        refine Dgl 12 33 50 _ [tt, tt, tt, tt, tt, tt, tt, tt, tt, tt, tt, tt, tt, ff, ff, ff, ff, ff, ff, ff, ff, ff, ff, ff, ff] 10 true 31 hb87 (fun _ hq => ld 50 32 b1 3 false 1 (.slice (some ⟨b66, o67, none⟩) x0.Times.length n0_3) (hq.1.2 0 _ _ rfl)) ?_
        refine Dgl 13 34 3 _ [tt, tt, tt, tt, tt, tt, tt, tt, tt, tt, tt, tt, tt, tt, ff, ff, ff, ff, ff, ff, ff, ff, ff, ff, ff] 10 true 31 hb87 (fun _ hq => mv 3 (.int .i64 s30) e36) ?_
        obtain ⟨x89, hx90, h92⟩ := bind_some h88
        obtain ⟨hi91, hx90'⟩ := idx_spec hx90
        have hc94 := hE73 _ _ hx90'
        refine Dgl 14 35 0 (.pointer (some ⟨b66, (o67 + (s30 : Int).toNat * 1), none⟩)) [tt, tt, tt, tt, tt, tt, tt, tt, tt, tt, tt, tt, tt, tt, tt, ff, ff, ff, ff, ff, ff, ff, ff, ff, ff] 10 true 31 hb87 (fun _ hq => ix 50 33 34 b66 o67 3 1 8 hi91) ?_
        refine Dgl 15 36 3 _ [tt, tt, tt, tt, tt, tt, tt, tt, tt, tt, tt, tt, tt, tt, tt, tt, ff, ff, ff, ff, ff, ff, ff, ff, ff] 10 true 31 hb87 (fun _ hq => lx 3 35 0 1 false 1 (.int .i64 x89) (hq.1.1 _ _ hF72) hc94) ?_
        refine Dgl 16 37 0 (.pointer (some ⟨b1, 3, none⟩)) [tt, tt, tt, tt, tt, tt, tt, tt, tt, tt, tt, tt, tt, tt, tt, tt, tt, ff, ff, ff, ff, ff, ff, ff, ff] 10 true 31 hb87 (fun _ hq => fa 54 1 1 3 1 b1 0 3 e35) ?_
        refine Dgl 17 38 50 _ [tt, tt, tt, tt, tt, tt, tt, tt, tt, tt, tt, tt, tt, tt, tt, tt, tt, tt, ff, ff, ff, ff, ff, ff, ff] 10 true 31 hb87 (fun _ hq => ld 50 37 b1 3 false 1 (.slice (some ⟨b66, o67, none⟩) x0.Times.length n0_3) (hq.1.2 0 _ _ rfl)) ?_
        refine Dgl 18 39 3 _ [tt, tt, tt, tt, tt, tt, tt, tt, tt, tt, tt, tt, tt, tt, tt, tt, tt, tt, tt, ff, ff, ff, ff, ff, ff] 10 true 31 hb87 (fun _ hq => mv 3 (.int .i64 s30) e36) ?_
        refine Dgl 19 40 3 (.int .i64 (W64 (s30 - 1))) [tt, tt, tt, tt, tt, tt, tt, tt, tt, tt, tt, tt, tt, tt, tt, tt, tt, tt, tt, tt, ff, ff, ff, ff, ff] 10 true 31 hb87 (fun _ hq => run_sub (t := 3) (t' := 3) (x := (.tmp 39)) (y := (.const (.int .i64 1))) (k := .i64) (a := s30) (b := 1) rfl rfl) ?_
        obtain ⟨x95, hx96, h98⟩ := bind_some h92
        obtain ⟨hi97, hx96'⟩ := idx_spec hx96
        have hc100 := hE73 _ _ hx96'
        refine Dgl 20 41 0 (.pointer (some ⟨b66, (o67 + ((W64 (s30 - 1)) : Int).toNat * 1), none⟩)) [tt, tt, tt, tt, tt, tt, tt, tt, tt, tt, tt, tt, tt, tt, tt, tt, tt, tt, tt, tt, tt, ff, ff, ff, ff] 10 true 31 hb87 (fun _ hq => ix 50 38 40 b66 o67 3 1 8 hi97) ?_
        refine Dgl 21 42 3 _ [tt, tt, tt, tt, tt, tt, tt, tt, tt, tt, tt, tt, tt, tt, tt, tt, tt, tt, tt, tt, tt, tt, ff, ff, ff] 10 true 31 hb87 (fun _ hq => lx 3 41 0 1 false 1 (.int .i64 x95) (hq.1.1 _ _ hF72) hc100) ?_
        refine Dgl 22 43 4 (.bool (decide (x89 < x95))) [tt, tt, tt, tt, tt, tt, tt, tt, tt, tt, tt, tt, tt, tt, tt, tt, tt, tt, tt, tt, tt, tt, tt, ff, ff] 10 true 31 hb87 (fun _ hq => run_lss (t := 3) (t' := 3) (x := (.tmp 36)) (y := (.tmp 42)) (k := .i64) (a := x89) (b := x95) rfl rfl) ?_
        refine Dgl 23 44 4 _ [tt, tt, tt, tt, tt, tt, tt, tt, tt, tt, tt, tt, tt, tt, tt, tt, tt, tt, tt, tt, tt, tt, tt, tt, ff] 7 false 28 hb84 (fun _ hq => p1 31 (.tmp 43) (.const (.bool false)) (.bool (decide (x89 < x95))) hb87) ?_
        refine Dtl 24 45 4 _ [tt, tt, tt, tt, tt, tt, tt, tt, tt, tt, tt, tt, tt, tt, tt, tt, tt, tt, tt, tt, tt, tt, tt, tt, tt] (fun _ hq => p0 28 (.const (.bool true)) (.tmp 44) (.bool (decide (x89 < x95))) hb84) ?_
        obtain rfl := some_inj h98
        exact DWP.done (by kernel_rfl) ⟨F6, hs81, le82, e34, e35, e36, rfl⟩
       ·have h101 := cond_f h86 hb87
        refine Dkl [(11, 32), (12, 33), (13, 34), (14, 35), (15, 36), (16, 37)] 10 true 31 hb87 [tt, tt, tt, tt, tt, tt, tt, tt, tt, tt, tt, tt, tt, tt, tt, tt, tt, ff, ff, ff, ff, ff, ff, ff, ff] ?_
        refine Dkl [(17, 38), (18, 39), (19, 40), (20, 41), (21, 42), (22, 43)] 10 true 31 hb87 [tt, tt, tt, tt, tt, tt, tt, tt, tt, tt, tt, tt, tt, tt, tt, tt, tt, tt, tt, tt, tt, tt, tt, ff, ff] ?_
        refine Dgl 23 44 4 _ [tt, tt, tt, tt, tt, tt, tt, tt, tt, tt, tt, tt, tt, tt, tt, tt, tt, tt, tt, tt, tt, tt, tt, tt, ff] 7 false 28 hb84 (fun _ hq => p0 31 (.tmp 43) (.const (.bool false)) (.bool false) hb87) ?_
        refine Dtl 24 45 4 _ [tt, tt, tt, tt, tt, tt, tt, tt, tt, tt, tt, tt, tt, tt, tt, tt, tt, tt, tt, tt, tt, tt, tt, tt, tt] (fun _ hq => p0 28 (.const (.bool true)) (.tmp 44) (.bool false) hb84) ?_
        obtain rfl := some_inj h101
        exact DWP.done (by kernel_rfl) ⟨F6, hs81, le82, e34, e35, e36, rfl⟩
     ·rintro f w52 ⟨F5, hs53, le54, e56, e57, e58, e59⟩
      refine thenQ_nrm ?_
      refine CWP.cond (t := j55) (by kernel_rfl) e59 (fun hb102 => ?_) (fun hb102 => ?_)
      ·have h103 := cond_t h61 hb102
       refine Sq (Rg [0] ?_)
       refine V 2 4 (mc (.bool false) (.bool false)) ?_
       refine Nt ?_
       refine CWP.ret (by kernel_rfl) ?_
       refine blockQ_ret ?_
       refine thenQ_ret ?_
       refine thenQ_ret ?_
       refine blockQ_ret ?_
       have hret := iter_ret h103 hnx47
       subst hret
       refine .inr ?_
       refine thenQ_ret ?_
       have hfin := some_inj h29
       subst hfin
       exact ⟨e56, (.bool false), res_of (l := [.tmp 2]) (by kernel_rfl) (vs := [(.bool false)]) ⟨rfl, trivial⟩, (.bool false), F5, rfl, hs53.clear, rfl⟩
      ·have h104 := cond_f h61 hb102
       refine Sc ?_
       refine blockQ_nrm ?_
       refine thenQ_nrm ?_
       refine Rg [0, 1, 2] ?_
       refine V 19 3 (mv 3 (.int .i64 s30) e58) ?_
       refine V 20 3 (run_add (t := 3) (t' := 3) (x := (.tmp 19)) (y := (.const (.int .i64 1))) (k := .i64) (a := s30) (b := 1) rfl rfl) ?_
       refine V 3 3 (ma 20 (.int .i64 (W64 (s30 + 1)))) ?_
       refine RWP.nil ?_
       have hn105 := iter_next h104 hnx47
       exact ⟨m44, Nat.lt_succ_self _, (W64 (s30 + 1)), F5, hn105, hs53, (le33.trans le54), e56, e57, rfl⟩
    ·have h106 := cond_f hb46 hb48
     refine CWP.exit (by kernel_rfl) ?_
     refine thenQ_ex ?_
     refine thenQ_ex ?_
     refine blockQ_hit rfl ?_
     have hs107 : HS w0 F0 w31 F3 [] := hs32.drop 0
     have ho108 := iter_done h106 hnx47
     exact .inl ⟨rfl, s30, F3, ho108, hs107, le33, e34⟩
   ·rintro f w38 ⟨s37, F4, rfl, hs39, le40, e41⟩
    have h109 := k_done h29
    refine thenQ_nrm ?_
    refine Sq (Rg [0] ?_)
    refine V 2 4 (mc (.bool true) (.bool true)) ?_
    refine Nt ?_
    refine CWP.ret (by kernel_rfl) ?_
    have hfin := some_inj h109
    subst hfin
    exact ⟨e41, (.bool true), res_of (l := [.tmp 2]) (by kernel_rfl) (vs := [(.bool true)]) ⟨rfl, trivial⟩, (.bool true), F4, rfl, hs39.clear, rfl⟩
end Go.Proofs.Ythbcnabeabcmlaa
namespace Go.Proofs.Ythbcnabeabcmlaa
open Go.Proofs
def ref03_Has (N : Nat) (x0 : System) (x1 : Ref) : Option Bool :=
 (((ref03_within N x1.Log 0 (W64 ((x0.Tracks.length : Int) - 1))).bind fun r17 => (bif r17 then ((idx x0.Tracks x1.Log).bind fun x27 => ((ref03_within N x1.Line 0 (W64 ((x27.Times.length : Int) - 1))).bind fun r41 => some r41)) else some false)).bind fun j12 => some j12)
theorem co_ref03_Has : CallOk Try.prog 85 := fun _ _ => by kernel_rfl
set_option maxHeartbeats 4000000 in
set_option maxRecDepth 100000 in
theorem c_ref03_Has (N : Nat) (w0 : World) (F0 : Mem) (hF : ∀ b o, F0 b = some o → w0.heap[b]? = some o) (x0 : System) (a0_0 : Option Addr) (n0_0 : Nat) (hb0_0 : LC x0.Tracks.length n0_0) (hs0_0 : SlA tTrack F0 a0_0 x0.Tracks) (a0_1 : Option Addr) (n0_1 : Nat) (hb0_1 : LC x0.Ties.length n0_1) (hs0_1 : SlA tTie F0 a0_1 x0.Ties) (x1 : Ref) (r : Bool) (h : ref03_Has N x0 x1 = some r) :
  Calls Try.prog 85 ([(.agg #[(.slice a0_0 x0.Tracks.length n0_0), (.slice a0_1 x0.Ties.length n0_1), (.int .i64 x0.Window)]), (.agg #[(.int .i64 x1.Log), (.int .i64 x1.Line)])] : List Value).toArray w0 (FRet w0 F0 fun F' v => v = (.bool r)) := by
 have hs0 := HS.start hF
 refine calls_of (n := 26) (c := bodyOf Try.f85) Try.func85 (by kernel_rfl) (by kernel_rfl) (by kernel_rfl) ?_
 refine Sq (Rg [0, 1, 2] ?_)
 refine Bx 2 0 0 25 #[(.slice a0_0 x0.Tracks.length n0_0), (.slice a0_1 x0.Ties.length n0_1), (.int .i64 x0.Window)] hs0 (fun b1 w2 (hs3 : HS w0 F0 w2 F0 [(some b1, (.cells #[(.slice a0_0 x0.Tracks.length n0_0), (.slice a0_1 x0.Ties.length n0_1), (.int .i64 x0.Window)] 25 (0, 0)))]) => ?_)
 refine Bx 3 0 1 27 #[(.int .i64 x1.Log), (.int .i64 x1.Line)] hs3 (fun b4 w5 (hs6 : HS w0 F0 w5 F0 [(some b4, (.cells #[(.int .i64 x1.Log), (.int .i64 x1.Line)] 27 (0, 0))), (some b1, (.cells #[(.slice a0_0 x0.Tracks.length n0_0), (.slice a0_1 x0.Ties.length n0_1), (.int .i64 x0.Window)] 25 (0, 0)))]) => ?_)
 refine V 4 4 (mc (.bool false) (.bool false)) ?_
 refine Nss ?_
 obtain ⟨j12, hj15, h16⟩ := bind_some h
 refine CWP.regionD (by kernel_rfl) (by kernel_rfl) (by kernel_rfl) (by kernel_rfl) (z := 22) (F := F0) (Lc := [(some b4, (.cells #[(.int .i64 x1.Log), (.int .i64 x1.Line)] 27 (0, 0))), (some b1, (.cells #[(.slice a0_0 x0.Tracks.length n0_0), (.slice a0_1 x0.Ties.length n0_1), (.int .i64 x0.Window)] 25 (0, 0)))]) (Lz := []) (l := [false, false, false, false, false, false, false, false, false, false, false, false, false, false, false, false, false, false, false, false, false, false]) (fuel := 22) (by kernel_rfl) (by kernel_rfl) hs6 (by simp) (by simp) (fun f w => ∃ (F1 : Mem), HS w0 F0 w F1 [] ∧ Mem.le F0 F1 ∧ f.d = [] ∧ f 4 = (.bool j12)) (fun wd7 hw8 => ?_) ?_
 ·refine Dtl 0 5 0 (.pointer (some ⟨b4, 0, none⟩)) [tt, ff, ff, ff, ff, ff, ff, ff, ff, ff, ff, ff, ff, ff, ff, ff, ff, ff, ff, ff, ff, ff] (fun _ hq => fa 27 3 0 0 1 b4 0 0) ?_
  refine Dtl 1 6 3 _ [tt, tt, ff, ff, ff, ff, ff, ff, ff, ff, ff, ff, ff, ff, ff, ff, ff, ff, ff, ff, ff, ff] (fun _ hq => ld 3 5 b4 0 false 1 (.int .i64 x1.Log) (hq.1.2 0 _ _ rfl)) ?_
  refine Dtl 2 7 0 (.pointer (some ⟨b1, 0, none⟩)) [tt, tt, tt, ff, ff, ff, ff, ff, ff, ff, ff, ff, ff, ff, ff, ff, ff, ff, ff, ff, ff, ff] (fun _ hq => fa 25 2 0 0 1 b1 0 0) ?_
  refine Dtl 3 8 22 _ [tt, tt, tt, tt, ff, ff, ff, ff, ff, ff, ff, ff, ff, ff, ff, ff, ff, ff, ff, ff, ff, ff] (fun _ hq => ld 22 7 b1 0 false 1 (.slice a0_0 x0.Tracks.length n0_0) (hq.1.2 1 _ _ rfl)) ?_
  refine Dtl 4 9 3 (.int .i64 (x0.Tracks.length : Int)) [tt, tt, tt, tt, tt, ff, ff, ff, ff, ff, ff, ff, ff, ff, ff, ff, ff, ff, ff, ff, ff, ff] (fun _ hq => ln 8 22 a0_0 x0.Tracks.length n0_0 54 4 64) ?_
  refine Dtl 5 10 3 (.int .i64 (W64 ((x0.Tracks.length : Int) - 1))) [tt, tt, tt, tt, tt, tt, ff, ff, ff, ff, ff, ff, ff, ff, ff, ff, ff, ff, ff, ff, ff, ff] (fun _ hq => run_sub (t := 3) (t' := 3) (x := (.tmp 9)) (y := (.const (.int .i64 1))) (k := .i64) (a := (x0.Tracks.length : Int)) (b := 1) rfl rfl) ?_
  refine DWP.one (i := 6) (by kernel_rfl) ?_
  obtain ⟨r17, hr18, h19⟩ := bind_some hj15
  refine DStep.call (l' := [true, true, true, true, true, true, true, false, false, false, false, false, false, false, false, false, false, false, false, false, false, false]) (zd := true) (by kernel_rfl) (by kernel_rfl) (by kernel_rfl) (dst := (some 11)) (ty := 4) (g := none) (by kernel_rfl) rfl (f0 := (.func 83)) (aos := #[(.tmp 6), (.const (.int .i64 0)), (.tmp 10)]) (ats := #[3, 3, 3]) (fid := 83) (first := #[]) (cap := #[]) (args := [(.int .i64 x1.Log), (.int .i64 0), (.int .i64 (W64 ((x0.Tracks.length : Int) - 1)))]) rfl co_ref03_within (rfl) hw8 (c_ref03_within N wd7 F0 hw8.pers (x1.Log) (0) ((W64 ((x0.Tracks.length : Int) - 1))) _ hr18) ?_
  intro v20 F2 w21 hs22 le23 hp24
  obtain rfl := hp24
  refine Dtl 7 12 4 _ [tt, tt, tt, tt, tt, tt, tt, tt, ff, ff, ff, ff, ff, ff, ff, ff, ff, ff, ff, ff, ff, ff] (fun _ hq => mv 11 (.bool r17)) ?_
  refine DWP.split r17 (fun hb25 => ?_) (fun hb25 => ?_)
  ·have h26 := cond_t h19 hb25
   refine Dgl 8 13 0 (.pointer (some ⟨b4, 1, none⟩)) [tt, tt, tt, tt, tt, tt, tt, tt, tt, ff, ff, ff, ff, ff, ff, ff, ff, ff, ff, ff, ff, ff] 7 true 12 hb25 (fun _ hq => fa 27 3 1 1 1 b4 0 1) ?_
   refine Dgl 9 14 3 _ [tt, tt, tt, tt, tt, tt, tt, tt, tt, tt, ff, ff, ff, ff, ff, ff, ff, ff, ff, ff, ff, ff] 7 true 12 hb25 (fun _ hq => ld 3 13 b4 1 false 1 (.int .i64 x1.Line) (hq.1.2 0 _ _ rfl)) ?_
   refine Dgl 10 15 0 (.pointer (some ⟨b1, 0, none⟩)) [tt, tt, tt, tt, tt, tt, tt, tt, tt, tt, tt, ff, ff, ff, ff, ff, ff, ff, ff, ff, ff, ff] 7 true 12 hb25 (fun _ hq => fa 25 2 0 0 1 b1 0 0) ?_
   refine Dgl 11 16 22 _ [tt, tt, tt, tt, tt, tt, tt, tt, tt, tt, tt, tt, ff, ff, ff, ff, ff, ff, ff, ff, ff, ff] 7 true 12 hb25 (fun _ hq => ld 22 15 b1 0 false 1 (.slice a0_0 x0.Tracks.length n0_0) (hq.1.2 1 _ _ rfl)) ?_
   refine Dgl 12 17 0 (.pointer (some ⟨b4, 0, none⟩)) [tt, tt, tt, tt, tt, tt, tt, tt, tt, tt, tt, tt, tt, ff, ff, ff, ff, ff, ff, ff, ff, ff] 7 true 12 hb25 (fun _ hq => fa 27 3 0 0 1 b4 0 0) ?_
   refine Dgl 13 18 3 _ [tt, tt, tt, tt, tt, tt, tt, tt, tt, tt, tt, tt, tt, tt, ff, ff, ff, ff, ff, ff, ff, ff] 7 true 12 hb25 (fun _ hq => ld 3 17 b4 0 false 1 (.int .i64 x1.Log) (hq.1.2 0 _ _ rfl)) ?_
   obtain ⟨x27, hx28, h30⟩ := bind_some h26
   obtain ⟨hi29, hx28'⟩ := idx_spec hx28
   obtain ⟨b31, o32, C33, E34, fz35, rfl, hF37, hE38⟩ := SlA.open hs0_0 hx28'
   obtain ⟨ae39_2, ne39_2, ae39_3, ne39_3, hc40, hbe39_2, hse39_2, hbe39_3, hse39_3⟩ := hE38 _ _ hx28'
   refine Dgl 14 19 0 (.pointer (some ⟨b31, (o32 + (x1.Log : Int).toNat * 4), none⟩)) [tt, tt, tt, tt, tt, tt, tt, tt, tt, tt, tt, tt, tt, tt, tt, ff, ff, ff, ff, ff, ff, ff] 7 true 12 hb25 (fun _ hq => ix 22 16 18 b31 o32 54 4 64 hi29) ?_
   refine Dgl 15 20 0 (.pointer (some ⟨b31, ((o32 + (x1.Log : Int).toNat * 4) + 3), none⟩)) [tt, tt, tt, tt, tt, tt, tt, tt, tt, tt, tt, tt, tt, tt, tt, tt, ff, ff, ff, ff, ff, ff] 7 true 12 hb25 (fun _ hq => fa 54 19 1 3 1 b31 (o32 + (x1.Log : Int).toNat * 4) ((o32 + (x1.Log : Int).toNat * 4) + 3)) ?_
   refine Dgl 16 21 50 _ [tt, tt, tt, tt, tt, tt, tt, tt, tt, tt, tt, tt, tt, tt, tt, tt, tt, ff, ff, ff, ff, ff] 7 true 12 hb25 (fun _ hq => lx 50 20 3 4 false 1 (.slice ae39_3 x27.Times.length ne39_3) (hq.1.1 _ _ hF37) hc40) ?_
   refine Dgl 17 22 3 (.int .i64 (x27.Times.length : Int)) [tt, tt, tt, tt, tt, tt, tt, tt, tt, tt, tt, tt, tt, tt, tt, tt, tt, tt, ff, ff, ff, ff] 7 true 12 hb25 (fun _ hq => ln 21 50 ae39_3 x27.Times.length ne39_3 3 1 8) ?_
   refine Dgl 18 23 3 (.int .i64 (W64 ((x27.Times.length : Int) - 1))) [tt, tt, tt, tt, tt, tt, tt, tt, tt, tt, tt, tt, tt, tt, tt, tt, tt, tt, tt, ff, ff, ff] 7 true 12 hb25 (fun _ hq => run_sub (t := 3) (t' := 3) (x := (.tmp 22)) (y := (.const (.int .i64 1))) (k := .i64) (a := (x27.Times.length : Int)) (b := 1) rfl rfl) ?_
   refine DWP.one (i := 19) (by kernel_rfl) ?_
   obtain ⟨r41, hr42, h43⟩ := bind_some h30
   refine DStep.call (l' := [true, true, true, true, true, true, true, true, true, true, true, true, true, true, true, true, true, true, true, true, false, false]) (zd := true) (by kernel_rfl) (by kernel_rfl) (by kernel_rfl) (dst := (some 24)) (ty := 4) (g := (some (7, true))) (by kernel_rfl) (gd_y (d := 12) (by kernel_rfl) rfl hb25) (f0 := (.func 83)) (aos := #[(.tmp 14), (.const (.int .i64 0)), (.tmp 23)]) (ats := #[3, 3, 3]) (fid := 83) (first := #[]) (cap := #[]) (args := [(.int .i64 x1.Line), (.int .i64 0), (.int .i64 (W64 ((x27.Times.length : Int) - 1)))]) rfl co_ref03_within (rfl) hs22 (c_ref03_within N w21 F2 hs22.pers (x1.Line) (0) ((W64 ((x27.Times.length : Int) - 1))) _ hr42) ?_
   intro v44 F3 w45 hs46 le47 hp48
   obtain rfl := hp48
   refine Dtl 20 25 4 _ [tt, tt, tt, tt, tt, tt, tt, tt, tt, tt, tt, tt, tt, tt, tt, tt, tt, tt, tt, tt, tt, ff] (fun _ hq => p1 12 (.tmp 24) (.const (.bool false)) (.bool r41) hb25) ?_
   refine Dtl 21 4 4 _ [tt, tt, tt, tt, tt, tt, tt, tt, tt, tt, tt, tt, tt, tt, tt, tt, tt, tt, tt, tt, tt, tt] (fun _ hq => ma 25 (.bool r41)) ?_
   obtain rfl := some_inj h43
   have hs49 : HS w0 F0 w45 F3 [(some b1, (.cells #[(.slice (some ⟨b31, o32, none⟩) x0.Tracks.length n0_0), (.slice a0_1 x0.Ties.length n0_1), (.int .i64 x0.Window)] 25 (0, 0)))] := hs46.drop 0
   have hs50 : HS w0 F0 w45 F3 [] := hs49.drop 0
   exact DWP.done (by kernel_rfl) ⟨F3, hs50, (le23.trans le47), rfl, rfl⟩
  ·have h51 := cond_f h19 hb25
   refine Dkl [(8, 13), (9, 14), (10, 15), (11, 16), (12, 17), (13, 18)] 7 true 12 hb25 [tt, tt, tt, tt, tt, tt, tt, tt, tt, tt, tt, tt, tt, tt, ff, ff, ff, ff, ff, ff, ff, ff] ?_
   refine Dkl [(14, 19), (15, 20), (16, 21), (17, 22), (18, 23), (19, 24)] 7 true 12 hb25 [tt, tt, tt, tt, tt, tt, tt, tt, tt, tt, tt, tt, tt, tt, tt, tt, tt, tt, tt, tt, ff, ff] ?_
   refine Dtl 20 25 4 _ [tt, tt, tt, tt, tt, tt, tt, tt, tt, tt, tt, tt, tt, tt, tt, tt, tt, tt, tt, tt, tt, ff] (fun _ hq => p0 12 (.tmp 24) (.const (.bool false)) (.bool false) hb25) ?_
   refine Dtl 21 4 4 _ [tt, tt, tt, tt, tt, tt, tt, tt, tt, tt, tt, tt, tt, tt, tt, tt, tt, tt, tt, tt, tt, tt] (fun _ hq => ma 25 (.bool false)) ?_
   obtain rfl := some_inj h51
   have hs52 : HS w0 F0 w21 F2 [(some b1, (.cells #[(.slice a0_0 x0.Tracks.length n0_0), (.slice a0_1 x0.Ties.length n0_1), (.int .i64 x0.Window)] 25 (0, 0)))] := hs22.drop 0
   have hs53 : HS w0 F0 w21 F2 [] := hs52.drop 0
   exact DWP.done (by kernel_rfl) ⟨F2, hs53, le23, rfl, rfl⟩
 ·rintro f w9 ⟨F1, hs10, le11, e13, e14⟩
  refine thenQ_nrm ?_
  refine CWP.ret (by kernel_rfl) ?_
  have hfin := some_inj h16
  subst hfin
  exact ⟨e13, (.bool j12), res_of (l := [.tmp 4]) (by kernel_rfl) (vs := [(.bool j12)]) ⟨e14, trivial⟩, (.bool j12), F1, rfl, hs10.clear, rfl⟩
end Go.Proofs.Ythbcnabeabcmlaa
namespace Go.Proofs.Ythbcnabeabcmlaa
open Go.Proofs
def ref03_Check_L0 (N : Nat) (x0 : System) : Int → Option (Flow Int Int) := fun s17 =>
 (bif (decide (s17 < (x0.Tracks.length : Int))) then ((idx x0.Tracks s17).bind fun x38 => ((ref03_ValidTrack N x38).bind fun r52 => (bif (!r52) then some (.ret 30) else some (.next (W64 (s17 + 1)))))) else some (.done s17))
def ref03_Check_L1 (N : Nat) (x0 : System) (s24 : Int) : Int → Option (Flow Int Int) := fun s70 =>
 (bif (decide (s70 < (x0.Ties.length : Int))) then ((idx x0.Ties s70).bind fun x91 => (((ref03_Has N x0 x91.A).bind fun r120 => (bif (!r120) then some true else ((ref03_Has N x0 x91.B).bind fun r132 => (bif (!r132) then some true else some (x91.A.Log == x91.B.Log))))).bind fun j113 => (bif j113 then some (.ret 30) else some (.next (W64 (s70 + 1)))))) else some (.done s70))
def ref03_Check (N : Nat) (x0 : System) : Option Int :=
 (bif ((decide ((x0.Tracks.length : Int) > 64)) || (decide ((x0.Ties.length : Int) > 400))) then some 2 else ((iter (ref03_Check_L0 N x0) N 0).bind fun o => o.k (fun r => some r) (fun s24 => ((iter (ref03_Check_L1 N x0 s24) N 0).bind fun o => o.k (fun r => some r) (fun s77 => ((ref03_within N x0.Window 0 120).bind fun r152 => (bif (!r152) then some 30 else some 0)))))))
theorem co_ref03_Check : CallOk Try.prog 40 := fun _ _ => by kernel_rfl
set_option maxHeartbeats 4000000 in
set_option maxRecDepth 100000 in
theorem c_ref03_Check (N : Nat) (w0 : World) (F0 : Mem) (hF : ∀ b o, F0 b = some o → w0.heap[b]? = some o) (x0 : System) (a0_0 : Option Addr) (n0_0 : Nat) (hb0_0 : LC x0.Tracks.length n0_0) (hs0_0 : SlA tTrack F0 a0_0 x0.Tracks) (a0_1 : Option Addr) (n0_1 : Nat) (hb0_1 : LC x0.Ties.length n0_1) (hs0_1 : SlA tTie F0 a0_1 x0.Ties) (r : Int) (h : ref03_Check N x0 = some r) :
  Calls Try.prog 40 ([(.agg #[(.slice a0_0 x0.Tracks.length n0_0), (.slice a0_1 x0.Ties.length n0_1), (.int .i64 x0.Window)])] : List Value).toArray w0 (FRet w0 F0 fun F' v => v = (.int .i64 r)) := by
 have hs0 := HS.start hF
 refine calls_of (n := 67) (c := bodyOf Try.f40) Try.func40 (by kernel_rfl) (by kernel_rfl) (by kernel_rfl) ?_
 refine Sq (Rg [0, 1] ?_)
 refine Bx 1 0 0 25 #[(.slice a0_0 x0.Tracks.length n0_0), (.slice a0_1 x0.Ties.length n0_1), (.int .i64 x0.Window)] hs0 (fun b1 w2 (hs3 : HS w0 F0 w2 F0 [(some b1, (.cells #[(.slice a0_0 x0.Tracks.length n0_0), (.slice a0_1 x0.Ties.length n0_1), (.int .i64 x0.Window)] 25 (0, 0)))]) => ?_)
 refine V 2 30 (mc (.int .i64 0) (.int .i64 0)) ?_
 refine Nss ?_
 refine Sq (Rg [0, 1, 2, 3, 4, 5, 6, 7, 8, 9] ?_)
 refine RWP.cut (fun f w => ∃ (F1 : Mem), HS w0 F0 w F1 [(some b1, (.cells #[(.slice a0_0 x0.Tracks.length n0_0), (.slice a0_1 x0.Ties.length n0_1), (.int .i64 x0.Window)] 25 (0, 0)))] ∧ Mem.le F0 F1 ∧ f.d = [] ∧ f 1 = (.pointer (some ⟨b1, 0, none⟩)) ∧ f 15 = (.bool ((decide ((x0.Tracks.length : Int) > 64)) || (decide ((x0.Ties.length : Int) > 400))))) ?_ ?_
 ·refine V 6 0 (fa 25 1 0 0 1 b1 0 0) ?_
  refine V 7 22 (ld 22 6 b1 0 false 1 (.slice a0_0 x0.Tracks.length n0_0) (hs3.ownAt (k := 0) rfl)) ?_
  refine V 8 3 (ln 7 22 a0_0 x0.Tracks.length n0_0 54 4 64) ?_
  refine V 9 4 (run_gtr (t := 3) (t' := 3) (x := (.tmp 8)) (y := (.const (.int .i64 64))) (k := .i64) (a := (x0.Tracks.length : Int)) (b := 64) rfl rfl) ?_
  refine V 10 4 (mv 9 (.bool (decide ((x0.Tracks.length : Int) > 64)))) ?_
  refine RWP.split (decide ((x0.Tracks.length : Int) > 64)) (fun hb10 => ?_) (fun hb10 => ?_)
  ·refine Sk [11, 12, 13, 14] 4 false 10 hb10 ?_
   refine V 15 4 (p1 10 (.const (.bool true)) (.tmp 14) (.bool true) hb10) ?_
   exact RWP.nil ⟨rfl, F0, hs3, (Mem.le.refl _), rfl, rfl, (congrArg Value.bool (or_t hb10 (rfl)))⟩
  ·refine Vg 11 0 4 false 10 hb10 (fa 25 1 1 1 1 b1 0 1) ?_
   refine Vg 12 23 4 false 10 hb10 (ld 23 11 b1 1 false 1 (.slice a0_1 x0.Ties.length n0_1) (hs3.ownAt (k := 0) rfl)) ?_
   refine Vg 13 3 4 false 10 hb10 (ln 12 23 a0_1 x0.Ties.length n0_1 46 4 32) ?_
   refine Vg 14 4 4 false 10 hb10 (run_gtr (t := 3) (t' := 3) (x := (.tmp 13)) (y := (.const (.int .i64 400))) (k := .i64) (a := (x0.Ties.length : Int)) (b := 400) rfl rfl) ?_
   refine V 15 4 (p0 10 (.const (.bool true)) (.tmp 14) (.bool (decide ((x0.Ties.length : Int) > 400))) hb10) ?_
   exact RWP.nil ⟨rfl, F0, hs3, (Mem.le.refl _), rfl, rfl, (congrArg Value.bool (or_f hb10 (rfl)))⟩
 ·rintro f w4 ⟨F1, hs5, le6, e7, e8, e9⟩
  refine thenQ_nrm ?_
  refine CWP.cond (t := ((decide ((x0.Tracks.length : Int) > 64)) || (decide ((x0.Ties.length : Int) > 400)))) (by kernel_rfl) e9 (fun hb11 => ?_) (fun hb11 => ?_)
  ·have h12 := cond_t h hb11
   refine Sq (Rg [0] ?_)
   refine V 2 30 (mc (.int .i64 2) (.int .i64 2)) ?_
   refine Nt ?_
   refine CWP.ret (by kernel_rfl) ?_
   refine thenQ_ret ?_
   have hfin := some_inj h12
   subst hfin
   exact ⟨e7, (.int .i64 2), res_of (l := [.tmp 2]) (by kernel_rfl) (vs := [(.int .i64 2)]) ⟨rfl, trivial⟩, (.int .i64 2), F1, rfl, hs5.clear, rfl⟩
  ·have h13 := cond_f h hb11
   refine Sc ?_
   refine thenQ_nrm ?_
   refine Sq ?_
   refine Sq (Rg [0] ?_)
   refine V 3 3 (mc (.int .i64 0) (.int .i64 0)) ?_
   refine Nt ?_
   obtain ⟨o14, ho15, h16⟩ := bind_some h13
   refine CWP.cut (fun f w => ∃ (s24 : Int) (F3 : Mem), o14 = .done s24 ∧ HS w0 F0 w F3 [(some b1, (.cells #[(.slice a0_0 x0.Tracks.length n0_0), (.slice a0_1 x0.Ties.length n0_1), (.int .i64 x0.Window)] 25 (0, 0)))] ∧ Mem.le F1 F3 ∧ f.d = [] ∧ f 1 = (.pointer (some ⟨b1, 0, none⟩))) ?_ ?_
   ·refine Bk ?_
    refine CWP.loop (by kernel_rfl) (fun m f w => ∃ (s17 : Int) (F2 : Mem), iter (ref03_Check_L0 N x0) m s17 = some o14 ∧ HS w0 F0 w F2 [(some b1, (.cells #[(.slice a0_0 x0.Tracks.length n0_0), (.slice a0_1 x0.Ties.length n0_1), (.int .i64 x0.Window)] 25 (0, 0)))] ∧ Mem.le F1 F2 ∧ f.d = [] ∧ f 1 = (.pointer (some ⟨b1, 0, none⟩)) ∧ f 3 = (.int .i64 s17)) N ⟨0, F1, ho15, hs5, (Mem.le.refl _), e7, e8, rfl⟩ ?_
    rintro m30 f w18 ⟨s17, F2, hit31, hs19, le20, e21, e22, e23⟩
    obtain ⟨m32, fl33, rfl, hb34, hnx35⟩ := iter_step hit31
    refine Sq ?_
    refine Sq (Rg [0, 1, 2, 3, 4] ?_)
    refine V 16 3 (mv 3 (.int .i64 s17) e23) ?_
    refine V 17 0 (fa 25 1 0 0 1 b1 0 0 e22) ?_
    refine V 18 22 (ld 22 17 b1 0 false 1 (.slice a0_0 x0.Tracks.length n0_0) (hs19.ownAt (k := 0) rfl)) ?_
    refine V 19 3 (ln 18 22 a0_0 x0.Tracks.length n0_0 54 4 64) ?_
    refine V 20 4 (run_lss (t := 3) (t' := 3) (x := (.tmp 16)) (y := (.tmp 19)) (k := .i64) (a := s17) (b := (x0.Tracks.length : Int)) rfl rfl) ?_
    refine Nt ?_
    refine CWP.cond (t := (decide (s17 < (x0.Tracks.length : Int)))) (by kernel_rfl) rfl (fun hb36 => ?_) (fun hb36 => ?_)
    ·have h37 := cond_t hb34 hb36
     refine Sc ?_
     refine thenQ_nrm ?_
     refine Sq ?_
     refine Bk ?_
     refine Sq (Rg [0, 1, 2, 3, 4, 5, 6] ?_)
     refine V 23 0 (fa 25 1 0 0 1 b1 0 0 e22) ?_
     refine V 24 22 (ld 22 23 b1 0 false 1 (.slice a0_0 x0.Tracks.length n0_0) (hs19.ownAt (k := 0) rfl)) ?_
     refine V 25 3 (mv 3 (.int .i64 s17) e23) ?_
     obtain ⟨x38, hx39, h41⟩ := bind_some h37
     obtain ⟨hi40, hx39'⟩ := idx_spec hx39
     obtain ⟨b42, o43, C44, E45, fz46, rfl, hF48, hE49⟩ := SlA.open (SlA.mono hs0_0 (le6.trans le20)) hx39'
     obtain ⟨ae50_2, ne50_2, ae50_3, ne50_3, hc51, hbe50_2, hse50_2, hbe50_3, hse50_3⟩ := hE49 _ _ hx39'
     refine V 26 0 (ix 22 24 25 b42 o43 54 4 64 hi40) ?_
     refine V 27 54 (lx 54 26 0 4 true 4 (.agg #[(.int .i64 x38.Clock.Slip), (.int .i64 x38.Clock.Drift), (.slice ae50_2 x38.Clock.Jumps.length ne50_2), (.slice ae50_3 x38.Times.length ne50_3)]) (hs19.pers _ _ hF48) hc51) ?_
     obtain ⟨r52, hr53, h54⟩ := bind_some h41
     refine Cl 28 4 39 #[(.tmp 27)] #[54] co_ref03_ValidTrack hs19 (c_ref03_ValidTrack N w18 F2 hs19.pers (x38) ae50_2 ne50_2 hbe50_2 hse50_2 ae50_3 ne50_3 hbe50_3 hse50_3 _ hr53) ?_
     intro v55 F4 w56 hs57 le58 hp59
     obtain rfl := hp59
     refine V 29 4 (run_not (t := 4) (x := (.tmp 28)) (a := r52) rfl) ?_
     refine Nt ?_
     refine CWP.cond (t := (!r52)) (by kernel_rfl) rfl (fun hb60 => ?_) (fun hb60 => ?_)
     ·have h61 := cond_t h54 hb60
      refine Sq (Rg [0] ?_)
      refine V 2 30 (mc (.int .i64 30) (.int .i64 30)) ?_
      refine Nt ?_
      refine CWP.ret (by kernel_rfl) ?_
      refine blockQ_ret ?_
      refine thenQ_ret ?_
      refine thenQ_ret ?_
      refine blockQ_ret ?_
      have hret := iter_ret h61 hnx35
      subst hret
      refine .inr ?_
      refine thenQ_ret ?_
      have hfin := some_inj h16
      subst hfin
      exact ⟨e21, (.int .i64 30), res_of (l := [.tmp 2]) (by kernel_rfl) (vs := [(.int .i64 30)]) ⟨rfl, trivial⟩, (.int .i64 30), F4, rfl, hs57.clear, rfl⟩
     ·have h62 := cond_f h54 hb60
      refine Sc ?_
      refine blockQ_nrm ?_
      refine thenQ_nrm ?_
      refine Rg [0, 1, 2] ?_
      refine V 21 3 (mv 3 (.int .i64 s17) e23) ?_
      refine V 22 3 (run_add (t := 3) (t' := 3) (x := (.tmp 21)) (y := (.const (.int .i64 1))) (k := .i64) (a := s17) (b := 1) rfl rfl) ?_
      refine V 3 3 (ma 22 (.int .i64 (W64 (s17 + 1)))) ?_
      refine RWP.nil ?_
      have hn63 := iter_next h62 hnx35
      exact ⟨m32, Nat.lt_succ_self _, (W64 (s17 + 1)), F4, hn63, hs57, (le20.trans le58), e21, e22, rfl⟩
    ·have h64 := cond_f hb34 hb36
     refine CWP.exit (by kernel_rfl) ?_
     refine thenQ_ex ?_
     refine thenQ_ex ?_
     refine blockQ_hit rfl ?_
     have ho65 := iter_done h64 hnx35
     exact .inl ⟨rfl, s17, F2, ho65, hs19, le20, e21, e22⟩
   ·rintro f w25 ⟨s24, F3, rfl, hs26, le27, e28, e29⟩
    have h66 := k_done h16
    refine thenQ_nrm ?_
    refine Sq ?_
    refine Sq (Rg [0] ?_)
    refine V 4 3 (mc (.int .i64 0) (.int .i64 0)) ?_
    refine Nt ?_
    obtain ⟨o67, ho68, h69⟩ := bind_some h66
    refine CWP.cut (fun f w => ∃ (s77 : Int) (F6 : Mem), o67 = .done s77 ∧ HS w0 F0 w F6 [(some b1, (.cells #[(.slice a0_0 x0.Tracks.length n0_0), (.slice a0_1 x0.Ties.length n0_1), (.int .i64 x0.Window)] 25 (0, 0)))] ∧ Mem.le F3 F6 ∧ f.d = [] ∧ f 1 = (.pointer (some ⟨b1, 0, none⟩))) ?_ ?_
    ·refine Bk ?_
     refine CWP.loop (by kernel_rfl) (fun m f w => ∃ (s70 : Int) (F5 : Mem), iter (ref03_Check_L1 N x0 s24) m s70 = some o67 ∧ HS w0 F0 w F5 [(some b1, (.cells #[(.slice a0_0 x0.Tracks.length n0_0), (.slice a0_1 x0.Ties.length n0_1), (.int .i64 x0.Window)] 25 (0, 0)))] ∧ Mem.le F3 F5 ∧ f.d = [] ∧ f 1 = (.pointer (some ⟨b1, 0, none⟩)) ∧ f 4 = (.int .i64 s70)) N ⟨0, F3, ho68, hs26, (Mem.le.refl _), e28, e29, rfl⟩ ?_
     rintro m83 f w71 ⟨s70, F5, hit84, hs72, le73, e74, e75, e76⟩
     obtain ⟨m85, fl86, rfl, hb87, hnx88⟩ := iter_step hit84
     refine Sq ?_
     refine Sq (Rg [0, 1, 2, 3, 4] ?_)
     refine V 30 3 (mv 4 (.int .i64 s70) e76) ?_
     refine V 31 0 (fa 25 1 1 1 1 b1 0 1 e75) ?_
     refine V 32 23 (ld 23 31 b1 1 false 1 (.slice a0_1 x0.Ties.length n0_1) (hs72.ownAt (k := 0) rfl)) ?_
     refine V 33 3 (ln 32 23 a0_1 x0.Ties.length n0_1 46 4 32) ?_
     refine V 34 4 (run_lss (t := 3) (t' := 3) (x := (.tmp 30)) (y := (.tmp 33)) (k := .i64) (a := s70) (b := (x0.Ties.length : Int)) rfl rfl) ?_
     refine Nt ?_
     refine CWP.cond (t := (decide (s70 < (x0.Ties.length : Int)))) (by kernel_rfl) rfl (fun hb89 => ?_) (fun hb89 => ?_)
     ·have h90 := cond_t hb87 hb89
      refine Sc ?_
      refine thenQ_nrm ?_
      refine Sq ?_
      refine Bk ?_
      refine Sq (Rg [0, 1, 2, 3, 4, 5, 6] ?_)
      refine V 37 0 (fa 25 1 1 1 1 b1 0 1 e75) ?_
      refine V 38 23 (ld 23 37 b1 1 false 1 (.slice a0_1 x0.Ties.length n0_1) (hs72.ownAt (k := 0) rfl)) ?_
      refine V 39 3 (mv 4 (.int .i64 s70) e76) ?_
      obtain ⟨x91, hx92, h94⟩ := bind_some h90
      obtain ⟨hi93, hx92'⟩ := idx_spec hx92
      obtain ⟨b95, o96, C97, E98, fz99, rfl, hF101, hE102⟩ := SlA.open (SlA.mono hs0_1 ((le6.trans le27).trans le73)) hx92'
      have hc104 := hE102 _ _ hx92'
      refine V 40 0 (ix 23 38 39 b95 o96 46 4 32 hi93) ?_
      refine V 41 46 (lx 46 40 0 4 true 4 (.agg #[(.int .i64 x91.A.Log), (.int .i64 x91.A.Line), (.int .i64 x91.B.Log), (.int .i64 x91.B.Line)]) (hs72.pers _ _ hF101) hc104) ?_
      refine Al 5 0 46 #[(.int .i64 0), (.int .i64 0), (.int .i64 0), (.int .i64 0)] hs72 (fun b105 w106 (hs107 : HS w0 F0 w106 F5 [(some b105, (.cells #[(.int .i64 0), (.int .i64 0), (.int .i64 0), (.int .i64 0)] 46 (0, 0))), (some b1, (.cells #[(.slice a0_0 x0.Tracks.length n0_0), (.slice (some ⟨b95, o96, none⟩) x0.Ties.length n0_1), (.int .i64 x0.Window)] 25 (0, 0)))]) => ?_)
      refine RWP.store (ty := 0) (g := none) (by kernel_rfl) rfl (x := (.tmp 5)) (y := (.tmp 41)) (t := 46) (gg := true) (s := 4) (v := (.agg #[(.int .i64 x91.A.Log), (.int .i64 x91.A.Line), (.int .i64 x91.B.Log), (.int .i64 x91.B.Line)])) (b := b105) (o := 0) (C := #[(.int .i64 0), (.int .i64 0), (.int .i64 0), (.int .i64 0)]) rfl rfl (by kernel_rfl) hs107 (k := 0) rfl rfl rfl rfl (C' := #[(.int .i64 x91.A.Log), (.int .i64 x91.A.Line), (.int .i64 x91.B.Log), (.int .i64 x91.B.Line)]) rfl (fun w108 (hs109 : HS w0 F0 w108 F5 [(some b105, (.cells #[(.int .i64 x91.A.Log), (.int .i64 x91.A.Line), (.int .i64 x91.B.Log), (.int .i64 x91.B.Line)] 46 (0, 0))), (some b1, (.cells #[(.slice a0_0 x0.Tracks.length n0_0), (.slice (some ⟨b95, o96, none⟩) x0.Ties.length n0_1), (.int .i64 x0.Window)] 25 (0, 0)))]) => ?_)
      refine Nss (Rg [0, 1, 2, 3, 4, 5, 6, 7, 8, 9, 10, 11, 12, 13, 14, 15, 16, 17, 18, 19, 20] ?_)
      obtain ⟨j113, hj118, h119⟩ := bind_some h94
      refine RWP.cut (fun f w => ∃ (F7 : Mem), HS w0 F0 w F7 [(some b1, (.cells #[(.slice a0_0 x0.Tracks.length n0_0), (.slice (some ⟨b95, o96, none⟩) x0.Ties.length n0_1), (.int .i64 x0.Window)] 25 (0, 0)))] ∧ Mem.le F5 F7 ∧ f.d = [] ∧ f 1 = (.pointer (some ⟨b1, 0, none⟩)) ∧ f 4 = (.int .i64 s70) ∧ f 62 = (.bool j113)) ?_ ?_
      ·refine V 42 25 (ld 25 1 b1 0 true 3 (.agg #[(.slice a0_0 x0.Tracks.length n0_0), (.slice (some ⟨b95, o96, none⟩) x0.Ties.length n0_1), (.int .i64 x0.Window)]) (hs109.ownAt (k := 1) rfl) e75) ?_
       refine V 43 0 (fa 46 5 0 0 2 b105 0 0) ?_
       refine V 44 27 (ld 27 43 b105 0 true 2 (.agg #[(.int .i64 x91.A.Log), (.int .i64 x91.A.Line)]) (hs109.ownAt (k := 0) rfl)) ?_
       obtain ⟨r120, hr121, h122⟩ := bind_some hj118
       refine Cl 45 4 85 #[(.tmp 42), (.tmp 44)] #[25, 27] co_ref03_Has hs109 (c_ref03_Has N w108 F5 hs109.pers (x0) a0_0 n0_0 hb0_0 (SlA.mono hs0_0 ((le6.trans le27).trans le73)) (some ⟨b95, o96, none⟩) n0_1 hb0_1 (SlA.mono hs0_1 ((le6.trans le27).trans le73)) (x91.A) _ hr121) ?_
       intro v123 F8 w124 hs125 le126 hp127
       obtain rfl := hp127
       refine V 46 4 (run_not (t := 4) (x := (.tmp 45)) (a := r120) rfl) ?_
       refine V 47 4 (mv 46 (.bool (!r120))) ?_
       refine RWP.split (!r120) (fun hb128 => ?_) (fun hb128 => ?_)
       ·have h129 := cond_t h122 hb128
        refine Sk [48, 49, 50, 51, 52] 5 false 47 hb128 ?_
        refine V 53 4 (p1 47 (.const (.bool true)) (.tmp 52) (.bool true) hb128) ?_
        refine V 54 4 (mv 53 (.bool true)) ?_
        refine Sk [55, 56, 57, 58, 59, 60, 61] 12 false 54 rfl ?_
        refine V 62 4 (p1 54 (.const (.bool true)) (.tmp 61) (.bool true) rfl) ?_
        obtain rfl := some_inj h129
        have hs130 : HS w0 F0 w124 F8 [(some b1, (.cells #[(.slice a0_0 x0.Tracks.length n0_0), (.slice (some ⟨b95, o96, none⟩) x0.Ties.length n0_1), (.int .i64 x0.Window)] 25 (0, 0)))] := hs125.drop 0
        exact RWP.nil ⟨rfl, F8, hs130, le126, e74, e75, e76, rfl⟩
       ·have h131 := cond_f h122 hb128
        refine Vg 48 25 5 false 47 hb128 (ld 25 1 b1 0 true 3 (.agg #[(.slice a0_0 x0.Tracks.length n0_0), (.slice (some ⟨b95, o96, none⟩) x0.Ties.length n0_1), (.int .i64 x0.Window)]) (hs125.ownAt (k := 1) rfl) e75) ?_
        refine Vg 49 0 5 false 47 hb128 (fa 46 5 1 2 2 b105 0 2) ?_
        refine Vg 50 27 5 false 47 hb128 (ld 27 49 b105 2 true 2 (.agg #[(.int .i64 x91.B.Log), (.int .i64 x91.B.Line)]) (hs125.ownAt (k := 0) rfl)) ?_
        obtain ⟨r132, hr133, h134⟩ := bind_some h131
        refine RWP.call (dst := (some 51)) (ty := 4) (g := (some (5, false))) (by kernel_rfl) (gd_y (d := 47) (by kernel_rfl) rfl hb128) (f0 := (.func 85)) (aos := #[(.tmp 48), (.tmp 50)]) (ats := #[25, 27]) (fid := 85) (first := #[]) (cap := #[]) (args := [(.agg #[(.slice a0_0 x0.Tracks.length n0_0), (.slice (some ⟨b95, o96, none⟩) x0.Ties.length n0_1), (.int .i64 x0.Window)]), (.agg #[(.int .i64 x91.B.Log), (.int .i64 x91.B.Line)])]) rfl co_ref03_Has (rfl) hs125 (c_ref03_Has N w124 F8 hs125.pers (x0) a0_0 n0_0 hb0_0 (SlA.mono hs0_0 (((le6.trans le27).trans le73).trans le126)) (some ⟨b95, o96, none⟩) n0_1 hb0_1 (SlA.mono hs0_1 (((le6.trans le27).trans le73).trans le126)) (x91.B) _ hr133) ?_
        intro v135 F9 w136 hs137 le138 hp139
        obtain rfl := hp139
        refine Vg 52 4 5 false 47 hb128 (run_not (t := 4) (x := (.tmp 51)) (a := r132) rfl) ?_
        refine V 53 4 (p0 47 (.const (.bool true)) (.tmp 52) (.bool (!r132)) hb128) ?_
        refine V 54 4 (mv 53 (.bool (!r132))) ?_
        refine RWP.split (!r132) (fun hb140 => ?_) (fun hb140 => ?_)
        ·have h141 := cond_t h134 hb140
         refine Sk [55, 56, 57, 58, 59, 60, 61] 12 false 54 hb140 ?_
         refine V 62 4 (p1 54 (.const (.bool true)) (.tmp 61) (.bool true) hb140) ?_
         obtain rfl := some_inj h141
         have hs142 : HS w0 F0 w136 F9 [(some b1, (.cells #[(.slice a0_0 x0.Tracks.length n0_0), (.slice (some ⟨b95, o96, none⟩) x0.Ties.length n0_1), (.int .i64 x0.Window)] 25 (0, 0)))] := hs137.drop 0
         exact RWP.nil ⟨rfl, F9, hs142, (le126.trans le138), e74, e75, e76, rfl⟩
        ·have h143 := cond_f h134 hb140
         refine Vg 55 0 12 false 54 hb140 (fa 46 5 0 0 2 b105 0 0) ?_
         refine Vg 56 0 12 false 54 hb140 (fa 27 55 0 0 1 b105 0 0) ?_
         refine Vg 57 3 12 false 54 hb140 (ld 3 56 b105 0 false 1 (.int .i64 x91.A.Log) (hs137.ownAt (k := 0) rfl)) ?_
         refine Vg 58 0 12 false 54 hb140 (fa 46 5 1 2 2 b105 0 2) ?_
         refine Vg 59 0 12 false 54 hb140 (fa 27 58 0 0 1 b105 2 2) ?_
         refine Vg 60 3 12 false 54 hb140 (ld 3 59 b105 2 false 1 (.int .i64 x91.B.Log) (hs137.ownAt (k := 0) rfl)) ?_
         refine Vg 61 4 12 false 54 hb140 (run_eql (t := 3) (t' := 3) (x := (.tmp 57)) (y := (.tmp 60)) (k := .i64) (a := x91.A.Log) (b := x91.B.Log) rfl rfl) ?_
         refine V 62 4 (p0 54 (.const (.bool true)) (.tmp 61) (.bool (x91.A.Log == x91.B.Log)) hb140) ?_
         obtain rfl := some_inj h143
         have hs144 : HS w0 F0 w136 F9 [(some b1, (.cells #[(.slice a0_0 x0.Tracks.length n0_0), (.slice (some ⟨b95, o96, none⟩) x0.Ties.length n0_1), (.int .i64 x0.Window)] 25 (0, 0)))] := hs137.drop 0
         exact RWP.nil ⟨rfl, F9, hs144, (le126.trans le138), e74, e75, e76, rfl⟩
      ·rintro f w110 ⟨F7, hs111, le112, e114, e115, e116, e117⟩
       refine thenQ_nrm ?_
       refine CWP.cond (t := j113) (by kernel_rfl) e117 (fun hb145 => ?_) (fun hb145 => ?_)
       ·have h146 := cond_t h119 hb145
        refine Sq (Rg [0] ?_)
        refine V 2 30 (mc (.int .i64 30) (.int .i64 30)) ?_
        refine Nt ?_
        refine CWP.ret (by kernel_rfl) ?_
        refine blockQ_ret ?_
        refine thenQ_ret ?_
        refine thenQ_ret ?_
        refine blockQ_ret ?_
        have hret := iter_ret h146 hnx88
        subst hret
        refine .inr ?_
        refine thenQ_ret ?_
        have hfin := some_inj h69
        subst hfin
        exact ⟨e114, (.int .i64 30), res_of (l := [.tmp 2]) (by kernel_rfl) (vs := [(.int .i64 30)]) ⟨rfl, trivial⟩, (.int .i64 30), F7, rfl, hs111.clear, rfl⟩
       ·have h147 := cond_f h119 hb145
        refine Sc ?_
        refine blockQ_nrm ?_
        refine thenQ_nrm ?_
        refine Rg [0, 1, 2] ?_
        refine V 35 3 (mv 4 (.int .i64 s70) e116) ?_
        refine V 36 3 (run_add (t := 3) (t' := 3) (x := (.tmp 35)) (y := (.const (.int .i64 1))) (k := .i64) (a := s70) (b := 1) rfl rfl) ?_
        refine V 4 3 (ma 36 (.int .i64 (W64 (s70 + 1)))) ?_
        refine RWP.nil ?_
        have hn148 := iter_next h147 hnx88
        exact ⟨m85, Nat.lt_succ_self _, (W64 (s70 + 1)), F7, hn148, hs111, (le73.trans le112), e114, e115, rfl⟩
     ·have h149 := cond_f hb87 hb89
      refine CWP.exit (by kernel_rfl) ?_
      refine thenQ_ex ?_
      refine thenQ_ex ?_
      refine blockQ_hit rfl ?_
      have ho150 := iter_done h149 hnx88
      exact .inl ⟨rfl, s70, F5, ho150, hs72, le73, e74, e75⟩
    ·rintro f w78 ⟨s77, F6, rfl, hs79, le80, e81, e82⟩
     have h151 := k_done h69
     refine thenQ_nrm ?_
     refine Sq ?_
     refine Sq (Rg [0, 1, 2, 3] ?_)
     refine V 63 0 (fa 25 1 2 2 1 b1 0 2 e82) ?_
     refine V 64 3 (ld 3 63 b1 2 false 1 (.int .i64 x0.Window) (hs79.ownAt (k := 0) rfl)) ?_
     obtain ⟨r152, hr153, h154⟩ := bind_some h151
     refine Cl 65 4 83 #[(.tmp 64), (.const (.int .i64 0)), (.const (.int .i64 120))] #[3, 3, 3] co_ref03_within hs79 (c_ref03_within N w78 F6 hs79.pers (x0.Window) (0) (120) _ hr153) ?_
     intro v155 F10 w156 hs157 le158 hp159
     obtain rfl := hp159
     refine V 66 4 (run_not (t := 4) (x := (.tmp 65)) (a := r152) rfl) ?_
     refine Nt ?_
     refine CWP.cond (t := (!r152)) (by kernel_rfl) rfl (fun hb160 => ?_) (fun hb160 => ?_)
     ·have h161 := cond_t h154 hb160
      refine Sq (Rg [0] ?_)
      refine V 2 30 (mc (.int .i64 30) (.int .i64 30)) ?_
      refine Nt ?_
      refine CWP.ret (by kernel_rfl) ?_
      refine thenQ_ret ?_
      have hfin := some_inj h161
      subst hfin
      exact ⟨e81, (.int .i64 30), res_of (l := [.tmp 2]) (by kernel_rfl) (vs := [(.int .i64 30)]) ⟨rfl, trivial⟩, (.int .i64 30), F10, rfl, hs157.clear, rfl⟩
     ·have h162 := cond_f h154 hb160
      refine Sc ?_
      refine thenQ_nrm ?_
      refine Sq (Rg [0] ?_)
      refine V 2 30 (mc (.int .i64 0) (.int .i64 0)) ?_
      refine Nt ?_
      refine CWP.ret (by kernel_rfl) ?_
      have hfin := some_inj h162
      subst hfin
      exact ⟨e81, (.int .i64 0), res_of (l := [.tmp 2]) (by kernel_rfl) (vs := [(.int .i64 0)]) ⟨rfl, trivial⟩, (.int .i64 0), F10, rfl, hs157.clear, rfl⟩
end Go.Proofs.Ythbcnabeabcmlaa
namespace Go.Proofs.Ythbcnabeabcmlaa
/-- a length that fits, and for which there is fuel -/
def Fit (N n : Nat) : Prop := n < 9223372036854775808 ∧ n < N
structure FitT (N : Nat) (t : Track) : Prop where
  j : Fit N t.Clock.Jumps.length
  t : Fit N t.Times.length
structure FitS (N : Nat) (s : System) : Prop where
  n : Fit N s.Tracks.length
  t : ∀ t, t ∈ s.Tracks → FitT N t
  e : Fit N s.Ties.length
def inr (a b c : Int) : Bool := decide (b ≤ a) && decide (a ≤ c)
theorem within_c (N : Nat) (a b c : Int) : clocks_within N a b c = some (inr a b c) := rfl
theorem within_r (N : Nat) (a b c : Int) : ref03_within N a b c = some (inr a b c) := rfl
/-- numbers in range, and in order -/
def okO (lt : Int → Int → Bool) (l : List Int) : Nat → Bool
  | 0 => inr (l.getD 0 0) 0 20000
  | i + 1 => inr (l.getD (i + 1) 0) 0 20000 && lt (l.getD i 0) (l.getD (i + 1) 0)
theorem getD_at {α : Type} {l : List α} {i : Nat} (h : i < l.length) (d : α) : l.getD i d = l[i] := by simp [h]
theorem pred_nat {i : Nat} (h : i + 1 < 9223372036854775808) : W64 (((i + 1 : Nat) : Int) - 1) = (i : Int) := by
  rw [W64_id (by omega) (by omega)]; simp
def ltS (b a : Int) : Bool := decide (b < a)
def ltE (b a : Int) : Bool := decide (b ≤ a)
def vClock (c : Clock) : Bool := allB c.Jumps.length (okO ltS c.Jumps) && (inr c.Slip 0 1440 && (inr c.Drift 0 100 && decide ((c.Jumps.length : Int) ≤ 16)))
def vTrack (t : Track) : Bool := allB t.Times.length (okO ltE t.Times) && (vClock t.Clock && decide ((t.Times.length : Int) ≤ 400))
theorem loopC {N : Nat} {c : Clock} (h : Fit N c.Jumps.length) {i : Nat} (hi : i < c.Jumps.length) : clocks_ValidClock_L0 N c (i : Int) = some (bif okO ltS c.Jumps i then .next ((i + 1 : Nat) : Int) else .ret false) := by
  unfold clocks_ValidClock_L0
  have h1 := h.1
  rw [lt_t hi, cond_true, idx_nat hi, Option.bind_some, within_c, Option.bind_some, W64_succ (by omega)]
  cases i with
  | zero =>
    simp only [okO, getD_at hi]
    cases inr c.Jumps[0] 0 20000 <;> simp
  | succ k =>
    have hk : k < c.Jumps.length := by omega
    simp only [okO, getD_at hi, getD_at hk]
    have hp : decide (((k + 1 : Nat) : Int) > 0) = true := by simp
    rw [hp, cond_true, pred_nat (by omega), idx_nat hk]
    cases inr c.Jumps[k + 1] 0 20000 <;> simp [ltS]
    by_cases hlt : c.Jumps[k + 1] ≤ c.Jumps[k]
    · simp [hlt, Int.not_lt.2 hlt]
    · simp [hlt, Int.not_le.1 hlt]
theorem validClock_c {N : Nat} {c : Clock} (h : Fit N c.Jumps.length) : clocks_ValidClock N c = some (vClock c) := by
  unfold clocks_ValidClock
  rw [iter_check' (okO ltS c.Jumps) false (fun i hi => loopC h hi) (by unfold clocks_ValidClock_L0; rw [lt_f]; rfl) h.2]
  unfold vClock
  cases allB c.Jumps.length (okO ltS c.Jumps) with
  | false => rfl
  | true =>
    simp only [cond_true, within_c, Option.bind_some]
    cases inr c.Slip 0 1440 <;> simp
    cases inr c.Drift 0 100 <;> simp
theorem loopCr {N : Nat} {c : Clock} (j : Bool) (h : Fit N c.Jumps.length) {i : Nat} (hi : i < c.Jumps.length) : ref03_ValidClock_L0 N c j (i : Int) = some (bif okO ltS c.Jumps i then .next ((i + 1 : Nat) : Int) else .ret false) := by
  unfold ref03_ValidClock_L0
  have h1 := h.1
  rw [lt_t hi, cond_true, idx_nat hi, Option.bind_some, within_r, Option.bind_some, W64_succ (by omega)]
  cases i with
  | zero =>
    simp only [okO, getD_at hi]
    cases inr c.Jumps[0] 0 20000 <;> simp
  | succ k =>
    have hk : k < c.Jumps.length := by omega
    simp only [okO, getD_at hi, getD_at hk]
    have hp : decide (((k + 1 : Nat) : Int) > 0) = true := by simp
    rw [hp, cond_true, pred_nat (by omega), idx_nat hk, Option.bind_some, Option.bind_some]
    cases inr c.Jumps[k + 1] 0 20000 <;> simp [ltS]
    by_cases hlt : c.Jumps[k + 1] ≤ c.Jumps[k]
    · simp [hlt, Int.not_lt.2 hlt]
    · simp [hlt, Int.not_le.1 hlt]
theorem validClock_r {N : Nat} {c : Clock} (h : Fit N c.Jumps.length) : ref03_ValidClock N c = some (vClock c) := by
  unfold ref03_ValidClock vClock
  rw [within_r, within_r]
  simp only [Option.bind_some]
  have hL : ∀ j, ((iter (ref03_ValidClock_L0 N c j) N 0).bind fun o => o.k (fun r => some r) (fun s48 => some true)) = some (allB c.Jumps.length (okO ltS c.Jumps)) := by
    intro j
    rw [iter_check' (okO ltS c.Jumps) false (fun i hi => loopCr j h hi) (by unfold ref03_ValidClock_L0; rw [lt_f]; rfl) h.2]
    cases allB c.Jumps.length (okO ltS c.Jumps) <;> rfl
  cases inr c.Slip 0 1440 with
  | false => simp
  | true =>
    cases inr c.Drift 0 100 with
    | false => simp
    | true =>
      by_cases h16 : (c.Jumps.length : Int) > 16
      · simp [h16]
      · simp only [h16, Bool.not_true, cond_false, Option.bind_some, decide_false, hL, Bool.true_and]
        have : decide ((c.Jumps.length : Int) ≤ 16) = true := by simp; omega
        rw [this]; simp
theorem loopT {N : Nat} {t : Track} (h : Fit N t.Times.length) {i : Nat} (hi : i < t.Times.length) : clocks_ValidTrack_L0 N t (i : Int) = some (bif okO ltE t.Times i then .next ((i + 1 : Nat) : Int) else .ret false) := by
  unfold clocks_ValidTrack_L0
  have h1 := h.1
  rw [lt_t hi, cond_true, idx_nat hi, Option.bind_some, within_c, Option.bind_some, W64_succ (by omega)]
  cases i with
  | zero =>
    simp only [okO, getD_at hi]
    cases inr t.Times[0] 0 20000 <;> simp
  | succ k =>
    have hk : k < t.Times.length := by omega
    simp only [okO, getD_at hi, getD_at hk]
    have hp : decide (((k + 1 : Nat) : Int) > 0) = true := by simp
    rw [hp, cond_true, pred_nat (by omega), idx_nat hk]
    cases inr t.Times[k + 1] 0 20000 <;> simp [ltE]
    by_cases hlt : t.Times[k + 1] < t.Times[k]
    · simp [hlt, Int.not_le.2 hlt]
    · simp [hlt, Int.not_lt.1 hlt]
theorem loopTr {N : Nat} {t : Track} (j : Bool) (h : Fit N t.Times.length) {i : Nat} (hi : i < t.Times.length) : ref03_ValidTrack_L0 N t j (i : Int) = some (bif okO ltE t.Times i then .next ((i + 1 : Nat) : Int) else .ret false) := by
  unfold ref03_ValidTrack_L0
  have h1 := h.1
  rw [lt_t hi, cond_true, idx_nat hi, Option.bind_some, within_r, Option.bind_some, W64_succ (by omega)]
  cases i with
  | zero =>
    simp only [okO, getD_at hi]
    cases inr t.Times[0] 0 20000 <;> simp
  | succ k =>
    have hk : k < t.Times.length := by omega
    simp only [okO, getD_at hi, getD_at hk]
    have hp : decide (((k + 1 : Nat) : Int) > 0) = true := by simp
    rw [hp, cond_true, pred_nat (by omega), idx_nat hk, Option.bind_some, Option.bind_some]
    cases inr t.Times[k + 1] 0 20000 <;> simp [ltE]
    by_cases hlt : t.Times[k + 1] < t.Times[k]
    · simp [hlt, Int.not_le.2 hlt]
    · simp [hlt, Int.not_lt.1 hlt]
theorem validTrack_c {N : Nat} {t : Track} (h : FitT N t) : clocks_ValidTrack N t = some (vTrack t) := by
  unfold clocks_ValidTrack
  rw [iter_check' (okO ltE t.Times) false (fun i hi => loopT h.t hi) (by unfold clocks_ValidTrack_L0; rw [lt_f]; rfl) h.t.2]
  unfold vTrack
  cases allB t.Times.length (okO ltE t.Times) with
  | false => rfl
  | true =>
    simp only [cond_true, validClock_c h.j, Option.bind_some]
    cases vClock t.Clock <;> simp
theorem validTrack_r {N : Nat} {t : Track} (h : FitT N t) : ref03_ValidTrack N t = some (vTrack t) := by
  unfold ref03_ValidTrack vTrack
  rw [validClock_r h.j]
  simp only [Option.bind_some]
  have hL : ∀ j, ((iter (ref03_ValidTrack_L0 N t j) N 0).bind fun o => o.k (fun r => some r) (fun s48 => some true)) = some (allB t.Times.length (okO ltE t.Times)) := by
    intro j
    rw [iter_check' (okO ltE t.Times) false (fun i hi => loopTr j h.t hi) (by unfold ref03_ValidTrack_L0; rw [lt_f]; rfl) h.t.2]
    cases allB t.Times.length (okO ltE t.Times) <;> rfl
  cases vClock t.Clock with
  | false => simp
  | true =>
    by_cases h16 : (t.Times.length : Int) > 400
    · simp [h16]
    · simp only [h16, Bool.not_true, cond_false, Option.bind_some, decide_false, hL, Bool.true_and]
      have : decide ((t.Times.length : Int) ≤ 400) = true := by simp; omega
      rw [this]; simp
/-! ### has, tied, Check -/
def vHas (s : System) (r : Ref) : Bool := decide (0 ≤ r.Log) && match s.Tracks[r.Log.toNat]? with
  | none => false
  | some t => decide (0 ≤ r.Line) && decide (r.Line < (t.Times.length : Int))
theorem has_aux {N : Nat} {s : System} (h : FitS N s) (r : Ref) (f : Int → Int → Int → Option Bool) (hf : ∀ a b c, f a b c = some (inr a b c)) :
    (((f r.Log 0 (W64 ((s.Tracks.length : Int) - 1))).bind fun r17 => (bif r17 then ((idx s.Tracks r.Log).bind fun x27 => ((f r.Line 0 (W64 ((x27.Times.length : Int) - 1))).bind fun r41 => some r41)) else some false)).bind fun j12 => some j12) = some (vHas s r) := by
  simp only [hf, Option.bind_some]
  have h1 := h.n.1
  rw [W64_id (by omega) (by omega)]
  unfold vHas inr
  by_cases h0 : 0 ≤ r.Log
  · by_cases hl : r.Log ≤ (s.Tracks.length : Int) - 1
    · obtain ⟨k, hk⟩ : ∃ k : Nat, r.Log = (k : Int) := ⟨r.Log.toNat, by omega⟩
      have hkl : k < s.Tracks.length := by omega
      have hm := h.t _ (List.getElem_mem hkl)
      have h2 := hm.t.1
      rw [hk] at hl ⊢
      simp only [hl, decide_true, Bool.and_true, cond_true, idx_nat hkl, Option.bind_some, Int.toNat_natCast, List.getElem?_eq_getElem hkl]
      rw [W64_id (by omega) (by omega)]
      have e : decide (r.Line ≤ ((s.Tracks[k].Times.length : Nat) : Int) - 1) = decide (r.Line < ((s.Tracks[k].Times.length : Nat) : Int)) := by
        rw [Bool.eq_iff_iff]; simp; omega
      simp [e]
    · have : s.Tracks[r.Log.toNat]? = none := by rw [List.getElem?_eq_none]; omega
      simp [h0, hl, this]
  · simp [h0]
theorem has_c {N : Nat} {s : System} (h : FitS N s) (r : Ref) : clocks_has N s r = some (vHas s r) := has_aux h r _ (within_c N)
theorem has_r {N : Nat} {s : System} (h : FitS N s) (r : Ref) : ref03_Has N s r = some (vHas s r) := has_aux h r _ (within_r N)
def vTie (s : System) (t : Tie) : Bool := vHas s t.A && (vHas s t.B && (t.A.Log != t.B.Log))
theorem tied_c {N : Nat} {s : System} (h : FitS N s) (t : Tie) : clocks_tied N s t = some (vTie s t) := by
  unfold clocks_tied vTie
  rw [has_c h, has_c h]
  simp only [Option.bind_some]
  cases vHas s t.A <;> simp
  cases vHas s t.B <;> simp
/-- slices.ContainsFunc -/
theorem contains_aux {α : Type} {N : Nat} {l : List α} (h : Fit N l.length) {f : α → Option Bool} {p : α → Bool} (hf : ∀ x, x ∈ l → f x = some (p x)) {body : Int → Option (Flow Int Int)}
    (hb : body = fun s4 => (bif (decide (s4 < (l.length : Int))) then ((idx l s4).bind fun x26 => ((f x26).bind fun r40 => (bif r40 then some (.ret s4) else some (.next (W64 (s4 + 1)))))) else some (.done s4))) :
    (((iter body N 0).bind fun o => o.k (fun r => some r) (fun _ => some (-1))).bind fun r1 => some (decide (r1 ≥ 0))) = some (l.any p) := by
  have h1 := h.1
  subst hb
  rcases iter_check (body := fun s4 => (bif (decide (s4 < (l.length : Int))) then ((idx l s4).bind fun x26 => ((f x26).bind fun r40 => (bif r40 then some (.ret s4) else some (.next (W64 (s4 + 1)))))) else some (.done s4))) (n := l.length) (fun i => match l[i]? with | some x => !p x | none => true) (fun i => (i : Int)) (fun i hi => by
      simp only [lt_t hi, cond_true, idx_nat hi, Option.bind_some, hf _ (List.getElem_mem hi), List.getElem?_eq_getElem hi]
      rw [W64_succ (by omega)]
      cases p l[i] <;> rfl) (by simp only [lt_f]; rfl) h.2 with ⟨h2, h3⟩ | ⟨h2, i, hi, h3⟩
  · rw [h3]
    have : l.any p = false := by
      rw [List.any_eq_false]
      intro x hx
      obtain ⟨i, hi, rfl⟩ := List.getElem_of_mem hx
      have := allB_t h2 hi
      rw [List.getElem?_eq_getElem hi] at this
      simpa using this
    rw [this]
    rfl
  · rw [h3]
    have : l.any p = true := by
      cases e : l.any p with
      | true => rfl
      | false =>
        rw [List.any_eq_false] at e
        rw [allB_of (fun j hj => by rw [List.getElem?_eq_getElem hj]; simpa using e _ (List.getElem_mem hj))] at h2
        cases h2
    rw [this]
    simp [Flow.k]
def vCheck (s : System) : Int := bif (decide ((s.Tracks.length : Int) > 64) || decide ((s.Ties.length : Int) > 400)) then 2 else bif (s.Tracks.all vTrack && (inr s.Window 0 120 && s.Ties.all (vTie s))) then 0 else 30
def atB {α : Type} (l : List α) (p : α → Bool) (i : Nat) : Bool := match l[i]? with | some x => p x | none => true
theorem atB_at {α : Type} {l : List α} {p : α → Bool} {i : Nat} (h : i < l.length) : atB l p i = p l[i] := by unfold atB; rw [List.getElem?_eq_getElem h]
theorem any_not {α : Type} (l : List α) (p : α → Bool) : l.any (fun x => !p x) = !l.all p := by
  induction l with
  | nil => rfl
  | cons x l ih => simp [ih, Bool.not_and]
theorem check_c {N : Nat} {s : System} (h : FitS N s) : clocks_Check N s = some (vCheck s) := by
  unfold clocks_Check vCheck
  have h1 : slices_ContainsFunc_api_Track_api_Track N s.Tracks (fun y0 => clocks_Check_1 N y0) = some (s.Tracks.any fun t => !vTrack t) :=
    contains_aux h.n (fun t ht => by unfold clocks_Check_1; rw [validTrack_c (h.t t ht)]; rfl) rfl
  have h2 : slices_ContainsFunc_api_Tie_api_Tie N s.Ties (fun y0 => clocks_Check_2 N y0 s) = some (s.Ties.any fun t => !vTie s t) :=
    contains_aux h.e (fun t _ => by unfold clocks_Check_2; rw [tied_c h]; rfl) rfl
  rw [h1, h2, within_c, any_not, any_not]
  cases (decide ((s.Tracks.length : Int) > 64) || decide ((s.Ties.length : Int) > 400)) with
  | true => rfl
  | false =>
    simp only [cond_false, Option.bind_some]
    cases s.Tracks.all vTrack <;> simp
    cases inr s.Window 0 120 <;> simp
    cases s.Ties.all (vTie s) <;> simp
theorem all_allB {α : Type} (l : List α) (p : α → Bool) : l.all p = allB l.length (atB l p) := by
  cases e : l.all p with
  | true =>
    rw [List.all_eq_true] at e
    rw [allB_of fun i hi => by rw [atB_at hi]; exact e _ (List.getElem_mem hi)]
  | false =>
    rw [List.all_eq_false] at e
    obtain ⟨x, hx, hp⟩ := e
    obtain ⟨i, hi, rfl⟩ := List.getElem_of_mem hx
    rw [allB_f hi (by rw [atB_at hi]; simpa using hp)]
theorem check_r {N : Nat} {s : System} (h : FitS N s) : ref03_Check N s = some (vCheck s) := by
  unfold ref03_Check vCheck
  have hn := h.n.1
  have he := h.e.1
  cases (decide ((s.Tracks.length : Int) > 64) || decide ((s.Ties.length : Int) > 400)) with
  | true => rfl
  | false =>
    simp only [cond_false]
    rw [iter_check' (n := s.Tracks.length) (atB s.Tracks vTrack) 30 (fun i hi => by
      unfold ref03_Check_L0
      rw [lt_t hi, cond_true, idx_nat hi, Option.bind_some, validTrack_r (h.t _ (List.getElem_mem hi)), Option.bind_some, W64_succ (by omega), atB_at hi]
      cases vTrack s.Tracks[i] <;> rfl) (by unfold ref03_Check_L0; rw [lt_f]; rfl) h.n.2, ← all_allB]
    cases s.Tracks.all vTrack with
    | false => rfl
    | true =>
      simp only [cond_true]
      rw [iter_check' (n := s.Ties.length) (atB s.Ties (vTie s)) 30 (fun i hi => by
        unfold ref03_Check_L1
        rw [lt_t hi, cond_true, idx_nat hi, Option.bind_some, has_r h, has_r h, W64_succ (by omega), atB_at hi]
        simp only [Option.bind_some, vTie]
        cases vHas s s.Ties[i].A with
        | false => rfl
        | true =>
          cases vHas s s.Ties[i].B with
          | false => rfl
          | true =>
            simp only [Bool.not_true, cond_false, Option.bind_some, Bool.true_and, bne]
            cases (s.Ties[i].A.Log == s.Ties[i].B.Log) <;> rfl) (by unfold ref03_Check_L1; rw [lt_f]; rfl) h.e.2, ← all_allB]
      rw [within_r]
      cases s.Ties.all (vTie s) with
      | false => simp
      | true =>
        simp only [cond_true, Option.bind_some]
        cases inr s.Window 0 120 <;> simp
end Go.Proofs.Ythbcnabeabcmlaa
namespace Go.Proofs.Ythbcnabeabcmlaa
open Go.Proofs
def cmp_isNaN_int (N : Nat) (x0 : Int) : Option Bool :=
 some (x0 != x0)
theorem co_cmp_isNaN_int : CallOk Try.prog 140 := fun _ _ => by kernel_rfl
set_option maxHeartbeats 4000000 in
set_option maxRecDepth 100000 in
theorem c_cmp_isNaN_int (N : Nat) (w0 : World) (F0 : Mem) (hF : ∀ b o, F0 b = some o → w0.heap[b]? = some o) (x0 : Int) (r : Bool) (h : cmp_isNaN_int N x0 = some r) :
  Calls Try.prog 140 ([(.int .i64 x0)] : List Value).toArray w0 (FRet w0 F0 fun F' v => v = (.bool r)) := by
 have hs0 := HS.start hF
 refine calls_of (n := 6) (c := bodyOf Try.f140) Try.func140 (by kernel_rfl) (by kernel_rfl) (by kernel_rfl) ?_
 refine Sq (Rg [0] ?_)
 refine V 2 4 (mc (.bool false) (.bool false)) ?_
 refine Nss (Rg [0, 1, 2, 3] ?_)
 refine V 3 3 (mv 0 (.int .i64 x0)) ?_
 refine V 4 3 (mv 0 (.int .i64 x0)) ?_
 refine V 5 4 (run_neq (t := 3) (t' := 3) (x := (.tmp 3)) (y := (.tmp 4)) (k := .i64) (a := x0) (b := x0) rfl rfl) ?_
 refine V 2 4 (ma 5 (.bool (x0 != x0))) ?_
 refine Nt ?_
 refine CWP.ret (by kernel_rfl) ?_
 have hfin := some_inj h
 subst hfin
 exact ⟨rfl, (.bool (x0 != x0)), res_of (l := [.tmp 2]) (by kernel_rfl) (vs := [(.bool (x0 != x0))]) ⟨rfl, trivial⟩, (.bool (x0 != x0)), F0, rfl, hs0.clear, rfl⟩
end Go.Proofs.Ythbcnabeabcmlaa
namespace Go.Proofs.Ythbcnabeabcmlaa
open Go.Proofs
def cmp_Less_int (N : Nat) (x0 : Int) (x1 : Int) : Option Bool :=
 (((cmp_isNaN_int N x0).bind fun r9 => (bif r9 then ((cmp_isNaN_int N x1).bind fun r19 => (bif (!r19) then some true else some (decide (x0 < x1)))) else some (decide (x0 < x1)))).bind fun j4 => some j4)
theorem co_cmp_Less_int : CallOk Try.prog 137 := fun _ _ => by kernel_rfl
set_option maxHeartbeats 4000000 in
set_option maxRecDepth 100000 in
theorem c_cmp_Less_int (N : Nat) (w0 : World) (F0 : Mem) (hF : ∀ b o, F0 b = some o → w0.heap[b]? = some o) (x0 : Int) (x1 : Int) (r : Bool) (h : cmp_Less_int N x0 x1 = some r) :
  Calls Try.prog 137 ([(.int .i64 x0), (.int .i64 x1)] : List Value).toArray w0 (FRet w0 F0 fun F' v => v = (.bool r)) := by
 have hs0 := HS.start hF
 refine calls_of (n := 17) (c := bodyOf Try.f137) Try.func137 (by kernel_rfl) (by kernel_rfl) (by kernel_rfl) ?_
 refine Sq (Rg [0] ?_)
 refine V 4 4 (mc (.bool false) (.bool false)) ?_
 refine Nss (Rg [0, 1, 2, 3, 4, 5, 6, 7, 8, 9, 10, 11, 12] ?_)
 obtain ⟨j4, hj7, h8⟩ := bind_some h
 refine RWP.cut (fun f w => ∃ (F1 : Mem), HS w0 F0 w F1 [] ∧ Mem.le F0 F1 ∧ f.d = [] ∧ f 4 = (.bool j4)) ?_ ?_
 ·refine V 5 3 (mv 0 (.int .i64 x0)) ?_
  obtain ⟨r9, hr10, h11⟩ := bind_some hj7
  refine Cl 6 4 140 #[(.tmp 5)] #[3] co_cmp_isNaN_int hs0 (c_cmp_isNaN_int N w0 F0 hs0.pers (x0) _ hr10) ?_
  intro v12 F2 w13 hs14 le15 hp16
  obtain rfl := hp16
  refine V 7 4 (mv 6 (.bool r9)) ?_
  refine RWP.split r9 (fun hb17 => ?_) (fun hb17 => ?_)
  ·have h18 := cond_t h11 hb17
   refine Vg 8 3 2 true 7 hb17 (mv 1 (.int .i64 x1)) ?_
   obtain ⟨r19, hr20, h21⟩ := bind_some h18
   refine RWP.call (dst := (some 9)) (ty := 4) (g := (some (2, true))) (by kernel_rfl) (gd_y (d := 7) (by kernel_rfl) rfl hb17) (f0 := (.func 140)) (aos := #[(.tmp 8)]) (ats := #[3]) (fid := 140) (first := #[]) (cap := #[]) (args := [(.int .i64 x1)]) rfl co_cmp_isNaN_int (rfl) hs14 (c_cmp_isNaN_int N w13 F2 hs14.pers (x1) _ hr20) ?_
   intro v22 F3 w23 hs24 le25 hp26
   obtain rfl := hp26
   refine Vg 10 4 2 true 7 hb17 (run_not (t := 4) (x := (.tmp 9)) (a := r19) rfl) ?_
   refine V 11 4 (p1 7 (.tmp 10) (.const (.bool false)) (.bool (!r19)) hb17) ?_
   refine V 12 4 (mv 11 (.bool (!r19))) ?_
   refine RWP.split (!r19) (fun hb27 => ?_) (fun hb27 => ?_)
   ·have h28 := cond_t h21 hb27
    refine Sk [13, 14, 15] 7 false 12 hb27 ?_
    refine V 16 4 (p1 12 (.const (.bool true)) (.tmp 15) (.bool true) hb27) ?_
    refine V 4 4 (ma 16 (.bool true)) ?_
    obtain rfl := some_inj h28
    exact RWP.nil ⟨rfl, F3, hs24, (le15.trans le25), rfl, rfl⟩
   ·have h29 := cond_f h21 hb27
    refine Vg 13 3 7 false 12 hb27 (mv 0 (.int .i64 x0)) ?_
    refine Vg 14 3 7 false 12 hb27 (mv 1 (.int .i64 x1)) ?_
    refine Vg 15 4 7 false 12 hb27 (run_lss (t := 3) (t' := 3) (x := (.tmp 13)) (y := (.tmp 14)) (k := .i64) (a := x0) (b := x1) rfl rfl) ?_
    refine V 16 4 (p0 12 (.const (.bool true)) (.tmp 15) (.bool (decide (x0 < x1))) hb27) ?_
    refine V 4 4 (ma 16 (.bool (decide (x0 < x1)))) ?_
    obtain rfl := some_inj h29
    exact RWP.nil ⟨rfl, F3, hs24, (le15.trans le25), rfl, rfl⟩
  ·have h30 := cond_f h11 hb17
   refine Sk [8, 9, 10] 2 true 7 hb17 ?_
   refine V 11 4 (p0 7 (.tmp 10) (.const (.bool false)) (.bool false) hb17) ?_
   refine V 12 4 (mv 11 (.bool false)) ?_
   refine Vg 13 3 7 false 12 rfl (mv 0 (.int .i64 x0)) ?_
   refine Vg 14 3 7 false 12 rfl (mv 1 (.int .i64 x1)) ?_
   refine Vg 15 4 7 false 12 rfl (run_lss (t := 3) (t' := 3) (x := (.tmp 13)) (y := (.tmp 14)) (k := .i64) (a := x0) (b := x1) rfl rfl) ?_
   refine V 16 4 (p0 12 (.const (.bool true)) (.tmp 15) (.bool (decide (x0 < x1))) rfl) ?_
   refine V 4 4 (ma 16 (.bool (decide (x0 < x1)))) ?_
   obtain rfl := some_inj h30
   exact RWP.nil ⟨rfl, F2, hs14, le15, rfl, rfl⟩
 ·rintro f w1 ⟨F1, hs2, le3, e5, e6⟩
  refine thenQ_nrm ?_
  refine CWP.ret (by kernel_rfl) ?_
  have hfin := some_inj h8
  subst hfin
  exact ⟨e5, (.bool j4), res_of (l := [.tmp 4]) (by kernel_rfl) (vs := [(.bool j4)]) ⟨e6, trivial⟩, (.bool j4), F1, rfl, hs2.clear, rfl⟩
end Go.Proofs.Ythbcnabeabcmlaa
namespace Go.Proofs.Ythbcnabeabcmlaa
open Go.Proofs
def slices_isNaN_int (N : Nat) (x0 : Int) : Option Bool :=
 some (x0 != x0)
theorem co_slices_isNaN_int : CallOk Try.prog 138 := fun _ _ => by kernel_rfl
set_option maxHeartbeats 4000000 in
set_option maxRecDepth 100000 in
theorem c_slices_isNaN_int (N : Nat) (w0 : World) (F0 : Mem) (hF : ∀ b o, F0 b = some o → w0.heap[b]? = some o) (x0 : Int) (r : Bool) (h : slices_isNaN_int N x0 = some r) :
  Calls Try.prog 138 ([(.int .i64 x0)] : List Value).toArray w0 (FRet w0 F0 fun F' v => v = (.bool r)) := by
 have hs0 := HS.start hF
 refine calls_of (n := 6) (c := bodyOf Try.f138) Try.func138 (by kernel_rfl) (by kernel_rfl) (by kernel_rfl) ?_
 refine Sq (Rg [0] ?_)
 refine V 2 4 (mc (.bool false) (.bool false)) ?_
 refine Nss (Rg [0, 1, 2, 3] ?_)
 refine V 3 3 (mv 0 (.int .i64 x0)) ?_
 refine V 4 3 (mv 0 (.int .i64 x0)) ?_
 refine V 5 4 (run_neq (t := 3) (t' := 3) (x := (.tmp 3)) (y := (.tmp 4)) (k := .i64) (a := x0) (b := x0) rfl rfl) ?_
 refine V 2 4 (ma 5 (.bool (x0 != x0))) ?_
 refine Nt ?_
 refine CWP.ret (by kernel_rfl) ?_
 have hfin := some_inj h
 subst hfin
 exact ⟨rfl, (.bool (x0 != x0)), res_of (l := [.tmp 2]) (by kernel_rfl) (vs := [(.bool (x0 != x0))]) ⟨rfl, trivial⟩, (.bool (x0 != x0)), F0, rfl, hs0.clear, rfl⟩
end Go.Proofs.Ythbcnabeabcmlaa
namespace Go.Proofs.Ythbcnabeabcmlaa
open Go.Proofs
def slices_BinarySearch_int_int_L0 (N : Nat) (x0 : (List Int)) (x1 : Int) : (Int × Int) → Option (Flow (Int × Bool) (Int × Int)) := fun s4 =>
 (bif (decide (s4.1 < s4.2)) then ((idx x0 (W64 (Int.fdiv (IntKind.u64.wrap (W64 (s4.1 + s4.2))) (2 ^ min (1 : Int).toNat IntKind.u64.bits)))).bind fun x31 => ((cmp_Less_int N x31 x1).bind fun r45 => some (.next ((bif r45 then (W64 ((W64 (Int.fdiv (IntKind.u64.wrap (W64 (s4.1 + s4.2))) (2 ^ min (1 : Int).toNat IntKind.u64.bits))) + 1)) else s4.1), (bif r45 then s4.2 else (W64 (Int.fdiv (IntKind.u64.wrap (W64 (s4.1 + s4.2))) (2 ^ min (1 : Int).toNat IntKind.u64.bits)))))))) else some (.done (s4.1, s4.2)))
def slices_BinarySearch_int_int (N : Nat) (x0 : (List Int)) (x1 : Int) : Option (Int × Bool) :=
 ((iter (slices_BinarySearch_int_int_L0 N x0 x1) N (0, (x0.length : Int))).bind fun o => o.k (fun r => some r) (fun s14 => ((bif (decide (s14.1 < (x0.length : Int))) then ((idx x0 s14.1).bind fun x78 => (bif (x78 == x1) then some true else ((idx x0 s14.1).bind fun x95 => ((slices_isNaN_int N x95).bind fun r101 => (bif r101 then ((slices_isNaN_int N x1).bind fun r111 => some r111) else some false))))) else some false).bind fun j70 => some (s14.1, j70))))
theorem co_slices_BinarySearch_int_int : CallOk Try.prog 123 := fun _ _ => by kernel_rfl
set_option maxHeartbeats 4000000 in
set_option maxRecDepth 100000 in
theorem c_slices_BinarySearch_int_int (N : Nat) (w0 : World) (F0 : Mem) (hF : ∀ b o, F0 b = some o → w0.heap[b]? = some o) (x0 : (List Int)) (a0_0 : Option Addr) (n0_0 : Nat) (hb0_0 : LC x0.length n0_0) (hs0_0 : SlA tInt F0 a0_0 x0) (x1 : Int) (r : (Int × Bool)) (h : slices_BinarySearch_int_int N x0 x1 = some r) :
  Calls Try.prog 123 ([(.slice a0_0 x0.length n0_0), (.int .i64 x1)] : List Value).toArray w0 (FRet w0 F0 fun F' v => v = (.tuple #[(.int .i64 r.1), (.bool r.2)])) := by
 have hs0 := HS.start hF
 refine calls_of (n := 54) (c := bodyOf Try.f123) Try.func123 (by kernel_rfl) (by kernel_rfl) (by kernel_rfl) ?_
 refine Sq (Rg [0, 1] ?_)
 refine V 4 3 (mc (.int .i64 0) (.int .i64 0)) ?_
 refine V 5 4 (mc (.bool false) (.bool false)) ?_
 refine Nss (Rg [0, 1, 2] ?_)
 refine V 10 50 (mv 0 (.slice a0_0 x0.length n0_0)) ?_
 refine V 11 3 (ln 10 50 a0_0 x0.length n0_0 3 1 8) ?_
 refine V 6 3 (ma 11 (.int .i64 (x0.length : Int))) ?_
 refine Nss (Rg [0, 1, 2] ?_)
 refine V 12 3 (mv 6 (.int .i64 (x0.length : Int))) ?_
 refine V 7 3 (mc (.int .i64 0) (.int .i64 0)) ?_
 refine V 8 3 (ma 12 (.int .i64 (x0.length : Int))) ?_
 refine Nss ?_
 obtain ⟨o1, ho2, h3⟩ := bind_some h
 refine CWP.cut (fun f w => ∃ (s14 : (Int × Int)) (F2 : Mem), o1 = .done s14 ∧ HS w0 F0 w F2 [] ∧ Mem.le F0 F2 ∧ f.d = [] ∧ f 0 = (.slice a0_0 x0.length n0_0) ∧ f 1 = (.int .i64 x1) ∧ f 6 = (.int .i64 (x0.length : Int)) ∧ f 7 = (.int .i64 s14.1)) ?_ ?_
 ·refine Bk ?_
  refine CWP.loop (by kernel_rfl) (fun m f w => ∃ (s4 : (Int × Int)) (F1 : Mem), iter (slices_BinarySearch_int_int_L0 N x0 x1) m s4 = some o1 ∧ HS w0 F0 w F1 [] ∧ Mem.le F0 F1 ∧ f.d = [] ∧ f 0 = (.slice a0_0 x0.length n0_0) ∧ f 1 = (.int .i64 x1) ∧ f 6 = (.int .i64 (x0.length : Int)) ∧ f 7 = (.int .i64 s4.1) ∧ f 8 = (.int .i64 s4.2)) N ⟨(0, (x0.length : Int)), F0, ho2, hs0, (Mem.le.refl _), rfl, rfl, rfl, rfl, rfl, rfl⟩ ?_
  rintro m23 f w5 ⟨s4, F1, hit24, hs6, le7, e8, e9, e10, e11, e12, e13⟩
  obtain ⟨m25, fl26, rfl, hb27, hnx28⟩ := iter_step hit24
  refine Sq ?_
  refine Sq (Rg [0, 1, 2] ?_)
  refine V 13 3 (mv 7 (.int .i64 s4.1) e12) ?_
  refine V 14 3 (mv 8 (.int .i64 s4.2) e13) ?_
  refine V 15 4 (run_lss (t := 3) (t' := 3) (x := (.tmp 13)) (y := (.tmp 14)) (k := .i64) (a := s4.1) (b := s4.2) rfl rfl) ?_
  refine Nt ?_
  refine CWP.cond (t := (decide (s4.1 < s4.2))) (by kernel_rfl) rfl (fun hb29 => ?_) (fun hb29 => ?_)
  ·have h30 := cond_t hb27 hb29
   refine Sc ?_
   refine thenQ_nrm ?_
   refine Bk ?_
   refine Sq (Rg [0, 1, 2, 3, 4, 5, 6] ?_)
   refine V 16 3 (mv 7 (.int .i64 s4.1) e12) ?_
   refine V 17 3 (mv 8 (.int .i64 s4.2) e13) ?_
   refine V 18 3 (run_add (t := 3) (t' := 3) (x := (.tmp 16)) (y := (.tmp 17)) (k := .i64) (a := s4.1) (b := s4.2) rfl rfl) ?_
   refine V 19 162 (run_convInt (s := 3) (d := 162) (x := (.tmp 18)) (k := .u64) (q := .i64) (a := (W64 (s4.1 + s4.2))) rfl (by kernel_rfl) (by kernel_rfl)) ?_
   refine V 20 162 (run_shr (t := 162) (t' := 162) (x := (.tmp 19)) (y := (.const (.int .u64 1))) (k := .u64) (q := .u64) (a := (IntKind.u64.wrap (W64 (s4.1 + s4.2)))) (b := 1) rfl rfl (by decide)) ?_
   refine V 21 3 (run_convInt (s := 162) (d := 3) (x := (.tmp 20)) (k := .i64) (q := .u64) (a := (Int.fdiv (IntKind.u64.wrap (W64 (s4.1 + s4.2))) (2 ^ min (1 : Int).toNat IntKind.u64.bits))) rfl (by kernel_rfl) (by kernel_rfl)) ?_
   refine V 9 3 (ma 21 (.int .i64 (W64 (Int.fdiv (IntKind.u64.wrap (W64 (s4.1 + s4.2))) (2 ^ min (1 : Int).toNat IntKind.u64.bits))))) ?_
   refine Nss (Rg [0, 1, 2, 3, 4, 5] ?_)
   refine V 22 50 (mv 0 (.slice a0_0 x0.length n0_0) e9) ?_
   refine V 23 3 (mv 9 (.int .i64 (W64 (Int.fdiv (IntKind.u64.wrap (W64 (s4.1 + s4.2))) (2 ^ min (1 : Int).toNat IntKind.u64.bits))))) ?_
   obtain ⟨x31, hx32, h34⟩ := bind_some h30
   obtain ⟨hi33, hx32'⟩ := idx_spec hx32
   obtain ⟨b35, o36, C37, E38, fz39, rfl, hF41, hE42⟩ := SlA.open (SlA.mono hs0_0 le7) hx32'
   have hc44 := hE42 _ _ hx32'
   refine V 24 0 (ix 50 22 23 b35 o36 3 1 8 hi33) ?_
   refine V 25 3 (lx 3 24 0 1 false 1 (.int .i64 x31) (hs6.pers _ _ hF41) hc44) ?_
   refine V 26 3 (mv 1 (.int .i64 x1) e10) ?_
   obtain ⟨r45, hr46, h47⟩ := bind_some h34
   refine Cl 27 4 137 #[(.tmp 25), (.tmp 26)] #[3, 3] co_cmp_Less_int hs6 (c_cmp_Less_int N w5 F1 hs6.pers (x31) (x1) _ hr46) ?_
   intro v48 F3 w49 hs50 le51 hp52
   obtain rfl := hp52
   refine Nt ?_
   refine CWP.cut (fun f w => ∃ (F4 : Mem), HS w0 F0 w F4 [] ∧ Mem.le F3 F4 ∧ f.d = [] ∧ f 0 = (.slice (some ⟨b35, o36, none⟩) x0.length n0_0) ∧ f 1 = (.int .i64 x1) ∧ f 6 = (.int .i64 (x0.length : Int)) ∧ f 7 = (.int .i64 (bif r45 then (W64 ((W64 (Int.fdiv (IntKind.u64.wrap (W64 (s4.1 + s4.2))) (2 ^ min (1 : Int).toNat IntKind.u64.bits))) + 1)) else s4.1)) ∧ f 8 = (.int .i64 (bif r45 then s4.2 else (W64 (Int.fdiv (IntKind.u64.wrap (W64 (s4.1 + s4.2))) (2 ^ min (1 : Int).toNat IntKind.u64.bits)))))) ?_ ?_
   ·refine CWP.cond (t := r45) (by kernel_rfl) rfl (fun hb62 => ?_) (fun hb62 => ?_)
    ·refine Rg [0, 1, 2] ?_
     refine V 28 3 (mv 9 (.int .i64 (W64 (Int.fdiv (IntKind.u64.wrap (W64 (s4.1 + s4.2))) (2 ^ min (1 : Int).toNat IntKind.u64.bits))))) ?_
     refine V 29 3 (run_add (t := 3) (t' := 3) (x := (.tmp 28)) (y := (.const (.int .i64 1))) (k := .i64) (a := (W64 (Int.fdiv (IntKind.u64.wrap (W64 (s4.1 + s4.2))) (2 ^ min (1 : Int).toNat IntKind.u64.bits)))) (b := 1) rfl rfl) ?_
     refine V 7 3 (ma 29 (.int .i64 (W64 ((W64 (Int.fdiv (IntKind.u64.wrap (W64 (s4.1 + s4.2))) (2 ^ min (1 : Int).toNat IntKind.u64.bits))) + 1)))) ?_
     refine RWP.nil ?_
     exact .inl ⟨rfl, F3, hs50, (Mem.le.refl _), e8, e9, e10, e11, (congrArg (Value.int .i64) (bif_t hb62 (rfl))), (e13.trans (congrArg (Value.int .i64) (bif_t hb62 (rfl))))⟩
    ·refine Rg [0, 1] ?_
     refine V 30 3 (mv 9 (.int .i64 (W64 (Int.fdiv (IntKind.u64.wrap (W64 (s4.1 + s4.2))) (2 ^ min (1 : Int).toNat IntKind.u64.bits))))) ?_
     refine V 8 3 (ma 30 (.int .i64 (W64 (Int.fdiv (IntKind.u64.wrap (W64 (s4.1 + s4.2))) (2 ^ min (1 : Int).toNat IntKind.u64.bits))))) ?_
     refine RWP.nil ?_
     exact .inl ⟨rfl, F3, hs50, (Mem.le.refl _), e8, e9, e10, e11, (e12.trans (congrArg (Value.int .i64) (bif_f hb62 (rfl)))), (congrArg (Value.int .i64) (bif_f hb62 (rfl)))⟩
   ·rintro f w53 ⟨F4, hs54, le55, e56, e57, e58, e59, e60, e61⟩
    refine blockQ_nrm ?_
    have hn63 := iter_next h47 hnx28
    exact ⟨m25, Nat.lt_succ_self _, ((bif r45 then (W64 ((W64 (Int.fdiv (IntKind.u64.wrap (W64 (s4.1 + s4.2))) (2 ^ min (1 : Int).toNat IntKind.u64.bits))) + 1)) else s4.1), (bif r45 then s4.2 else (W64 (Int.fdiv (IntKind.u64.wrap (W64 (s4.1 + s4.2))) (2 ^ min (1 : Int).toNat IntKind.u64.bits))))), F4, hn63, hs54, ((le7.trans le51).trans le55), e56, e57, e58, e59, e60, e61⟩
  ·have h64 := cond_f hb27 hb29
   refine CWP.exit (by kernel_rfl) ?_
   refine thenQ_ex ?_
   refine thenQ_ex ?_
   refine blockQ_hit rfl ?_
   have ho65 := iter_done h64 hnx28
   exact .inl ⟨rfl, (s4.1, s4.2), F1, ho65, hs6, le7, e8, e9, e10, e11, e12⟩
 ·rintro f w15 ⟨s14, F2, rfl, hs16, le17, e18, e19, e20, e21, e22⟩
  have h66 := k_done h3
  refine thenQ_nrm ?_
  refine Sq (Rg [0, 1, 2, 3, 4, 5, 6, 7, 8, 9, 10, 11, 12, 13, 14, 15, 16, 17, 18, 19, 20, 21, 22, 23, 24] ?_)
  obtain ⟨j70, hj74, h75⟩ := bind_some h66
  refine RWP.cut (fun f w => ∃ (F5 : Mem), HS w0 F0 w F5 [] ∧ Mem.le F2 F5 ∧ f.d = [] ∧ f 4 = (.int .i64 s14.1) ∧ f 5 = (.bool j70)) ?_ ?_
  ·refine V 31 3 (mv 7 (.int .i64 s14.1) e22) ?_
   refine V 32 3 (mv 7 (.int .i64 s14.1) e22) ?_
   refine V 33 3 (mv 6 (.int .i64 (x0.length : Int)) e21) ?_
   refine V 34 4 (run_lss (t := 3) (t' := 3) (x := (.tmp 32)) (y := (.tmp 33)) (k := .i64) (a := s14.1) (b := (x0.length : Int)) rfl rfl) ?_
   refine V 35 4 (mv 34 (.bool (decide (s14.1 < (x0.length : Int))))) ?_
   refine RWP.split (decide (s14.1 < (x0.length : Int))) (fun hb76 => ?_) (fun hb76 => ?_)
   ·have h77 := cond_t hj74 hb76
    refine Vg 36 50 4 true 35 hb76 (mv 0 (.slice a0_0 x0.length n0_0) e19) ?_
    refine Vg 37 3 4 true 35 hb76 (mv 7 (.int .i64 s14.1) e22) ?_
    obtain ⟨x78, hx79, h81⟩ := bind_some h77
    obtain ⟨hi80, hx79'⟩ := idx_spec hx79
    obtain ⟨b82, o83, C84, E85, fz86, rfl, hF88, hE89⟩ := SlA.open (SlA.mono hs0_0 le17) hx79'
    have hc91 := hE89 _ _ hx79'
    refine Vg 38 0 4 true 35 hb76 (ix 50 36 37 b82 o83 3 1 8 hi80) ?_
    refine Vg 39 3 4 true 35 hb76 (lx 3 38 0 1 false 1 (.int .i64 x78) (hs16.pers _ _ hF88) hc91) ?_
    refine Vg 40 3 4 true 35 hb76 (mv 1 (.int .i64 x1) e20) ?_
    refine Vg 41 4 4 true 35 hb76 (run_eql (t := 3) (t' := 3) (x := (.tmp 39)) (y := (.tmp 40)) (k := .i64) (a := x78) (b := x1) rfl rfl) ?_
    refine Vg 42 4 4 true 35 hb76 (mv 41 (.bool (x78 == x1))) ?_
    refine RWP.split (x78 == x1) (fun hb92 => ?_) (fun hb92 => ?_)
    ·have h93 := cond_t h81 hb92
     refine Sk [43, 44, 45, 46, 47, 48] 11 false 42 hb92 ?_
     refine Su [49, 50] 17 true 48 ?_
     refine Sk [51] 11 false 42 hb92 ?_
     refine Vg 52 4 4 true 35 hb76 (p1 42 (.const (.bool true)) (.tmp 51) (.bool true) hb92) ?_
     refine V 53 4 (p1 35 (.tmp 52) (.const (.bool false)) (.bool true) hb76) ?_
     refine V 4 3 (ma 31 (.int .i64 s14.1)) ?_
     refine V 5 4 (ma 53 (.bool true)) ?_
     obtain rfl := some_inj h93
     exact RWP.nil ⟨rfl, F2, hs16, (Mem.le.refl _), e18, rfl, rfl⟩
    ·have h94 := cond_f h81 hb92
     refine Vg 43 50 11 false 42 hb92 (mv 0 (.slice (some ⟨b82, o83, none⟩) x0.length n0_0) e19) ?_
     refine Vg 44 3 11 false 42 hb92 (mv 7 (.int .i64 s14.1) e22) ?_
     obtain ⟨x95, hx96, h98⟩ := bind_some h94
     obtain ⟨hi97, hx96'⟩ := idx_spec hx96
     have hc100 := hE89 _ _ hx96'
     refine Vg 45 0 11 false 42 hb92 (ix 50 43 44 b82 o83 3 1 8 hi97) ?_
     refine Vg 46 3 11 false 42 hb92 (lx 3 45 0 1 false 1 (.int .i64 x95) (hs16.pers _ _ hF88) hc100) ?_
     obtain ⟨r101, hr102, h103⟩ := bind_some h98
     refine RWP.call (dst := (some 47)) (ty := 4) (g := (some (11, false))) (by kernel_rfl) (gd_y (d := 42) (by kernel_rfl) rfl hb92) (f0 := (.func 138)) (aos := #[(.tmp 46)]) (ats := #[3]) (fid := 138) (first := #[]) (cap := #[]) (args := [(.int .i64 x95)]) rfl co_slices_isNaN_int (rfl) hs16 (c_slices_isNaN_int N w15 F2 hs16.pers (x95) _ hr102) ?_
     intro v104 F6 w105 hs106 le107 hp108
     obtain rfl := hp108
     refine Vg 48 4 11 false 42 hb92 (mv 47 (.bool r101)) ?_
     refine RWP.split r101 (fun hb109 => ?_) (fun hb109 => ?_)
     ·have h110 := cond_t h103 hb109
      refine Vg 49 3 17 true 48 hb109 (mv 1 (.int .i64 x1) e20) ?_
      obtain ⟨r111, hr112, h113⟩ := bind_some h110
      refine RWP.call (dst := (some 50)) (ty := 4) (g := (some (17, true))) (by kernel_rfl) (gd_y (d := 48) (by kernel_rfl) rfl hb109) (f0 := (.func 138)) (aos := #[(.tmp 49)]) (ats := #[3]) (fid := 138) (first := #[]) (cap := #[]) (args := [(.int .i64 x1)]) rfl co_slices_isNaN_int (rfl) hs106 (c_slices_isNaN_int N w105 F6 hs106.pers (x1) _ hr112) ?_
      intro v114 F7 w115 hs116 le117 hp118
      obtain rfl := hp118
      refine Vg 51 4 11 false 42 hb92 (p1 48 (.tmp 50) (.const (.bool false)) (.bool r111) hb109) ?_
      refine Vg 52 4 4 true 35 hb76 (p0 42 (.const (.bool true)) (.tmp 51) (.bool r111) hb92) ?_
      refine V 53 4 (p1 35 (.tmp 52) (.const (.bool false)) (.bool r111) hb76) ?_
      refine V 4 3 (ma 31 (.int .i64 s14.1)) ?_
      refine V 5 4 (ma 53 (.bool r111)) ?_
      obtain rfl := some_inj h113
      exact RWP.nil ⟨rfl, F7, hs116, (le107.trans le117), e18, rfl, rfl⟩
     ·have h119 := cond_f h103 hb109
      refine Sk [49, 50] 17 true 48 hb109 ?_
      refine Vg 51 4 11 false 42 hb92 (p0 48 (.tmp 50) (.const (.bool false)) (.bool false) hb109) ?_
      refine Vg 52 4 4 true 35 hb76 (p0 42 (.const (.bool true)) (.tmp 51) (.bool false) hb92) ?_
      refine V 53 4 (p1 35 (.tmp 52) (.const (.bool false)) (.bool false) hb76) ?_
      refine V 4 3 (ma 31 (.int .i64 s14.1)) ?_
      refine V 5 4 (ma 53 (.bool false)) ?_
      obtain rfl := some_inj h119
      exact RWP.nil ⟨rfl, F6, hs106, le107, e18, rfl, rfl⟩
   ·have h120 := cond_f hj74 hb76
    refine Sk [36, 37, 38, 39, 40, 41, 42] 4 true 35 hb76 ?_
    refine Su [43, 44, 45, 46, 47, 48] 11 false 42 ?_
    refine Su [49, 50] 17 true 48 ?_
    refine Su [51] 11 false 42 ?_
    refine Sk [52] 4 true 35 hb76 ?_
    refine V 53 4 (p0 35 (.tmp 52) (.const (.bool false)) (.bool false) hb76) ?_
    refine V 4 3 (ma 31 (.int .i64 s14.1)) ?_
    refine V 5 4 (ma 53 (.bool false)) ?_
    obtain rfl := some_inj h120
    exact RWP.nil ⟨rfl, F2, hs16, (Mem.le.refl _), e18, rfl, rfl⟩
  ·rintro f w67 ⟨F5, hs68, le69, e71, e72, e73⟩
   refine thenQ_nrm ?_
   refine CWP.ret (by kernel_rfl) ?_
   have hfin := some_inj h75
   subst hfin
   exact ⟨e71, (.tuple #[(.int .i64 s14.1), (.bool j70)]), res_of (l := [.tmp 4, .tmp 5]) (by kernel_rfl) (vs := [(.int .i64 s14.1), (.bool j70)]) ⟨e72, ⟨e73, trivial⟩⟩, (.tuple #[(.int .i64 s14.1), (.bool j70)]), F5, rfl, hs68.clear, rfl⟩
end Go.Proofs.Ythbcnabeabcmlaa
namespace Go.Proofs.Ythbcnabeabcmlaa
open Go.Proofs
def clocks_segment (N : Nat) (x0 : Clock) (x1 : Int) : Option Int :=
 ((slices_BinarySearch_int_int N x0.Jumps (W64 (x1 + 1))).bind fun r4 => some r4.1)
theorem co_clocks_segment : CallOk Try.prog 82 := fun _ _ => by kernel_rfl
set_option maxHeartbeats 4000000 in
set_option maxRecDepth 100000 in
theorem c_clocks_segment (N : Nat) (w0 : World) (F0 : Mem) (hF : ∀ b o, F0 b = some o → w0.heap[b]? = some o) (x0 : Clock) (a0_2 : Option Addr) (n0_2 : Nat) (hb0_2 : LC x0.Jumps.length n0_2) (hs0_2 : SlA tInt F0 a0_2 x0.Jumps) (x1 : Int) (r : Int) (h : clocks_segment N x0 x1 = some r) :
  Calls Try.prog 82 ([(.agg #[(.int .i64 x0.Slip), (.int .i64 x0.Drift), (.slice a0_2 x0.Jumps.length n0_2)]), (.int .i64 x1)] : List Value).toArray w0 (FRet w0 F0 fun F' v => v = (.int .i64 r)) := by
 have hs0 := HS.start hF
 refine calls_of (n := 16) (c := bodyOf Try.f82) Try.func82 (by kernel_rfl) (by kernel_rfl) (by kernel_rfl) ?_
 refine Sq (Rg [0, 1] ?_)
 refine Bx 2 0 0 52 #[(.int .i64 x0.Slip), (.int .i64 x0.Drift), (.slice a0_2 x0.Jumps.length n0_2)] hs0 (fun b1 w2 (hs3 : HS w0 F0 w2 F0 [(some b1, (.cells #[(.int .i64 x0.Slip), (.int .i64 x0.Drift), (.slice a0_2 x0.Jumps.length n0_2)] 52 (0, 0)))]) => ?_)
 refine V 4 3 (mc (.int .i64 0) (.int .i64 0)) ?_
 refine Nss (Rg [0, 1, 2, 3, 4, 5, 6, 7, 8, 9] ?_)
 refine V 8 0 (fa 52 2 2 2 1 b1 0 2) ?_
 refine V 9 50 (ld 50 8 b1 2 false 1 (.slice a0_2 x0.Jumps.length n0_2) (hs3.ownAt (k := 0) rfl)) ?_
 refine V 10 3 (mv 1 (.int .i64 x1)) ?_
 refine V 11 3 (run_add (t := 3) (t' := 3) (x := (.tmp 10)) (y := (.const (.int .i64 1))) (k := .i64) (a := x1) (b := 1) rfl rfl) ?_
 obtain ⟨r4, hr5, h6⟩ := bind_some h
 refine Cl 12 149 123 #[(.tmp 9), (.tmp 11)] #[50, 3] co_slices_BinarySearch_int_int hs3 (c_slices_BinarySearch_int_int N w2 F0 hs3.pers (x0.Jumps) a0_2 n0_2 hb0_2 hs0_2 ((W64 (x1 + 1))) _ hr5) ?_
 intro v7 F1 w8 hs9 le10 hp11
 obtain rfl := hp11
 refine V 7 149 (mv 12 (.tuple #[(.int .i64 r4.1), (.bool r4.2)])) ?_
 refine V 13 3 (ex 7 0 (.int .i64 r4.1) (vs := #[(.int .i64 r4.1), (.bool r4.2)])) ?_
 refine V 14 4 (ex 7 1 (.bool r4.2) (vs := #[(.int .i64 r4.1), (.bool r4.2)])) ?_
 refine V 5 3 (ma 13 (.int .i64 r4.1)) ?_
 refine V 6 4 (ma 14 (.bool r4.2)) ?_
 refine Nss (Rg [0, 1] ?_)
 refine V 15 3 (mv 5 (.int .i64 r4.1)) ?_
 refine V 4 3 (ma 15 (.int .i64 r4.1)) ?_
 refine Nt ?_
 refine CWP.ret (by kernel_rfl) ?_
 have hfin := some_inj h6
 subst hfin
 exact ⟨rfl, (.int .i64 r4.1), res_of (l := [.tmp 4]) (by kernel_rfl) (vs := [(.int .i64 r4.1)]) ⟨rfl, trivial⟩, (.int .i64 r4.1), F1, rfl, hs9.clear, rfl⟩
end Go.Proofs.Ythbcnabeabcmlaa
namespace Go.Proofs.Ythbcnabeabcmlaa
open Go.Proofs
def clocks_Segment (N : Nat) (x0 : Clock) (x1 : Int) : Option (Int × Int) :=
 (((clocks_ValidClock N x0).bind fun r14 => (bif (!r14) then some true else ((clocks_within N x1 0 20000).bind fun r25 => some (!r25)))).bind fun j7 => (bif j7 then some (0, 1) else ((clocks_segment N x0 x1).bind fun r36 => some (r36, 0))))
theorem co_clocks_Segment : CallOk Try.prog 32 := fun _ _ => by kernel_rfl
set_option maxHeartbeats 4000000 in
set_option maxRecDepth 100000 in
theorem c_clocks_Segment (N : Nat) (w0 : World) (F0 : Mem) (hF : ∀ b o, F0 b = some o → w0.heap[b]? = some o) (x0 : Clock) (a0_2 : Option Addr) (n0_2 : Nat) (hb0_2 : LC x0.Jumps.length n0_2) (hs0_2 : SlA tInt F0 a0_2 x0.Jumps) (x1 : Int) (r : (Int × Int)) (h : clocks_Segment N x0 x1 = some r) :
  Calls Try.prog 32 ([(.agg #[(.int .i64 x0.Slip), (.int .i64 x0.Drift), (.slice a0_2 x0.Jumps.length n0_2)]), (.int .i64 x1)] : List Value).toArray w0 (FRet w0 F0 fun F' v => v = (.tuple #[(.int .i64 r.1), (.int .i64 r.2)])) := by
 have hs0 := HS.start hF
 refine calls_of (n := 17) (c := bodyOf Try.f32) Try.func32 (by kernel_rfl) (by kernel_rfl) (by kernel_rfl) ?_
 refine Sq (Rg [0, 1, 2] ?_)
 refine Bx 2 0 0 52 #[(.int .i64 x0.Slip), (.int .i64 x0.Drift), (.slice a0_2 x0.Jumps.length n0_2)] hs0 (fun b1 w2 (hs3 : HS w0 F0 w2 F0 [(some b1, (.cells #[(.int .i64 x0.Slip), (.int .i64 x0.Drift), (.slice a0_2 x0.Jumps.length n0_2)] 52 (0, 0)))]) => ?_)
 refine V 4 3 (mc (.int .i64 0) (.int .i64 0)) ?_
 refine V 5 30 (mc (.int .i64 0) (.int .i64 0)) ?_
 refine Nss ?_
 refine Sq (Rg [0, 1, 2, 3, 4, 5, 6, 7] ?_)
 obtain ⟨j7, hj12, h13⟩ := bind_some h
 refine RWP.cut (fun f w => ∃ (F1 : Mem), HS w0 F0 w F1 [(some b1, (.cells #[(.int .i64 x0.Slip), (.int .i64 x0.Drift), (.slice a0_2 x0.Jumps.length n0_2)] 52 (0, 0)))] ∧ Mem.le F0 F1 ∧ f.d = [] ∧ f 1 = (.int .i64 x1) ∧ f 2 = (.pointer (some ⟨b1, 0, none⟩)) ∧ f 13 = (.bool j7)) ?_ ?_
 ·refine V 6 52 (ld 52 2 b1 0 true 3 (.agg #[(.int .i64 x0.Slip), (.int .i64 x0.Drift), (.slice a0_2 x0.Jumps.length n0_2)]) (hs3.ownAt (k := 0) rfl)) ?_
  obtain ⟨r14, hr15, h16⟩ := bind_some hj12
  refine Cl 7 4 36 #[(.tmp 6)] #[52] co_clocks_ValidClock hs3 (c_clocks_ValidClock N w2 F0 hs3.pers (x0) a0_2 n0_2 hb0_2 hs0_2 _ hr15) ?_
  intro v17 F2 w18 hs19 le20 hp21
  obtain rfl := hp21
  refine V 8 4 (run_not (t := 4) (x := (.tmp 7)) (a := r14) rfl) ?_
  refine V 9 4 (mv 8 (.bool (!r14))) ?_
  refine RWP.split (!r14) (fun hb22 => ?_) (fun hb22 => ?_)
  ·have h23 := cond_t h16 hb22
   refine Sk [10, 11, 12] 3 false 9 hb22 ?_
   refine V 13 4 (p1 9 (.const (.bool true)) (.tmp 12) (.bool true) hb22) ?_
   obtain rfl := some_inj h23
   exact RWP.nil ⟨rfl, F2, hs19, le20, rfl, rfl, rfl, rfl⟩
  ·have h24 := cond_f h16 hb22
   refine Vg 10 3 3 false 9 hb22 (mv 1 (.int .i64 x1)) ?_
   obtain ⟨r25, hr26, h27⟩ := bind_some h24
   refine RWP.call (dst := (some 11)) (ty := 4) (g := (some (3, false))) (by kernel_rfl) (gd_y (d := 9) (by kernel_rfl) rfl hb22) (f0 := (.func 67)) (aos := #[(.tmp 10), (.const (.int .i64 0)), (.const (.int .i64 20000))]) (ats := #[3, 3, 3]) (fid := 67) (first := #[]) (cap := #[]) (args := [(.int .i64 x1), (.int .i64 0), (.int .i64 20000)]) rfl co_clocks_within (rfl) hs19 (c_clocks_within N w18 F2 hs19.pers (x1) (0) (20000) _ hr26) ?_
   intro v28 F3 w29 hs30 le31 hp32
   obtain rfl := hp32
   refine Vg 12 4 3 false 9 hb22 (run_not (t := 4) (x := (.tmp 11)) (a := r25) rfl) ?_
   refine V 13 4 (p0 9 (.const (.bool true)) (.tmp 12) (.bool (!r25)) hb22) ?_
   obtain rfl := some_inj h27
   exact RWP.nil ⟨rfl, F3, hs30, (le20.trans le31), rfl, rfl, rfl, rfl⟩
 ·rintro f w4 ⟨F1, hs5, le6, e8, e9, e10, e11⟩
  refine thenQ_nrm ?_
  refine CWP.cond (t := j7) (by kernel_rfl) e11 (fun hb33 => ?_) (fun hb33 => ?_)
  ·have h34 := cond_t h13 hb33
   refine Sq (Rg [0, 1] ?_)
   refine V 4 3 (mc (.int .i64 0) (.int .i64 0)) ?_
   refine V 5 30 (mc (.int .i64 1) (.int .i64 1)) ?_
   refine Nt ?_
   refine CWP.ret (by kernel_rfl) ?_
   refine thenQ_ret ?_
   have hfin := some_inj h34
   subst hfin
   exact ⟨e8, (.tuple #[(.int .i64 0), (.int .i64 1)]), res_of (l := [.tmp 4, .tmp 5]) (by kernel_rfl) (vs := [(.int .i64 0), (.int .i64 1)]) ⟨rfl, ⟨rfl, trivial⟩⟩, (.tuple #[(.int .i64 0), (.int .i64 1)]), F1, rfl, hs5.clear, rfl⟩
  ·have h35 := cond_f h13 hb33
   refine Sc ?_
   refine thenQ_nrm ?_
   refine Sq (Rg [0, 1, 2, 3, 4] ?_)
   refine V 14 52 (ld 52 2 b1 0 true 3 (.agg #[(.int .i64 x0.Slip), (.int .i64 x0.Drift), (.slice a0_2 x0.Jumps.length n0_2)]) (hs5.ownAt (k := 0) rfl) e10) ?_
   refine V 15 3 (mv 1 (.int .i64 x1) e9) ?_
   obtain ⟨r36, hr37, h38⟩ := bind_some h35
   refine Cl 16 3 82 #[(.tmp 14), (.tmp 15)] #[52, 3] co_clocks_segment hs5 (c_clocks_segment N w4 F1 hs5.pers (x0) a0_2 n0_2 hb0_2 (SlA.mono hs0_2 le6) (x1) _ hr37) ?_
   intro v39 F4 w40 hs41 le42 hp43
   obtain rfl := hp43
   refine V 4 3 (ma 16 (.int .i64 r36)) ?_
   refine V 5 30 (mc (.int .i64 0) (.int .i64 0)) ?_
   refine Nt ?_
   refine CWP.ret (by kernel_rfl) ?_
   have hfin := some_inj h38
   subst hfin
   exact ⟨e8, (.tuple #[(.int .i64 r36), (.int .i64 0)]), res_of (l := [.tmp 4, .tmp 5]) (by kernel_rfl) (vs := [(.int .i64 r36), (.int .i64 0)]) ⟨rfl, ⟨rfl, trivial⟩⟩, (.tuple #[(.int .i64 r36), (.int .i64 0)]), F4, rfl, hs41.clear, rfl⟩
end Go.Proofs.Ythbcnabeabcmlaa
namespace Go.Proofs.Ythbcnabeabcmlaa
open Go.Proofs
def ref03_Segment_L0 (N : Nat) (x0 : Clock) (x1 : Int) (j7 : (Bool)) : (Int × Int) → Option (Flow (Int × Int) (Int × Int)) := fun s39 =>
 (bif (decide (s39.2 < (x0.Jumps.length : Int))) then ((idx x0.Jumps s39.2).bind fun x62 => some (.next ((bif (decide (x62 ≤ x1)) then (W64 (s39.1 + 1)) else s39.1), (W64 (s39.2 + 1))))) else some (.done (s39.1, s39.2)))
def ref03_Segment (N : Nat) (x0 : Clock) (x1 : Int) : Option (Int × Int) :=
 (((ref03_ValidClock N x0).bind fun r14 => (bif (!r14) then some true else ((ref03_within N x1 0 20000).bind fun r25 => some (!r25)))).bind fun j7 => (bif j7 then some (0, 1) else ((iter (ref03_Segment_L0 N x0 x1 j7) N (0, 0)).bind fun o => o.k (fun r => some r) (fun s48 => some (s48.1, 0)))))
theorem co_ref03_Segment : CallOk Try.prog 33 := fun _ _ => by kernel_rfl
set_option maxHeartbeats 4000000 in
set_option maxRecDepth 100000 in
theorem c_ref03_Segment (N : Nat) (w0 : World) (F0 : Mem) (hF : ∀ b o, F0 b = some o → w0.heap[b]? = some o) (x0 : Clock) (a0_2 : Option Addr) (n0_2 : Nat) (hb0_2 : LC x0.Jumps.length n0_2) (hs0_2 : SlA tInt F0 a0_2 x0.Jumps) (x1 : Int) (r : (Int × Int)) (h : ref03_Segment N x0 x1 = some r) :
  Calls Try.prog 33 ([(.agg #[(.int .i64 x0.Slip), (.int .i64 x0.Drift), (.slice a0_2 x0.Jumps.length n0_2)]), (.int .i64 x1)] : List Value).toArray w0 (FRet w0 F0 fun F' v => v = (.tuple #[(.int .i64 r.1), (.int .i64 r.2)])) := by
 have hs0 := HS.start hF
 refine calls_of (n := 33) (c := bodyOf Try.f33) Try.func33 (by kernel_rfl) (by kernel_rfl) (by kernel_rfl) ?_
 refine Sq (Rg [0, 1, 2] ?_)
 refine Bx 2 0 0 52 #[(.int .i64 x0.Slip), (.int .i64 x0.Drift), (.slice a0_2 x0.Jumps.length n0_2)] hs0 (fun b1 w2 (hs3 : HS w0 F0 w2 F0 [(some b1, (.cells #[(.int .i64 x0.Slip), (.int .i64 x0.Drift), (.slice a0_2 x0.Jumps.length n0_2)] 52 (0, 0)))]) => ?_)
 refine V 4 3 (mc (.int .i64 0) (.int .i64 0)) ?_
 refine V 5 30 (mc (.int .i64 0) (.int .i64 0)) ?_
 refine Nss ?_
 refine Sq (Rg [0, 1, 2, 3, 4, 5, 6, 7] ?_)
 obtain ⟨j7, hj12, h13⟩ := bind_some h
 refine RWP.cut (fun f w => ∃ (F1 : Mem), HS w0 F0 w F1 [(some b1, (.cells #[(.int .i64 x0.Slip), (.int .i64 x0.Drift), (.slice a0_2 x0.Jumps.length n0_2)] 52 (0, 0)))] ∧ Mem.le F0 F1 ∧ f.d = [] ∧ f 1 = (.int .i64 x1) ∧ f 2 = (.pointer (some ⟨b1, 0, none⟩)) ∧ f 15 = (.bool j7)) ?_ ?_
 ·refine V 8 52 (ld 52 2 b1 0 true 3 (.agg #[(.int .i64 x0.Slip), (.int .i64 x0.Drift), (.slice a0_2 x0.Jumps.length n0_2)]) (hs3.ownAt (k := 0) rfl)) ?_
  obtain ⟨r14, hr15, h16⟩ := bind_some hj12
  refine Cl 9 4 37 #[(.tmp 8)] #[52] co_ref03_ValidClock hs3 (c_ref03_ValidClock N w2 F0 hs3.pers (x0) a0_2 n0_2 hb0_2 hs0_2 _ hr15) ?_
  intro v17 F2 w18 hs19 le20 hp21
  obtain rfl := hp21
  refine V 10 4 (run_not (t := 4) (x := (.tmp 9)) (a := r14) rfl) ?_
  refine V 11 4 (mv 10 (.bool (!r14))) ?_
  refine RWP.split (!r14) (fun hb22 => ?_) (fun hb22 => ?_)
  ·have h23 := cond_t h16 hb22
   refine Sk [12, 13, 14] 3 false 11 hb22 ?_
   refine V 15 4 (p1 11 (.const (.bool true)) (.tmp 14) (.bool true) hb22) ?_
   obtain rfl := some_inj h23
   exact RWP.nil ⟨rfl, F2, hs19, le20, rfl, rfl, rfl, rfl⟩
  ·have h24 := cond_f h16 hb22
   refine Vg 12 3 3 false 11 hb22 (mv 1 (.int .i64 x1)) ?_
   obtain ⟨r25, hr26, h27⟩ := bind_some h24
   refine RWP.call (dst := (some 13)) (ty := 4) (g := (some (3, false))) (by kernel_rfl) (gd_y (d := 11) (by kernel_rfl) rfl hb22) (f0 := (.func 83)) (aos := #[(.tmp 12), (.const (.int .i64 0)), (.const (.int .i64 20000))]) (ats := #[3, 3, 3]) (fid := 83) (first := #[]) (cap := #[]) (args := [(.int .i64 x1), (.int .i64 0), (.int .i64 20000)]) rfl co_ref03_within (rfl) hs19 (c_ref03_within N w18 F2 hs19.pers (x1) (0) (20000) _ hr26) ?_
   intro v28 F3 w29 hs30 le31 hp32
   obtain rfl := hp32
   refine Vg 14 4 3 false 11 hb22 (run_not (t := 4) (x := (.tmp 13)) (a := r25) rfl) ?_
   refine V 15 4 (p0 11 (.const (.bool true)) (.tmp 14) (.bool (!r25)) hb22) ?_
   obtain rfl := some_inj h27
   exact RWP.nil ⟨rfl, F3, hs30, (le20.trans le31), rfl, rfl, rfl, rfl⟩
 ·rintro f w4 ⟨F1, hs5, le6, e8, e9, e10, e11⟩
  refine thenQ_nrm ?_
  refine CWP.cond (t := j7) (by kernel_rfl) e11 (fun hb33 => ?_) (fun hb33 => ?_)
  ·have h34 := cond_t h13 hb33
   refine Sq (Rg [0, 1] ?_)
   refine V 4 3 (mc (.int .i64 0) (.int .i64 0)) ?_
   refine V 5 30 (mc (.int .i64 1) (.int .i64 1)) ?_
   refine Nt ?_
   refine CWP.ret (by kernel_rfl) ?_
   refine thenQ_ret ?_
   have hfin := some_inj h34
   subst hfin
   exact ⟨e8, (.tuple #[(.int .i64 0), (.int .i64 1)]), res_of (l := [.tmp 4, .tmp 5]) (by kernel_rfl) (vs := [(.int .i64 0), (.int .i64 1)]) ⟨rfl, ⟨rfl, trivial⟩⟩, (.tuple #[(.int .i64 0), (.int .i64 1)]), F1, rfl, hs5.clear, rfl⟩
  ·have h35 := cond_f h13 hb33
   refine Sc ?_
   refine thenQ_nrm ?_
   refine Sq (Rg [0] ?_)
   refine V 6 3 (mc (.int .i64 0) (.int .i64 0)) ?_
   refine Nss ?_
   refine Sq (Rg [0] ?_)
   refine V 7 3 (mc (.int .i64 0) (.int .i64 0)) ?_
   refine Nt ?_
   obtain ⟨o36, ho37, h38⟩ := bind_some h35
   refine CWP.cut (fun f w => ∃ (s48 : (Int × Int)) (F5 : Mem), o36 = .done s48 ∧ HS w0 F0 w F5 [] ∧ Mem.le F1 F5 ∧ f.d = [] ∧ f 6 = (.int .i64 s48.1)) ?_ ?_
   ·refine Bk ?_
    refine CWP.loop (by kernel_rfl) (fun m f w => ∃ (s39 : (Int × Int)) (F4 : Mem), iter (ref03_Segment_L0 N x0 x1 j7) m s39 = some o36 ∧ HS w0 F0 w F4 [(some b1, (.cells #[(.int .i64 x0.Slip), (.int .i64 x0.Drift), (.slice a0_2 x0.Jumps.length n0_2)] 52 (0, 0)))] ∧ Mem.le F1 F4 ∧ f.d = [] ∧ f 1 = (.int .i64 x1) ∧ f 2 = (.pointer (some ⟨b1, 0, none⟩)) ∧ f 6 = (.int .i64 s39.1) ∧ f 7 = (.int .i64 s39.2)) N ⟨(0, 0), F1, ho37, hs5, (Mem.le.refl _), e8, e9, e10, rfl, rfl⟩ ?_
    rintro m54 f w40 ⟨s39, F4, hit55, hs41, le42, e43, e44, e45, e46, e47⟩
    obtain ⟨m56, fl57, rfl, hb58, hnx59⟩ := iter_step hit55
    refine Sq ?_
    refine Sq (Rg [0, 1, 2, 3, 4] ?_)
    refine V 16 3 (mv 7 (.int .i64 s39.2) e47) ?_
    refine V 17 0 (fa 52 2 2 2 1 b1 0 2 e45) ?_
    refine V 18 50 (ld 50 17 b1 2 false 1 (.slice a0_2 x0.Jumps.length n0_2) (hs41.ownAt (k := 0) rfl)) ?_
    refine V 19 3 (ln 18 50 a0_2 x0.Jumps.length n0_2 3 1 8) ?_
    refine V 20 4 (run_lss (t := 3) (t' := 3) (x := (.tmp 16)) (y := (.tmp 19)) (k := .i64) (a := s39.2) (b := (x0.Jumps.length : Int)) rfl rfl) ?_
    refine Nt ?_
    refine CWP.cond (t := (decide (s39.2 < (x0.Jumps.length : Int)))) (by kernel_rfl) rfl (fun hb60 => ?_) (fun hb60 => ?_)
    ·have h61 := cond_t hb58 hb60
     refine Sc ?_
     refine thenQ_nrm ?_
     refine Sq ?_
     refine Bk ?_
     refine Sq (Rg [0, 1, 2, 3, 4, 5, 6] ?_)
     refine V 23 0 (fa 52 2 2 2 1 b1 0 2 e45) ?_
     refine V 24 50 (ld 50 23 b1 2 false 1 (.slice a0_2 x0.Jumps.length n0_2) (hs41.ownAt (k := 0) rfl)) ?_
     refine V 25 3 (mv 7 (.int .i64 s39.2) e47) ?_
     obtain ⟨x62, hx63, h65⟩ := bind_some h61
     obtain ⟨hi64, hx63'⟩ := idx_spec hx63
     obtain ⟨b66, o67, C68, E69, fz70, rfl, hF72, hE73⟩ := SlA.open (SlA.mono hs0_2 (le6.trans le42)) hx63'
     have hc75 := hE73 _ _ hx63'
     refine V 26 0 (ix 50 24 25 b66 o67 3 1 8 hi64) ?_
     refine V 27 3 (lx 3 26 0 1 false 1 (.int .i64 x62) (hs41.pers _ _ hF72) hc75) ?_
     refine V 28 3 (mv 1 (.int .i64 x1) e44) ?_
     refine V 29 4 (run_leq (t := 3) (t' := 3) (x := (.tmp 27)) (y := (.tmp 28)) (k := .i64) (a := x62) (b := x1) rfl rfl) ?_
     refine Nt ?_
     refine CWP.cut (fun f w => ∃ (F6 : Mem), HS w0 F0 w F6 [(some b1, (.cells #[(.int .i64 x0.Slip), (.int .i64 x0.Drift), (.slice (some ⟨b66, o67, none⟩) x0.Jumps.length n0_2)] 52 (0, 0)))] ∧ Mem.le F4 F6 ∧ f.d = [] ∧ f 1 = (.int .i64 x1) ∧ f 2 = (.pointer (some ⟨b1, 0, none⟩)) ∧ f 6 = (.int .i64 (bif (decide (x62 ≤ x1)) then (W64 (s39.1 + 1)) else s39.1)) ∧ f 7 = (.int .i64 s39.2)) ?_ ?_
     ·refine CWP.cond (t := (decide (x62 ≤ x1))) (by kernel_rfl) rfl (fun hb84 => ?_) (fun hb84 => ?_)
      ·refine Rg [0, 1, 2] ?_
       refine V 30 3 (mv 6 (.int .i64 s39.1) e46) ?_
       refine V 31 3 (run_add (t := 3) (t' := 3) (x := (.tmp 30)) (y := (.const (.int .i64 1))) (k := .i64) (a := s39.1) (b := 1) rfl rfl) ?_
       refine V 6 3 (ma 31 (.int .i64 (W64 (s39.1 + 1)))) ?_
       refine RWP.nil ?_
       exact .inl ⟨rfl, F4, hs41, (Mem.le.refl _), e43, e44, e45, (congrArg (Value.int .i64) (bif_t hb84 (rfl))), e47⟩
      ·refine Sc ?_
       exact .inl ⟨rfl, F4, hs41, (Mem.le.refl _), e43, e44, e45, (e46.trans (congrArg (Value.int .i64) (bif_f hb84 (rfl)))), e47⟩
     ·rintro f w76 ⟨F6, hs77, le78, e79, e80, e81, e82, e83⟩
      refine blockQ_nrm ?_
      refine thenQ_nrm ?_
      refine Rg [0, 1, 2] ?_
      refine V 21 3 (mv 7 (.int .i64 s39.2) e83) ?_
      refine V 22 3 (run_add (t := 3) (t' := 3) (x := (.tmp 21)) (y := (.const (.int .i64 1))) (k := .i64) (a := s39.2) (b := 1) rfl rfl) ?_
      refine V 7 3 (ma 22 (.int .i64 (W64 (s39.2 + 1)))) ?_
      refine RWP.nil ?_
      have hn85 := iter_next h65 hnx59
      exact ⟨m56, Nat.lt_succ_self _, ((bif (decide (x62 ≤ x1)) then (W64 (s39.1 + 1)) else s39.1), (W64 (s39.2 + 1))), F6, hn85, hs77, (le42.trans le78), e79, e80, e81, e82, rfl⟩
    ·have h86 := cond_f hb58 hb60
     refine CWP.exit (by kernel_rfl) ?_
     refine thenQ_ex ?_
     refine thenQ_ex ?_
     refine blockQ_hit rfl ?_
     have hs87 : HS w0 F0 w40 F4 [] := hs41.drop 0
     have ho88 := iter_done h86 hnx59
     exact .inl ⟨rfl, (s39.1, s39.2), F4, ho88, hs87, le42, e43, e46⟩
   ·rintro f w49 ⟨s48, F5, rfl, hs50, le51, e52, e53⟩
    have h89 := k_done h38
    refine thenQ_nrm ?_
    refine Sq (Rg [0, 1, 2] ?_)
    refine V 32 3 (mv 6 (.int .i64 s48.1) e53) ?_
    refine V 4 3 (ma 32 (.int .i64 s48.1)) ?_
    refine V 5 30 (mc (.int .i64 0) (.int .i64 0)) ?_
    refine Nt ?_
    refine CWP.ret (by kernel_rfl) ?_
    have hfin := some_inj h89
    subst hfin
    exact ⟨e52, (.tuple #[(.int .i64 s48.1), (.int .i64 0)]), res_of (l := [.tmp 4, .tmp 5]) (by kernel_rfl) (vs := [(.int .i64 s48.1), (.int .i64 0)]) ⟨rfl, ⟨rfl, trivial⟩⟩, (.tuple #[(.int .i64 s48.1), (.int .i64 0)]), F5, rfl, hs50.clear, rfl⟩
end Go.Proofs.Ythbcnabeabcmlaa
namespace Go.Proofs.Ythbcnabeabcmlaa
open Go.Proofs
def clocks_beginning (N : Nat)  : Option Ref :=
 some ({ Log := (-1), Line := 0 } : Ref)
theorem co_clocks_beginning : CallOk Try.prog 108 := fun _ _ => by kernel_rfl
set_option maxHeartbeats 4000000 in
set_option maxRecDepth 100000 in
theorem c_clocks_beginning (N : Nat) (w0 : World) (F0 : Mem) (hF : ∀ b o, F0 b = some o → w0.heap[b]? = some o)  (r : Ref) (h : clocks_beginning N  = some r) :
  Calls Try.prog 108 ([] : List Value).toArray w0 (FRet w0 F0 fun F' v => v = (.agg #[(.int .i64 r.Log), (.int .i64 r.Line)])) := by
 have hs0 := HS.start hF
 refine calls_of (n := 2) (c := bodyOf Try.f108) Try.func108 (by kernel_rfl) (by kernel_rfl) (by kernel_rfl) ?_
 refine Sq (Rg [0] ?_)
 refine Al 0 0 27 #[(.int .i64 0), (.int .i64 0)] hs0 (fun b1 w2 (hs3 : HS w0 F0 w2 F0 [(some b1, (.cells #[(.int .i64 0), (.int .i64 0)] 27 (0, 0)))]) => ?_)
 refine Nss (Rg [0, 1] ?_)
 refine V 1 27 (run_build2 (t := 27) (parts := #[(0, (.const (.int .i64 (-1))))]) (vs := [(0, (.int .i64 (-1)))]) (rfl) (cs := [(.int .i64 (-1)), (.int .i64 0)]) (by kernel_rfl)) ?_
 refine RWP.store (ty := 0) (g := none) (by kernel_rfl) rfl (x := (.tmp 0)) (y := (.tmp 1)) (t := 27) (gg := true) (s := 2) (v := (.agg #[(.int .i64 (-1)), (.int .i64 0)])) (b := b1) (o := 0) (C := #[(.int .i64 0), (.int .i64 0)]) rfl rfl (by kernel_rfl) hs3 (k := 0) rfl rfl rfl rfl (C' := #[(.int .i64 (-1)), (.int .i64 0)]) rfl (fun w4 (hs5 : HS w0 F0 w4 F0 [(some b1, (.cells #[(.int .i64 (-1)), (.int .i64 0)] 27 (0, 0)))]) => ?_)
 refine Nt ?_
 refine CWP.ret (by kernel_rfl) ?_
 have hfin := some_inj h
 subst hfin
 exact ⟨rfl, (.agg #[(.int .i64 (-1)), (.int .i64 0)]), res_of (l := [.cell 0 27]) (by kernel_rfl) (vs := [(.agg #[(.int .i64 (-1)), (.int .i64 0)])]) ⟨b1, 0, rfl, run_loadVar' (t := 27) (g := true) (s := 2) (by kernel_rfl) (hs5.ownAt (k := 0) rfl) rfl (by decide), trivial⟩, (.agg #[(.int .i64 (-1)), (.int .i64 0)]), F0, rfl, hs5.clear, rfl⟩
end Go.Proofs.Ythbcnabeabcmlaa
