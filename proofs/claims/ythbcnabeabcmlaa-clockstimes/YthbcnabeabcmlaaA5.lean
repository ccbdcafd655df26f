/- Lemmas of the claim ClocksTimes, printed by a program of the claimant and by hand. No statement of the seat is proved here. -/
import Derived.Test.YthbcnabeabcmlaaA4
set_option linter.unusedVariables false
set_option linter.unusedSimpArgs false
set_option linter.unusedSectionVars false
namespace Go.Proofs.Ythbcnabeabcmlaa
open Go.Proofs
def clocks_Offset (N : Nat) (x0 : System) (x1 : Ref) : Option (Span × Int) :=
 ((clocks_Interval N x0 x1).bind fun r10 => (bif (r10.2 != 0) then some (({ Lo := 0, Hi := 0 } : Span), r10.2) else (((idx x0.Tracks x1.Log).bind fun x40 => ((idx x40.Times x1.Line).bind fun x54 => some x54)).bind fun j33 => some (({ Lo := (W64 (j33 - r10.1.Hi)), Hi := (W64 (j33 - r10.1.Lo)) } : Span), 0))))
theorem co_clocks_Offset : CallOk Try.prog 24 := fun _ _ => by kernel_rfl
set_option maxHeartbeats 4000000 in
set_option maxRecDepth 100000 in
theorem c_clocks_Offset (N : Nat) (w0 : World) (F0 : Mem) (hF : ∀ b o, F0 b = some o → w0.heap[b]? = some o) (x0 : System) (a0_0 : Option Addr) (n0_0 : Nat) (hb0_0 : LC x0.Tracks.length n0_0) (hs0_0 : SlA tTrack F0 a0_0 x0.Tracks) (a0_1 : Option Addr) (n0_1 : Nat) (hb0_1 : LC x0.Ties.length n0_1) (hs0_1 : SlA tTie F0 a0_1 x0.Ties) (x1 : Ref) (r : (Span × Int)) (h : clocks_Offset N x0 x1 = some r) :
  Calls Try.prog 24 ([(.agg (kSystem x0 a0_0 n0_0 a0_1 n0_1)), (.agg (kRef x1))] : List Value).toArray w0 (FRet w0 F0 fun F' v => v = (.tuple #[(.agg (kSpan r.1)), (vi r.2)])) := by
 have hs0 := HS.start hF
 refine calls_of (n := 39) (c := bodyOf Try.f24) Try.func24 (by kernel_rfl) (by kernel_rfl) (by kernel_rfl) ?_
 refine Sq (Rg [0, 1, 2, 3] ?_)
 refine Bx 2 0 0 25 (kSystem x0 a0_0 n0_0 a0_1 n0_1) hs0 (fun b1 w2 (hs3 : HS w0 F0 w2 F0 [(sb b1 (kSystem x0 a0_0 n0_0 a0_1 n0_1) 25)]) => ?_)
 refine Bx 3 0 1 27 (kRef x1) hs3 (fun b4 w5 (hs6 : HS w0 F0 w5 F0 [(sb b4 (kRef x1) 27), (sb b1 (kSystem x0 a0_0 n0_0 a0_1 n0_1) 25)]) => ?_)
 refine Al 4 0 38 #[(vi 0), (vi 0)] hs6 (fun b7 w8 (hs9 : HS w0 F0 w8 F0 [(sb b7 #[(vi 0), (vi 0)] 38), (sb b4 (kRef x1) 27), (sb b1 (kSystem x0 a0_0 n0_0 a0_1 n0_1) 25)]) => ?_)
 refine V 5 30 (mc (vi 0) (vi 0)) ?_
 refine Nss (Rg [0, 1, 2, 3, 4, 5, 6, 7, 8] ?_)
 refine V 10 25 (ld 25 2 b1 0 true 3 (.agg (kSystem x0 a0_0 n0_0 a0_1 n0_1)) (hs9.ownAt (k := 2) rfl)) ?_
 refine V 11 27 (ld 27 3 b4 0 true 2 (.agg (kRef x1)) (hs9.ownAt (k := 1) rfl)) ?_
 obtain ⟨r10, hr11, h12⟩ := bind_some h
 refine Cl 12 39 21 #[(.tmp 10), (.tmp 11)] #[25, 27] co_clocks_Interval hs9 (c_clocks_Interval N w8 F0 hs9.pers (x0) a0_0 n0_0 hb0_0 hs0_0 a0_1 n0_1 hb0_1 hs0_1 (x1) _ hr11) ?_
 intro v13 F1 w14 hs15 le16 hp17
 obtain rfl := hp17
 refine V 9 39 (mv 12 (.tuple #[(.agg (kSpan r10.1)), (vi r10.2)])) ?_
 refine V 13 38 (ex 9 0 (.agg (kSpan r10.1)) (vs := #[(.agg (kSpan r10.1)), (vi r10.2)])) ?_
 refine V 14 30 (ex 9 1 (vi r10.2) (vs := #[(.agg (kSpan r10.1)), (vi r10.2)])) ?_
 refine Al 6 0 38 #[(vi 0), (vi 0)] hs15 (fun b18 w19 (hs20 : HS w0 F0 w19 F1 [(sb b18 #[(vi 0), (vi 0)] 38), (sb b7 #[(vi 0), (vi 0)] 38), (sb b4 (kRef x1) 27), (sb b1 (kSystem x0 a0_0 n0_0 a0_1 n0_1) 25)]) => ?_)
 refine RWP.store (ty := 0) (g := none) (by kernel_rfl) rfl (x := (.tmp 6)) (y := (.tmp 13)) (t := 38) (gg := true) (s := 2) (v := (.agg (kSpan r10.1))) (b := b18) (o := 0) (C := #[(vi 0), (vi 0)]) rfl rfl (by kernel_rfl) hs20 (k := 0) rfl rfl rfl rfl (C' := (kSpan r10.1)) rfl (fun w21 (hs22 : HS w0 F0 w21 F1 [(sb b18 (kSpan r10.1) 38), (sb b7 #[(vi 0), (vi 0)] 38), (sb b4 (kRef x1) 27), (sb b1 (kSystem x0 a0_0 n0_0 a0_1 n0_1) 25)]) => ?_)
 refine V 7 30 (ma 14 (vi r10.2)) ?_
 refine Nss ?_
 refine Sq (Rg [0, 1] ?_)
 refine V 15 30 (mv 7 (vi r10.2)) ?_
 refine V 16 4 (run_neq (t := 30) (t' := 30) (x := (.tmp 15)) (y := (.const (vi 0))) (k := .i64) (a := r10.2) (b := 0) rfl rfl) ?_
 refine Nt ?_
 refine CWP.cond (t := (r10.2 != 0)) (by kernel_rfl) rfl (fun hb23 => ?_) (fun hb23 => ?_)
 ·have h24 := cond_t h12 hb23
  refine Sq (Rg [0, 1, 2, 3] ?_)
  refine V 17 38 (run_build2 (t := 38) (parts := #[]) (vs := []) (rfl) (cs := [(vi 0), (vi 0)]) (by kernel_rfl)) ?_
  refine V 18 30 (mv 7 (vi r10.2)) ?_
  refine RWP.store (ty := 0) (g := none) (by kernel_rfl) rfl (x := (.tmp 4)) (y := (.tmp 17)) (t := 38) (gg := true) (s := 2) (v := (.agg #[(vi 0), (vi 0)])) (b := b7) (o := 0) (C := #[(vi 0), (vi 0)]) rfl rfl (by kernel_rfl) hs22 (k := 1) rfl rfl rfl rfl (C' := #[(vi 0), (vi 0)]) rfl (fun w25 (hs26 : HS w0 F0 w25 F1 [(sb b18 (kSpan r10.1) 38), (sb b7 #[(vi 0), (vi 0)] 38), (sb b4 (kRef x1) 27), (sb b1 (kSystem x0 a0_0 n0_0 a0_1 n0_1) 25)]) => ?_)
  refine V 5 30 (ma 18 (vi r10.2)) ?_
  refine Nt ?_
  refine CWP.ret (by kernel_rfl) ?_
  refine thenQ_ret ?_
  have hfin := some_inj h24
  subst hfin
  exact ⟨rfl, (.tuple #[(.agg #[(vi 0), (vi 0)]), (vi r10.2)]), res_of (l := [.cell 4 38, .tmp 5]) (by kernel_rfl) (vs := [(.agg #[(vi 0), (vi 0)]), (vi r10.2)]) ⟨b7, 0, rfl, run_loadVar' (t := 38) (g := true) (s := 2) (by kernel_rfl) (hs26.ownAt (k := 1) rfl) rfl (by decide), ⟨rfl, trivial⟩⟩, (.tuple #[(.agg #[(vi 0), (vi 0)]), (vi r10.2)]), F1, rfl, hs26.clear, rfl⟩
 ·have h27 := cond_f h12 hb23
  refine Sc ?_
  refine thenQ_nrm ?_
  refine Sq ?_
  obtain ⟨j33, hj38, h39⟩ := bind_some h27
  refine CWP.regionD (by kernel_rfl) (by kernel_rfl) (by kernel_rfl) (by kernel_rfl) (z := 12) (F := F1) (Lc := [(sb b18 (kSpan r10.1) 38), (sb b7 #[(vi 0), (vi 0)] 38), (sb b4 (kRef x1) 27), (sb b1 (kSystem x0 a0_0 n0_0 a0_1 n0_1) 25)]) (Lz := []) (l := [false, false, false, false, false, false, false, false, false, false, false, false]) (fuel := 12) (by kernel_rfl) (by kernel_rfl) hs22 (by simp) (by simp) (fun f w => ∃ (F2 : Mem), HS w0 F0 w F2 [(sb b18 (kSpan r10.1) 38), (sb b7 #[(vi 0), (vi 0)] 38)] ∧ Mem.le F1 F2 ∧ f.d = [] ∧ f 4 = (.pointer (some ⟨b7, 0, none⟩)) ∧ f 6 = (.pointer (some ⟨b18, 0, none⟩)) ∧ f 8 = (vi j33)) (fun wd28 hw29 => ?_) ?_
  ·refine Dt 0 19 0 (.pointer (some ⟨b1, 0, none⟩)) (fun _ hq => fa 25 2 0 0 1 b1 0 0) ?_
   refine Dt 1 20 22 _ (fun _ hq => ld 22 19 b1 0 false 1 (.slice a0_0 x0.Tracks.length n0_0) (hq.1.2 3 _ _ rfl)) ?_
   refine Dt 2 21 0 (.pointer (some ⟨b4, 0, none⟩)) (fun _ hq => fa 27 3 0 0 1 b4 0 0) ?_
   refine Dt 3 22 3 _ (fun _ hq => ld 3 21 b4 0 false 1 (vi x1.Log) (hq.1.2 2 _ _ rfl)) ?_
   obtain ⟨x40, hx41, h43⟩ := bind_some hj38
   obtain ⟨hi42, hx41'⟩ := idx_spec hx41
   obtain ⟨b44, o45, C46, E47, fz48, rfl, hF50, hE51⟩ := SlA.open (SlA.mono hs0_0 le16) hx41'
   obtain ⟨ae52_2, ne52_2, ae52_3, ne52_3, hc53, hbe52_2, hse52_2, hbe52_3, hse52_3⟩ := hE51 _ _ hx41'
   refine Dt 4 23 0 (.pointer (some ⟨b44, (o45 + (x1.Log : Int).toNat * 4), none⟩)) (fun _ hq => ix 22 20 22 b44 o45 54 4 64 hi42) ?_
   refine Dt 5 24 0 (.pointer (some ⟨b44, ((o45 + (x1.Log : Int).toNat * 4) + 3), none⟩)) (fun _ hq => fa 54 23 1 3 1 b44 (o45 + (x1.Log : Int).toNat * 4) ((o45 + (x1.Log : Int).toNat * 4) + 3)) ?_
   refine Dt 6 25 50 _ (fun _ hq => lx 50 24 3 4 false 1 (.slice ae52_3 x40.Times.length ne52_3) (hq.1.1 _ _ hF50) hc53) ?_
   refine Dt 7 26 0 (.pointer (some ⟨b4, 1, none⟩)) (fun _ hq => fa 27 3 1 1 1 b4 0 1) ?_
   refine Dt 8 27 3 _ (fun _ hq => ld 3 26 b4 1 false 1 (vi x1.Line) (hq.1.2 2 _ _ rfl)) ?_
   obtain ⟨x54, hx55, h57⟩ := bind_some h43
   obtain ⟨hi56, hx55'⟩ := idx_spec hx55
   obtain ⟨b58, o59, C60, E61, fz62, rfl, hF64, hE65⟩ := SlA.open hse52_3 hx55'
   have hc67 := hE65 _ _ hx55'
   refine Dt 9 28 0 (.pointer (some ⟨b58, (o59 + (x1.Line : Int).toNat * 1), none⟩)) (fun _ hq => ix 50 25 27 b58 o59 3 1 8 hi56) ?_
   refine Dt 10 29 3 _ (fun _ hq => lx 3 28 0 1 false 1 (vi x54) (hq.1.1 _ _ hF64) hc67) ?_
   refine Dt 11 8 3 _ (fun _ hq => ma 29 (vi x54)) ?_
   obtain rfl := some_inj h57
   have hs68 : HS w0 F0 wd28 F1 [(sb b18 (kSpan r10.1) 38), (sb b7 #[(vi 0), (vi 0)] 38), (sb b1 (kSystem x0 (some ⟨b44, o45, none⟩) n0_0 a0_1 n0_1) 25)] := hw29.drop 2
   have hs69 : HS w0 F0 wd28 F1 [(sb b18 (kSpan r10.1) 38), (sb b7 #[(vi 0), (vi 0)] 38)] := hs68.drop 2
   exact DWP.done (by kernel_rfl) ⟨F1, hs69, (Mem.le.refl _), rfl, rfl, rfl, rfl⟩
  ·rintro f w30 ⟨F2, hs31, le32, e34, e35, e36, e37⟩
   refine thenQ_nrm ?_
   refine Sq (Rg [0, 1, 2, 3, 4, 5, 6, 7, 8, 9, 10] ?_)
   refine V 30 3 (mv 8 (vi j33) e37) ?_
   refine V 31 0 (fa 38 6 1 1 1 b18 0 1 e36) ?_
   refine V 32 3 (ld 3 31 b18 1 false 1 (vi r10.1.Hi) (hs31.ownAt (k := 0) rfl)) ?_
   refine V 33 3 (run_sub (t := 3) (t' := 3) (x := (.tmp 30)) (y := (.tmp 32)) (k := .i64) (a := j33) (b := r10.1.Hi) rfl rfl) ?_
   refine V 34 3 (mv 8 (vi j33) e37) ?_
   refine V 35 0 (fa 38 6 0 0 1 b18 0 0 e36) ?_
   refine V 36 3 (ld 3 35 b18 0 false 1 (vi r10.1.Lo) (hs31.ownAt (k := 0) rfl)) ?_
   refine V 37 3 (run_sub (t := 3) (t' := 3) (x := (.tmp 34)) (y := (.tmp 36)) (k := .i64) (a := j33) (b := r10.1.Lo) rfl rfl) ?_
   refine V 38 38 (run_build2 (t := 38) (parts := #[(0, (.tmp 33)), (1, (.tmp 37))]) (vs := [(0, (vi (W64 (j33 - r10.1.Hi)))), (1, (vi (W64 (j33 - r10.1.Lo))))]) (rfl) (cs := [(vi (W64 (j33 - r10.1.Hi))), (vi (W64 (j33 - r10.1.Lo)))]) (by kernel_rfl)) ?_
   refine RWP.store (ty := 0) (g := none) (by kernel_rfl) rfl (x := (.tmp 4)) (y := (.tmp 38)) (t := 38) (gg := true) (s := 2) (v := (.agg #[(vi (W64 (j33 - r10.1.Hi))), (vi (W64 (j33 - r10.1.Lo)))])) (b := b7) (o := 0) (C := #[(vi 0), (vi 0)]) e35 rfl (by kernel_rfl) hs31 (k := 1) rfl rfl rfl rfl (C' := #[(vi (W64 (j33 - r10.1.Hi))), (vi (W64 (j33 - r10.1.Lo)))]) rfl (fun w70 (hs71 : HS w0 F0 w70 F2 [(sb b18 (kSpan r10.1) 38), (sb b7 #[(vi (W64 (j33 - r10.1.Hi))), (vi (W64 (j33 - r10.1.Lo)))] 38)]) => ?_)
   refine V 5 30 (mc (vi 0) (vi 0)) ?_
   refine Nt ?_
   refine CWP.ret (by kernel_rfl) ?_
   have hfin := some_inj h39
   subst hfin
   exact ⟨e34, (.tuple #[(.agg #[(vi (W64 (j33 - r10.1.Hi))), (vi (W64 (j33 - r10.1.Lo)))]), (vi 0)]), res_of (l := [.cell 4 38, .tmp 5]) (by kernel_rfl) (vs := [(.agg #[(vi (W64 (j33 - r10.1.Hi))), (vi (W64 (j33 - r10.1.Lo)))]), (vi 0)]) ⟨b7, 0, e35, run_loadVar' (t := 38) (g := true) (s := 2) (by kernel_rfl) (hs71.ownAt (k := 1) rfl) rfl (by decide), ⟨rfl, trivial⟩⟩, (.tuple #[(.agg #[(vi (W64 (j33 - r10.1.Hi))), (vi (W64 (j33 - r10.1.Lo)))]), (vi 0)]), F2, rfl, hs71.clear, rfl⟩
end Go.Proofs.Ythbcnabeabcmlaa
namespace Go.Proofs.Ythbcnabeabcmlaa
open Go.Proofs
end Go.Proofs.Ythbcnabeabcmlaa
namespace Go.Proofs.Ythbcnabeabcmlaa
open Go.Proofs
end Go.Proofs.Ythbcnabeabcmlaa
namespace Go.Proofs.Ythbcnabeabcmlaa
open Go.Proofs
end Go.Proofs.Ythbcnabeabcmlaa
namespace Go.Proofs.Ythbcnabeabcmlaa
open Go.Proofs
end Go.Proofs.Ythbcnabeabcmlaa
namespace Go.Proofs.Ythbcnabeabcmlaa
open Go.Proofs
def clocks_Before (N : Nat) (x0 : System) (x1 : Ref) (x2 : Ref) : Option (Bool × Int) :=
 ((clocks_Relation N x0 x1 x2).bind fun r10 => some (((r10.2 == 0) && (decide (r10.1.Lo > 0))), r10.2))
theorem co_clocks_Before : CallOk Try.prog 30 := fun _ _ => by kernel_rfl
set_option maxHeartbeats 4000000 in
set_option maxRecDepth 100000 in
theorem c_clocks_Before (N : Nat) (w0 : World) (F0 : Mem) (hF : ∀ b o, F0 b = some o → w0.heap[b]? = some o) (x0 : System) (a0_0 : Option Addr) (n0_0 : Nat) (hb0_0 : LC x0.Tracks.length n0_0) (hs0_0 : SlA tTrack F0 a0_0 x0.Tracks) (a0_1 : Option Addr) (n0_1 : Nat) (hb0_1 : LC x0.Ties.length n0_1) (hs0_1 : SlA tTie F0 a0_1 x0.Ties) (x1 : Ref) (x2 : Ref) (r : (Bool × Int)) (h : clocks_Before N x0 x1 x2 = some r) :
  Calls Try.prog 30 ([(.agg (kSystem x0 a0_0 n0_0 a0_1 n0_1)), (.agg (kRef x1)), (.agg (kRef x2))] : List Value).toArray w0 (FRet w0 F0 fun F' v => v = (.tuple #[(.bool r.1), (vi r.2)])) := by
 have hs0 := HS.start hF
 refine calls_of (n := 25) (c := bodyOf Try.f30) Try.func30 (by kernel_rfl) (by kernel_rfl) (by kernel_rfl) ?_
 refine Sq (Rg [0, 1, 2, 3, 4] ?_)
 refine Bx 3 0 0 25 (kSystem x0 a0_0 n0_0 a0_1 n0_1) hs0 (fun b1 w2 (hs3 : HS w0 F0 w2 F0 [(sb b1 (kSystem x0 a0_0 n0_0 a0_1 n0_1) 25)]) => ?_)
 refine Bx 4 0 1 27 (kRef x1) hs3 (fun b4 w5 (hs6 : HS w0 F0 w5 F0 [(sb b4 (kRef x1) 27), (sb b1 (kSystem x0 a0_0 n0_0 a0_1 n0_1) 25)]) => ?_)
 refine Bx 5 0 2 27 (kRef x2) hs6 (fun b7 w8 (hs9 : HS w0 F0 w8 F0 [(sb b7 (kRef x2) 27), (sb b4 (kRef x1) 27), (sb b1 (kSystem x0 a0_0 n0_0 a0_1 n0_1) 25)]) => ?_)
 refine V 6 4 (mc (.bool false) (.bool false)) ?_
 refine V 7 30 (mc (vi 0) (vi 0)) ?_
 refine Nss (Rg [0, 1, 2, 3, 4, 5, 6, 7, 8, 9] ?_)
 refine V 11 25 (ld 25 3 b1 0 true 3 (.agg (kSystem x0 a0_0 n0_0 a0_1 n0_1)) (hs9.ownAt (k := 2) rfl)) ?_
 refine V 12 27 (ld 27 4 b4 0 true 2 (.agg (kRef x1)) (hs9.ownAt (k := 1) rfl)) ?_
 refine V 13 27 (ld 27 5 b7 0 true 2 (.agg (kRef x2)) (hs9.ownAt (k := 0) rfl)) ?_
 obtain ⟨r10, hr11, h12⟩ := bind_some h
 refine Cl 14 39 20 #[(.tmp 11), (.tmp 12), (.tmp 13)] #[25, 27, 27] co_clocks_Relation hs9 (c_clocks_Relation N w8 F0 hs9.pers (x0) a0_0 n0_0 hb0_0 hs0_0 a0_1 n0_1 hb0_1 hs0_1 (x1) (x2) _ hr11) ?_
 intro v13 F1 w14 hs15 le16 hp17
 obtain rfl := hp17
 refine V 10 39 (mv 14 (.tuple #[(.agg (kSpan r10.1)), (vi r10.2)])) ?_
 refine V 15 38 (ex 10 0 (.agg (kSpan r10.1)) (vs := #[(.agg (kSpan r10.1)), (vi r10.2)])) ?_
 refine V 16 30 (ex 10 1 (vi r10.2) (vs := #[(.agg (kSpan r10.1)), (vi r10.2)])) ?_
 refine Al 8 0 38 #[(vi 0), (vi 0)] hs15 (fun b18 w19 (hs20 : HS w0 F0 w19 F1 [(sb b18 #[(vi 0), (vi 0)] 38), (sb b7 (kRef x2) 27), (sb b4 (kRef x1) 27), (sb b1 (kSystem x0 a0_0 n0_0 a0_1 n0_1) 25)]) => ?_)
 refine RWP.store (ty := 0) (g := none) (by kernel_rfl) rfl (x := (.tmp 8)) (y := (.tmp 15)) (t := 38) (gg := true) (s := 2) (v := (.agg (kSpan r10.1))) (b := b18) (o := 0) (C := #[(vi 0), (vi 0)]) rfl rfl (by kernel_rfl) hs20 (k := 0) rfl rfl rfl rfl (C' := (kSpan r10.1)) rfl (fun w21 (hs22 : HS w0 F0 w21 F1 [(sb b18 (kSpan r10.1) 38), (sb b7 (kRef x2) 27), (sb b4 (kRef x1) 27), (sb b1 (kSystem x0 a0_0 n0_0 a0_1 n0_1) 25)]) => ?_)
 refine V 9 30 (ma 16 (vi r10.2)) ?_
 refine Nss (Rg [0, 1, 2, 3, 4, 5, 6, 7, 8, 9] ?_)
 refine RWP.cut (fun f w => ∃ (F2 : Mem), HS w0 F0 w F2 [] ∧ Mem.le F1 F2 ∧ f.d = [] ∧ f 6 = (.bool ((r10.2 == 0) && (decide (r10.1.Lo > 0)))) ∧ f 7 = (vi r10.2)) ?_ ?_
 ·refine V 17 30 (mv 9 (vi r10.2)) ?_
  refine V 18 4 (run_eql (t := 30) (t' := 30) (x := (.tmp 17)) (y := (.const (vi 0))) (k := .i64) (a := r10.2) (b := 0) rfl rfl) ?_
  refine V 19 4 (mv 18 (.bool (r10.2 == 0))) ?_
  refine RWP.split (r10.2 == 0) (fun hb29 => ?_) (fun hb29 => ?_)
  ·refine Vg 20 0 2 true 19 hb29 (fa 38 8 0 0 1 b18 0 0) ?_
   refine Vg 21 3 2 true 19 hb29 (ld 3 20 b18 0 false 1 (vi r10.1.Lo) (hs22.ownAt (k := 0) rfl)) ?_
   refine Vg 22 4 2 true 19 hb29 (run_gtr (t := 3) (t' := 3) (x := (.tmp 21)) (y := (.const (vi 0))) (k := .i64) (a := r10.1.Lo) (b := 0) rfl rfl) ?_
   refine V 23 4 (p1 19 (.tmp 22) (.const (.bool false)) (.bool (decide (r10.1.Lo > 0))) hb29) ?_
   refine V 24 30 (mv 9 (vi r10.2)) ?_
   refine V 6 4 (ma 23 (.bool (decide (r10.1.Lo > 0)))) ?_
   refine V 7 30 (ma 24 (vi r10.2)) ?_
   have hs30 : HS w0 F0 w21 F1 [(sb b7 (kRef x2) 27), (sb b4 (kRef x1) 27), (sb b1 (kSystem x0 a0_0 n0_0 a0_1 n0_1) 25)] := hs22.drop 0
   have hs31 : HS w0 F0 w21 F1 [(sb b4 (kRef x1) 27), (sb b1 (kSystem x0 a0_0 n0_0 a0_1 n0_1) 25)] := hs30.drop 0
   have hs32 : HS w0 F0 w21 F1 [(sb b1 (kSystem x0 a0_0 n0_0 a0_1 n0_1) 25)] := hs31.drop 0
   have hs33 : HS w0 F0 w21 F1 [] := hs32.drop 0
   exact RWP.nil ⟨rfl, F1, hs33, (Mem.le.refl _), rfl, (congrArg Value.bool (and_t hb29 (rfl))), rfl⟩
  ·refine Sk [20, 21, 22] 2 true 19 hb29 ?_
   refine V 23 4 (p0 19 (.tmp 22) (.const (.bool false)) (.bool false) hb29) ?_
   refine V 24 30 (mv 9 (vi r10.2)) ?_
   refine V 6 4 (ma 23 (.bool false)) ?_
   refine V 7 30 (ma 24 (vi r10.2)) ?_
   have hs34 : HS w0 F0 w21 F1 [(sb b7 (kRef x2) 27), (sb b4 (kRef x1) 27), (sb b1 (kSystem x0 a0_0 n0_0 a0_1 n0_1) 25)] := hs22.drop 0
   have hs35 : HS w0 F0 w21 F1 [(sb b4 (kRef x1) 27), (sb b1 (kSystem x0 a0_0 n0_0 a0_1 n0_1) 25)] := hs34.drop 0
   have hs36 : HS w0 F0 w21 F1 [(sb b1 (kSystem x0 a0_0 n0_0 a0_1 n0_1) 25)] := hs35.drop 0
   have hs37 : HS w0 F0 w21 F1 [] := hs36.drop 0
   exact RWP.nil ⟨rfl, F1, hs37, (Mem.le.refl _), rfl, (congrArg Value.bool (and_f hb29 (rfl))), rfl⟩
 ·rintro f w23 ⟨F2, hs24, le25, e26, e27, e28⟩
  refine thenQ_nrm ?_
  refine CWP.ret (by kernel_rfl) ?_
  have hfin := some_inj h12
  subst hfin
  exact ⟨e26, (.tuple #[(.bool ((r10.2 == 0) && (decide (r10.1.Lo > 0)))), (vi r10.2)]), res_of (l := [.tmp 6, .tmp 7]) (by kernel_rfl) (vs := [(.bool ((r10.2 == 0) && (decide (r10.1.Lo > 0)))), (vi r10.2)]) ⟨e27, ⟨e28, trivial⟩⟩, (.tuple #[(.bool ((r10.2 == 0) && (decide (r10.1.Lo > 0)))), (vi r10.2)]), F2, rfl, hs24.clear, rfl⟩
end Go.Proofs.Ythbcnabeabcmlaa
namespace Go.Proofs.Ythbcnabeabcmlaa
open Go.Proofs
end Go.Proofs.Ythbcnabeabcmlaa
namespace Go.Proofs.Ythbcnabeabcmlaa
open BF
section
variable {N : Nat} {s : System}
theorem asked_r (hN : 1000000 ≤ N) (hf : FitS N s) {l : List Ref} (hl : Fit N l.length) : ref03_asked N s l = some (ask s l) := by
 unfold ref03_asked ask
 rw [check_r hf]
 simp only [Option.bind_some]
 by_cases h : vCheck s = 0
 ·rw [if_neg (by omega)]
  have e : (vCheck s != 0) = false := by simp [h]
  rw [e, cond_false]
  have h1 := hl.1
  rw [iter_check' (n := l.length) (atB l (vHas s)) 3 (fun i hi => by
   unfold ref03_asked_L0
   rw [lt_t hi, cond_true, idx_nat hi]
   simp only [Option.bind_some, has_r hf, atB_at hi]
   rw [W64_succ (by omega)]
   cases vHas s l[i] <;> rfl) (by unfold ref03_asked_L0; rw [lt_f]; rfl) hl.2]
  rw [← all_allB]
  cases l.all (vHas s) with
  | false => rfl
  | true =>
   simp only [cond_true, Closes_eq h hf hN, Option.bind_some]
   by_cases hc : Cls s
   ·simp [hc]
   ·simp [hc]
 ·rw [if_pos h]
  have e : (vCheck s != 0) = true := by simpa using h
  rw [e]; rfl
end
end Go.Proofs.Ythbcnabeabcmlaa
namespace Go.Proofs.Ythbcnabeabcmlaa
open Go.Proofs
def ref03_backward_L0 (N : Nat) (x0 : System) (r4 : Spot) (r17 : (List Bound)) (r25 : List Int) : (Int × List Int) → Option (Flow (List Int) (Int × List Int)) := fun s39 =>
 (bif (decide (s39.1 < r4.n_)) then ((idx s39.2 s39.1).bind fun x64 => some (.next ((W64 (s39.1 + 1)), (s39.2.set (s39.1 : Int).toNat (1125899906842624))))) else some (.done (s39.1, s39.2)))
def ref03_backward_L2 (N : Nat) (x0 : System) (r4 : Spot) (r17 : (List Bound)) (r25 : List Int) (s48 : (Int × List Int)) (s87 : (Bool × List Int)) : (Bool × Int × List Int) → Option (Flow (List Int) (Bool × Int × List Int)) := fun s113 =>
 (bif (decide (s113.2.1 < (r17.length : Int))) then (((idx r17 s113.2.1).bind fun x155 => ((ref03_spot_of N r4 x155.From).bind fun r169 => some r169)).bind fun j145 => (((idx r17 s113.2.1).bind fun x193 => ((ref03_spot_of N r4 x193.To).bind fun r207 => some r207)).bind fun j182 => (((idx s113.2.2 j182).bind fun x232 => (bif (decide (x232 < 1125899906842624)) then ((idx s113.2.2 j182).bind fun x246 => ((idx r17 s113.2.1).bind fun x257 => ((idx s113.2.2 j145).bind fun x271 => some (decide ((W64 (x246 + x257.Most)) < x271))))) else some false)).bind fun j220 => ((bif j220 then (((idx s113.2.2 j182).bind fun x310 => ((idx r17 s113.2.1).bind fun x322 => ((idx s113.2.2 j145).bind fun x336 => some (s113.2.2.set (j145 : Int).toNat ((W64 (x310 + x322.Most))))))).bind fun j302 => some (j302, true)) else some (s113.2.2, s113.1)).bind fun j286 => some (.next (j286.2, (W64 (s113.2.1 + 1)), j286.1)))))) else some (.done (s113.1, s113.2.1, s113.2.2)))
def ref03_backward_L1 (N : Nat) (x0 : System) (r4 : Spot) (r17 : (List Bound)) (r25 : List Int) (s48 : (Int × List Int)) : (Bool × List Int) → Option (Flow (List Int) (Bool × List Int)) := fun s87 =>
 (bif s87.1 then ((iter (ref03_backward_L2 N x0 r4 r17 r25 s48 s87) N (false, 0, s87.2)).bind fun o => o.k (fun r => some (.ret r)) (fun s123 => some (.next (s123.1, s123.2.2)))) else some (.done (s87.1, s87.2)))
def ref03_backward (N : Nat) (x0 : System) : Option (List Int) :=
 ((ref03_spots N x0).bind fun r4 => ((ref03_bounds N x0).bind fun r17 => ((mk0 0 r4.n_).bind fun r25 => ((iter (ref03_backward_L0 N x0 r4 r17 r25) N (1, r25)).bind fun o => o.k (fun r => some r) (fun s48 => ((iter (ref03_backward_L1 N x0 r4 r17 r25 s48) N (true, s48.2)).bind fun o => o.k (fun r => some r) (fun s96 => some s96.2)))))))
theorem co_ref03_backward : CallOk Try.prog 93 := fun _ _ => by kernel_rfl
set_option maxHeartbeats 4000000 in
set_option maxRecDepth 100000 in
theorem c_ref03_backward (N : Nat) (w0 : World) (F0 : Mem) (hF : ∀ b o, F0 b = some o → w0.heap[b]? = some o) (x0 : System) (a0_0 : Option Addr) (n0_0 : Nat) (hb0_0 : LC x0.Tracks.length n0_0) (hs0_0 : SlA tTrack F0 a0_0 x0.Tracks) (a0_1 : Option Addr) (n0_1 : Nat) (hb0_1 : LC x0.Ties.length n0_1) (hs0_1 : SlA tTie F0 a0_1 x0.Ties) (r : (List Int)) (h : ref03_backward N x0 = some r) :
  Calls Try.prog 93 ([(.agg (kSystem x0 a0_0 n0_0 a0_1 n0_1))] : List Value).toArray w0 (FRet w0 F0 fun F' v => ∃ (aq0_0 : Option Addr) (nq0_0 : Nat), v = (.slice aq0_0 r.length nq0_0) ∧ LC r.length nq0_0 ∧ SlA tInt F' aq0_0 r) := by
 have hs0 := HS.start hF
 refine calls_of (n := 84) (c := bodyOf Try.f93) Try.func93 (by kernel_rfl) (by kernel_rfl) (by kernel_rfl) ?_
 refine Sq (Rg [0, 1] ?_)
 refine Bx 1 0 0 25 (kSystem x0 a0_0 n0_0 a0_1 n0_1) hs0 (fun b1 w2 (hs3 : HS w0 F0 w2 F0 [(sb b1 (kSystem x0 a0_0 n0_0 a0_1 n0_1) 25)]) => ?_)
 refine V 2 50 (mc (.slice none 0 0) (.slice none ([] : List Int).length 0)) ?_
 refine Nss (Rg [0, 1, 2, 3] ?_)
 refine V 11 25 (ld 25 1 b1 0 true 3 (.agg (kSystem x0 a0_0 n0_0 a0_1 n0_1)) (hs3.ownAt (k := 0) rfl)) ?_
 obtain ⟨r4, hr5, h6⟩ := bind_some h
 refine Cl 12 112 80 #[(.tmp 11)] #[25] co_ref03_spots hs3 (c_ref03_spots N w2 F0 hs3.pers (x0) a0_0 n0_0 hb0_0 hs0_0 a0_1 n0_1 hb0_1 hs0_1 _ hr5) ?_
 intro v7 F1 w8 hs9 le10 hp11
 obtain ⟨ar4_0_0, nr4_0_0, rfl, hbr4_0_0, hsr4_0_0⟩ := hp11
 refine Al 3 0 112 #[(.slice none ([] : List Int).length 0), (vi 0)] hs9 (fun b12 w13 (hs14 : HS w0 F0 w13 F1 [(sb b12 #[(.slice none ([] : List Int).length 0), (vi 0)] 112), (sb b1 (kSystem x0 a0_0 n0_0 a0_1 n0_1) 25)]) => ?_)
 refine RWP.store (ty := 0) (g := none) (by kernel_rfl) rfl (x := (.tmp 3)) (y := (.tmp 12)) (t := 112) (gg := true) (s := 2) (v := (.agg (kSpot r4 ar4_0_0 nr4_0_0))) (b := b12) (o := 0) (C := #[(.slice none ([] : List Int).length 0), (vi 0)]) rfl rfl (by kernel_rfl) hs14 (k := 0) rfl rfl rfl rfl (C' := (kSpot r4 ar4_0_0 nr4_0_0)) rfl (fun w15 (hs16 : HS w0 F0 w15 F1 [(sb b12 (kSpot r4 ar4_0_0 nr4_0_0) 112), (sb b1 (kSystem x0 a0_0 n0_0 a0_1 n0_1) 25)]) => ?_)
 refine Nss (Rg [0, 1, 2] ?_)
 refine V 13 25 (ld 25 1 b1 0 true 3 (.agg (kSystem x0 a0_0 n0_0 a0_1 n0_1)) (hs16.ownAt (k := 1) rfl)) ?_
 obtain ⟨r17, hr18, h19⟩ := bind_some h6
 refine Cl 14 57 84 #[(.tmp 13)] #[25] co_ref03_bounds hs16 (c_ref03_bounds N w15 F1 hs16.pers (x0) a0_0 n0_0 hb0_0 (SlA.mono hs0_0 le10) a0_1 n0_1 hb0_1 (SlA.mono hs0_1 le10) _ hr18) ?_
 intro v20 F2 w21 hs22 le23 hp24
 obtain ⟨ar17_0_0, nr17_0_0, rfl, hbr17_0_0, hsr17_0_0⟩ := hp24
 refine V 4 57 (ma 14 (.slice ar17_0_0 r17.length nr17_0_0)) ?_
 refine Nss (Rg [0, 1, 2, 3] ?_)
 refine V 15 0 (fa 112 3 1 1 1 b12 0 1) ?_
 refine V 16 3 (ld 3 15 b12 1 false 1 (vi r4.n_) (hs22.ownAt (k := 0) rfl)) ?_
 obtain ⟨r25, hm26, h27⟩ := bind_some h19
 refine RWP.makeSlice (dst := (some 17)) (ty := 50) (g := none) (by kernel_rfl) rfl (x := (.tmp 16)) (y := (.tmp 16)) (t := 50) (by_ := 8) (z := (vi 0)) (T := tInt) (E := 3) rfl rfl (by kernel_rfl) (by decide) (by kernel_rfl) (z0 := 0) (fun _ => rfl) (by decide) hs22 hm26 (fun b28 n29 C30 w31 (hs32 : HS w0 F0 w31 F2 [(some b28, .cells C30 3 (0, 0)), (sb b12 (kSpot r4 ar4_0_0 nr4_0_0) 112), (sb b1 (kSystem x0 a0_0 n0_0 a0_1 n0_1) 25)]) hr33 => ?_)
 refine V 5 50 (ma 17 (.slice (some ⟨b28, 0, none⟩) r25.length n29)) ?_
 refine Nss ?_
 refine Sq (Rg [0] ?_)
 refine V 6 3 (mc (vi 1) (vi 1)) ?_
 refine Nt ?_
 have hs35 : HS w0 F0 w31 F2 [(some b28, .cells C30 3 (0, 0)), (sb b12 (kSpot r4 ar4_0_0 nr4_0_0) 112)] := hs32.drop 2
 obtain ⟨o36, ho37, h38⟩ := bind_some h27
 refine CWP.cut (fun f w => ∃ (s48 : (Int × List Int)) (F4 : Mem) (es48_1 : Option Nat × Obj), o36 = .done s48 ∧ HS w0 F0 w F4 [es48_1, (sb b12 (kSpot r4 ar4_0_0 nr4_0_0) 112)] ∧ Mem.le F2 F4 ∧ f.d = [] ∧ f 3 = (.pointer (some ⟨b12, 0, none⟩)) ∧ f 4 = (.slice ar17_0_0 r17.length nr17_0_0) ∧ f 5 = (.slice (some ⟨b28, 0, none⟩) s48.2.length n29) ∧ RowR tInt 3 F4 (some ⟨b28, 0, none⟩) n29 s48.2 es48_1) ?_ ?_
 ·refine Bk ?_
  refine CWP.loop (by kernel_rfl) (fun m f w => ∃ (s39 : (Int × List Int)) (F3 : Mem) (es39_1 : Option Nat × Obj), iter (ref03_backward_L0 N x0 r4 r17 r25) m s39 = some o36 ∧ HS w0 F0 w F3 [es39_1, (sb b12 (kSpot r4 ar4_0_0 nr4_0_0) 112)] ∧ Mem.le F2 F3 ∧ f.d = [] ∧ f 3 = (.pointer (some ⟨b12, 0, none⟩)) ∧ f 4 = (.slice ar17_0_0 r17.length nr17_0_0) ∧ f 5 = (.slice (some ⟨b28, 0, none⟩) s39.2.length n29) ∧ f 6 = (vi s39.1) ∧ RowR tInt 3 F3 (some ⟨b28, 0, none⟩) n29 s39.2 es39_1) N ⟨(1, r25), F2, (some b28, .cells C30 3 (0, 0)), ho37, hs35, (Mem.le.refl _), rfl, rfl, rfl, rfl, rfl, hr33⟩ ?_
  rintro m56 f w40 ⟨s39, F3, es39_1, hit57, hs41, le42, e43, e44, e45, e46, e47, hrs39_1⟩
  obtain ⟨m58, fl59, rfl, hb60, hnx61⟩ := iter_step hit57
  refine Sq ?_
  refine Sq (Rg [0, 1, 2, 3] ?_)
  refine V 18 3 (mv 6 (vi s39.1) e47) ?_
  refine V 19 0 (fa 112 3 1 1 1 b12 0 1 e44) ?_
  refine V 20 3 (ld 3 19 b12 1 false 1 (vi r4.n_) (hs41.ownAt (k := 1) rfl)) ?_
  refine V 21 4 (run_lss (t := 3) (t' := 3) (x := (.tmp 18)) (y := (.tmp 20)) (k := .i64) (a := s39.1) (b := r4.n_) rfl rfl) ?_
  refine Nt ?_
  refine CWP.cond (t := (decide (s39.1 < r4.n_))) (by kernel_rfl) rfl (fun hb62 => ?_) (fun hb62 => ?_)
  ·have h63 := cond_t hb60 hb62
   refine Sc ?_
   refine thenQ_nrm ?_
   refine Sq ?_
   refine Bk ?_
   refine Rg [0, 1, 2, 3] ?_
   refine V 24 50 (mv 5 (.slice (some ⟨b28, 0, none⟩) s39.2.length n29) e46) ?_
   refine V 25 3 (mv 6 (vi s39.1) e47) ?_
   obtain ⟨x64, hx65, h67⟩ := bind_some h63
   obtain ⟨hi66, hx65'⟩ := idx_spec hx65
   obtain ⟨b68, C69, ha70, rfl, hE72⟩ := RowR.open hrs39_1 hx65'
   cases ha70
   have hr73 := hrs39_1
   have hc75 := hE72 _ _ hx65'
   refine V 26 0 (run_index0 (t := 50) (x := (.tmp 24)) (y := (.tmp 25)) (b := b28) (E := 3) (s := 1) (by_ := 8) rfl rfl (by kernel_rfl) hi66) ?_
   refine RWP.storeRow (ty := 0) (g := none) (by kernel_rfl) rfl (x := (.tmp 26)) (y := (.const (vi 1125899906842624))) (t := 3) (v := (vi 1125899906842624)) (gg := false) (b := b28) (j := (s39.1 : Int).toNat) (C := C69) (T := tInt) (E := 3) (u := (1125899906842624)) rfl rfl (by kernel_rfl) hs41 (k := 0) rfl hr73 hx65' rfl rfl (fun C76 w77 (hs78 : HS w0 F0 w77 F3 [(some b28, .cells C76 3 (0, 0)), (sb b12 (kSpot r4 ar4_0_0 nr4_0_0) 112)]) hr79 => ?_)
   refine RWP.nil ?_
   refine blockQ_nrm ?_
   refine thenQ_nrm ?_
   refine Rg [0, 1, 2] ?_
   refine V 22 3 (mv 6 (vi s39.1) e47) ?_
   refine V 23 3 (run_add (t := 3) (t' := 3) (x := (.tmp 22)) (y := (.const (vi 1))) (k := .i64) (a := s39.1) (b := 1) rfl rfl) ?_
   refine V 6 3 (ma 23 (vi (W64 (s39.1 + 1)))) ?_
   refine RWP.nil ?_
   have hn80 := iter_next h67 hnx61
   exact ⟨m58, Nat.lt_succ_self _, ((W64 (s39.1 + 1)), (s39.2.set (s39.1 : Int).toNat (1125899906842624))), F3, (some b28, .cells C76 3 (0, 0)), hn80, hs78, le42, e43, e44, e45, (len_set e46), rfl, hr79⟩
  ·have h81 := cond_f hb60 hb62
   refine CWP.exit (by kernel_rfl) ?_
   refine thenQ_ex ?_
   refine thenQ_ex ?_
   refine blockQ_hit rfl ?_
   have ho82 := iter_done h81 hnx61
   exact .inl ⟨rfl, (s39.1, s39.2), F3, es39_1, ho82, hs41, le42, e43, e44, e45, e46, hrs39_1⟩
 ·rintro f w49 ⟨s48, F4, es48_1, rfl, hs50, le51, e52, e53, e54, e55, hrs48_1⟩
  have h83 := k_done h38
  refine thenQ_nrm ?_
  refine Sq ?_
  refine Sq (Rg [0] ?_)
  refine V 7 4 (mc (.bool true) (.bool true)) ?_
  refine Nt ?_
  obtain ⟨o84, ho85, h86⟩ := bind_some h83
  refine CWP.cut (fun f w => ∃ (s96 : (Bool × List Int)) (F6 : Mem) (es96_1 : Option Nat × Obj), o84 = .done s96 ∧ HS w0 F0 w F6 [es96_1] ∧ Mem.le F4 F6 ∧ f.d = [] ∧ f 5 = (.slice (some ⟨b28, 0, none⟩) s96.2.length n29) ∧ RowR tInt 3 F6 (some ⟨b28, 0, none⟩) n29 s96.2 es96_1) ?_ ?_
  ·refine Bk ?_
   refine CWP.loop (by kernel_rfl) (fun m f w => ∃ (s87 : (Bool × List Int)) (F5 : Mem) (es87_1 : Option Nat × Obj), iter (ref03_backward_L1 N x0 r4 r17 r25 s48) m s87 = some o84 ∧ HS w0 F0 w F5 [es87_1, (sb b12 (kSpot r4 ar4_0_0 nr4_0_0) 112)] ∧ Mem.le F4 F5 ∧ f.d = [] ∧ f 3 = (.pointer (some ⟨b12, 0, none⟩)) ∧ f 4 = (.slice ar17_0_0 r17.length nr17_0_0) ∧ f 5 = (.slice (some ⟨b28, 0, none⟩) s87.2.length n29) ∧ f 7 = (.bool s87.1) ∧ RowR tInt 3 F5 (some ⟨b28, 0, none⟩) n29 s87.2 es87_1) N ⟨(true, s48.2), F4, es48_1, ho85, hs50, (Mem.le.refl _), e52, e53, e54, e55, rfl, hrs48_1⟩ ?_
   rintro m102 f w88 ⟨s87, F5, es87_1, hit103, hs89, le90, e91, e92, e93, e94, e95, hrs87_1⟩
   obtain ⟨m104, fl105, rfl, hb106, hnx107⟩ := iter_step hit103
   refine Sq ?_
   refine Sq (Rg [0] ?_)
   refine V 27 4 (mv 7 (.bool s87.1) e95) ?_
   refine Nt ?_
   refine CWP.cond (t := s87.1) (by kernel_rfl) rfl (fun hb108 => ?_) (fun hb108 => ?_)
   ·have h109 := cond_t hb106 hb108
    refine Sc ?_
    refine thenQ_nrm ?_
    refine Bk ?_
    refine Sq (Rg [0] ?_)
    refine V 7 4 (mc (.bool false) (.bool false)) ?_
    refine Nss (Rg [0] ?_)
    refine V 8 3 (mc (vi 0) (vi 0)) ?_
    refine Nt ?_
    obtain ⟨o110, ho111, h112⟩ := bind_some h109
    refine CWP.cut (fun f w => ∃ (s123 : (Bool × Int × List Int)) (F8 : Mem) (es123_2 : Option Nat × Obj), o110 = .done s123 ∧ HS w0 F0 w F8 [es123_2, (sb b12 (kSpot r4 ar4_0_0 nr4_0_0) 112)] ∧ Mem.le F5 F8 ∧ f.d = [] ∧ f 3 = (.pointer (some ⟨b12, 0, none⟩)) ∧ f 4 = (.slice ar17_0_0 r17.length nr17_0_0) ∧ f 5 = (.slice (some ⟨b28, 0, none⟩) s123.2.2.length n29) ∧ f 7 = (.bool s123.1) ∧ RowR tInt 3 F8 (some ⟨b28, 0, none⟩) n29 s123.2.2 es123_2) ?_ ?_
    ·refine Bk ?_
     refine CWP.loop (by kernel_rfl) (fun m f w => ∃ (s113 : (Bool × Int × List Int)) (F7 : Mem) (es113_2 : Option Nat × Obj), iter (ref03_backward_L2 N x0 r4 r17 r25 s48 s87) m s113 = some o110 ∧ HS w0 F0 w F7 [es113_2, (sb b12 (kSpot r4 ar4_0_0 nr4_0_0) 112)] ∧ Mem.le F5 F7 ∧ f.d = [] ∧ f 3 = (.pointer (some ⟨b12, 0, none⟩)) ∧ f 4 = (.slice ar17_0_0 r17.length nr17_0_0) ∧ f 5 = (.slice (some ⟨b28, 0, none⟩) s113.2.2.length n29) ∧ f 7 = (.bool s113.1) ∧ f 8 = (vi s113.2.1) ∧ RowR tInt 3 F7 (some ⟨b28, 0, none⟩) n29 s113.2.2 es113_2) N ⟨(false, 0, s87.2), F5, es87_1, ho111, hs89, (Mem.le.refl _), e91, e92, e93, e94, rfl, rfl, hrs87_1⟩ ?_
     rintro m132 f w114 ⟨s113, F7, es113_2, hit133, hs115, le116, e117, e118, e119, e120, e121, e122, hrs113_2⟩
     obtain ⟨m134, fl135, rfl, hb136, hnx137⟩ := iter_step hit133
     refine Sq ?_
     refine Sq (Rg [0, 1, 2, 3] ?_)
     refine V 28 3 (mv 8 (vi s113.2.1) e122) ?_
     refine V 29 57 (mv 4 (.slice ar17_0_0 r17.length nr17_0_0) e119) ?_
     refine V 30 3 (ln 29 57 ar17_0_0 r17.length nr17_0_0 103 7 56) ?_
     refine V 31 4 (run_lss (t := 3) (t' := 3) (x := (.tmp 28)) (y := (.tmp 30)) (k := .i64) (a := s113.2.1) (b := (r17.length : Int)) rfl rfl) ?_
     refine Nt ?_
     refine CWP.cond (t := (decide (s113.2.1 < (r17.length : Int)))) (by kernel_rfl) rfl (fun hb138 => ?_) (fun hb138 => ?_)
     ·have h139 := cond_t hb136 hb138
      refine Sc ?_
      refine thenQ_nrm ?_
      refine Sq ?_
      refine Bk ?_
      refine Sq ?_
      obtain ⟨j145, hj153, h154⟩ := bind_some h139
      refine CWP.regionD (by kernel_rfl) (by kernel_rfl) (by kernel_rfl) (by kernel_rfl) (z := 8) (F := F7) (Lc := [es113_2, (sb b12 (kSpot r4 ar4_0_0 nr4_0_0) 112)]) (Lz := []) (l := [false, false, false, false, false, false, false, false]) (fuel := 8) (by kernel_rfl) (by kernel_rfl) hs115 (by simp) (by simp) (fun f w => ∃ (F9 : Mem), HS w0 F0 w F9 [es113_2, (sb b12 (kSpot r4 ar4_0_0 nr4_0_0) 112)] ∧ Mem.le F7 F9 ∧ f.d = [] ∧ f 3 = (.pointer (some ⟨b12, 0, none⟩)) ∧ f 4 = (.slice ar17_0_0 r17.length nr17_0_0) ∧ f 5 = (.slice (some ⟨b28, 0, none⟩) s113.2.2.length n29) ∧ f 7 = (.bool s113.1) ∧ f 8 = (vi s113.2.1) ∧ f 9 = (vi j145)) (fun wd140 hw141 => ?_) ?_
      ·refine Dt 0 34 112 _ (fun _ hq => ld 112 3 b12 0 true 2 (.agg (kSpot r4 ar4_0_0 nr4_0_0)) (hq.1.2 1 _ _ rfl) e118) ?_
       refine Dt 1 35 57 _ (fun _ hq => mv 4 (.slice ar17_0_0 r17.length nr17_0_0) e119) ?_
       refine Dt 2 36 3 _ (fun _ hq => mv 8 (vi s113.2.1) e122) ?_
       obtain ⟨x155, hx156, h158⟩ := bind_some hj153
       obtain ⟨hi157, hx156'⟩ := idx_spec hx156
       obtain ⟨b159, o160, C161, E162, fz163, rfl, hF165, hE166⟩ := SlA.open (SlA.mono hsr17_0_0 ((le51.trans le90).trans le116)) hx156'
       have hc168 := hE166 _ _ hx156'
       refine Dt 3 37 0 (.pointer (some ⟨b159, (o160 + (s113.2.1 : Int).toNat * 7), none⟩)) (fun _ hq => ix 57 35 36 b159 o160 103 7 56 hi157) ?_
       refine Dt 4 38 0 (.pointer (some ⟨b159, (o160 + (s113.2.1 : Int).toNat * 7), none⟩)) (fun _ hq => fa 103 37 0 0 2 b159 (o160 + (s113.2.1 : Int).toNat * 7) (o160 + (s113.2.1 : Int).toNat * 7)) ?_
       refine Dt 5 39 27 _ (fun _ hq => lx 27 38 0 7 true 2 (.agg (kRef x155.From)) (hq.1.1 _ _ hF165) hc168) ?_
       refine DWP.one (i := 6) (by kernel_rfl) ?_
       obtain ⟨r169, hr170, h171⟩ := bind_some h158
       refine DStep.call (l' := [true, true, true, true, true, true, true, false]) (zd := true) (by kernel_rfl) (by kernel_rfl) (by kernel_rfl) (dst := (some 40)) (ty := 3) (g := none) (by kernel_rfl) rfl (f0 := (.func 81)) (aos := #[(.tmp 34), (.tmp 39)]) (ats := #[112, 27]) (fid := 81) (first := #[]) (cap := #[]) (args := [(.agg (kSpot r4 ar4_0_0 nr4_0_0)), (.agg (kRef x155.From))]) rfl co_ref03_spot_of (rfl) hw141 (c_ref03_spot_of N wd140 F7 hw141.pers (r4) ar4_0_0 nr4_0_0 hbr4_0_0 (SlA.mono hsr4_0_0 (((le23.trans le51).trans le90).trans le116)) (x155.From) _ hr170) ?_
       intro v172 F10 w173 hs174 le175 hp176
       obtain rfl := hp176
       refine Dt 7 9 3 _ (fun _ hq => ma 40 (vi r169)) ?_
       obtain rfl := some_inj h171
       exact DWP.done (by kernel_rfl) ⟨F10, hs174, le175, e117, e118, e119, e120, e121, e122, rfl⟩
      ·rintro f w142 ⟨F9, hs143, le144, e146, e147, e148, e149, e150, e151, e152⟩
       refine thenQ_nrm ?_
       refine Sq ?_
       obtain ⟨j182, hj191, h192⟩ := bind_some h154
       refine CWP.regionD (by kernel_rfl) (by kernel_rfl) (by kernel_rfl) (by kernel_rfl) (z := 8) (F := F9) (Lc := [es113_2, (sb b12 (kSpot r4 ar4_0_0 nr4_0_0) 112)]) (Lz := []) (l := [false, false, false, false, false, false, false, false]) (fuel := 8) (by kernel_rfl) (by kernel_rfl) hs143 (by simp) (by simp) (fun f w => ∃ (F11 : Mem), HS w0 F0 w F11 [es113_2, (sb b12 (kSpot r4 ar4_0_0 nr4_0_0) 112)] ∧ Mem.le F9 F11 ∧ f.d = [] ∧ f 3 = (.pointer (some ⟨b12, 0, none⟩)) ∧ f 4 = (.slice ar17_0_0 r17.length nr17_0_0) ∧ f 5 = (.slice (some ⟨b28, 0, none⟩) s113.2.2.length n29) ∧ f 7 = (.bool s113.1) ∧ f 8 = (vi s113.2.1) ∧ f 9 = (vi j145) ∧ f 10 = (vi j182)) (fun wd177 hw178 => ?_) ?_
       ·refine Dt 0 41 112 _ (fun _ hq => ld 112 3 b12 0 true 2 (.agg (kSpot r4 ar4_0_0 nr4_0_0)) (hq.1.2 1 _ _ rfl) e147) ?_
        refine Dt 1 42 57 _ (fun _ hq => mv 4 (.slice ar17_0_0 r17.length nr17_0_0) e148) ?_
        refine Dt 2 43 3 _ (fun _ hq => mv 8 (vi s113.2.1) e151) ?_
        obtain ⟨x193, hx194, h196⟩ := bind_some hj191
        obtain ⟨hi195, hx194'⟩ := idx_spec hx194
        obtain ⟨b197, o198, C199, E200, fz201, rfl, hF203, hE204⟩ := SlA.open (SlA.mono hsr17_0_0 (((le51.trans le90).trans le116).trans le144)) hx194'
        have hc206 := hE204 _ _ hx194'
        refine Dt 3 44 0 (.pointer (some ⟨b197, (o198 + (s113.2.1 : Int).toNat * 7), none⟩)) (fun _ hq => ix 57 42 43 b197 o198 103 7 56 hi195) ?_
        refine Dt 4 45 0 (.pointer (some ⟨b197, ((o198 + (s113.2.1 : Int).toNat * 7) + 2), none⟩)) (fun _ hq => fa 103 44 1 2 2 b197 (o198 + (s113.2.1 : Int).toNat * 7) ((o198 + (s113.2.1 : Int).toNat * 7) + 2)) ?_
        refine Dt 5 46 27 _ (fun _ hq => lx 27 45 2 7 true 2 (.agg (kRef x193.To)) (hq.1.1 _ _ hF203) hc206) ?_
        refine DWP.one (i := 6) (by kernel_rfl) ?_
        obtain ⟨r207, hr208, h209⟩ := bind_some h196
        refine DStep.call (l' := [true, true, true, true, true, true, true, false]) (zd := true) (by kernel_rfl) (by kernel_rfl) (by kernel_rfl) (dst := (some 47)) (ty := 3) (g := none) (by kernel_rfl) rfl (f0 := (.func 81)) (aos := #[(.tmp 41), (.tmp 46)]) (ats := #[112, 27]) (fid := 81) (first := #[]) (cap := #[]) (args := [(.agg (kSpot r4 ar4_0_0 nr4_0_0)), (.agg (kRef x193.To))]) rfl co_ref03_spot_of (rfl) hw178 (c_ref03_spot_of N wd177 F9 hw178.pers (r4) ar4_0_0 nr4_0_0 hbr4_0_0 (SlA.mono hsr4_0_0 ((((le23.trans le51).trans le90).trans le116).trans le144)) (x193.To) _ hr208) ?_
        intro v210 F12 w211 hs212 le213 hp214
        obtain rfl := hp214
        refine Dt 7 10 3 _ (fun _ hq => ma 47 (vi r207)) ?_
        obtain rfl := some_inj h209
        exact DWP.done (by kernel_rfl) ⟨F12, hs212, le213, e146, e147, e148, e149, e150, e151, e152, rfl⟩
       ·rintro f w179 ⟨F11, hs180, le181, e183, e184, e185, e186, e187, e188, e189, e190⟩
        refine thenQ_nrm ?_
        refine Sq ?_
        obtain ⟨j220, hj230, h231⟩ := bind_some h192
        refine CWP.regionD (by kernel_rfl) (by kernel_rfl) (by kernel_rfl) (by kernel_rfl) (z := 22) (F := F11) (Lc := [es113_2, (sb b12 (kSpot r4 ar4_0_0 nr4_0_0) 112)]) (Lz := []) (l := [false, false, false, false, false, false, false, false, false, false, false, false, false, false, false, false, false, false, false, false, false, false]) (fuel := 22) (by kernel_rfl) (by kernel_rfl) hs180 (by simp) (by simp) (fun f w => ∃ (F13 : Mem), HS w0 F0 w F13 [es113_2, (sb b12 (kSpot r4 ar4_0_0 nr4_0_0) 112)] ∧ Mem.le F11 F13 ∧ f.d = [] ∧ f 3 = (.pointer (some ⟨b12, 0, none⟩)) ∧ f 4 = (.slice ar17_0_0 r17.length nr17_0_0) ∧ f 5 = (.slice (some ⟨b28, 0, none⟩) s113.2.2.length n29) ∧ f 7 = (.bool s113.1) ∧ f 8 = (vi s113.2.1) ∧ f 9 = (vi j145) ∧ f 10 = (vi j182) ∧ f 69 = (.bool j220)) (fun wd215 hw216 => ?_) ?_
        ·refine Dtl 0 48 50 _ [tt, ff, ff, ff, ff, ff, ff, ff, ff, ff, ff, ff, ff, ff, ff, ff, ff, ff, ff, ff, ff, ff] (fun _ hq => mv 5 (.slice (some ⟨b28, 0, none⟩) s113.2.2.length n29) e186) ?_
         refine Dtl 1 49 3 _ [tt, tt, ff, ff, ff, ff, ff, ff, ff, ff, ff, ff, ff, ff, ff, ff, ff, ff, ff, ff, ff, ff] (fun _ hq => mv 10 (vi j182) e190) ?_
         obtain ⟨x232, hx233, h235⟩ := bind_some hj230
         obtain ⟨hi234, hx233'⟩ := idx_spec hx233
         obtain ⟨b236, C237, ha238, rfl, hE240⟩ := RowR.open (hrs113_2.mono (le144.trans le181)) hx233'
         cases ha238
         have hr241 := (hrs113_2.mono (le144.trans le181))
         have hc243 := hE240 _ _ hx233'
         refine Dtl 2 50 0 (.pointer (some ⟨b28, ((j182 : Int).toNat * 1), none⟩)) [tt, tt, tt, ff, ff, ff, ff, ff, ff, ff, ff, ff, ff, ff, ff, ff, ff, ff, ff, ff, ff, ff] (fun _ hq => run_index0 (t := 50) (x := (.tmp 48)) (y := (.tmp 49)) (b := b28) (E := 3) (s := 1) (by_ := 8) rfl rfl (by kernel_rfl) hi234) ?_
         refine Dtl 3 51 3 _ [tt, tt, tt, tt, ff, ff, ff, ff, ff, ff, ff, ff, ff, ff, ff, ff, ff, ff, ff, ff, ff, ff] (fun _ hq => lx 3 50 0 1 false 1 (vi x232) (hq.1.2 0 _ _ rfl) hc243) ?_
         refine Dtl 4 52 4 (.bool (decide (x232 < 1125899906842624))) [tt, tt, tt, tt, tt, ff, ff, ff, ff, ff, ff, ff, ff, ff, ff, ff, ff, ff, ff, ff, ff, ff] (fun _ hq => run_lss (t := 3) (t' := 3) (x := (.tmp 51)) (y := (.const (vi 1125899906842624))) (k := .i64) (a := x232) (b := 1125899906842624) rfl rfl) ?_
         refine Dtl 5 53 4 _ [tt, tt, tt, tt, tt, tt, ff, ff, ff, ff, ff, ff, ff, ff, ff, ff, ff, ff, ff, ff, ff, ff] (fun _ hq => mv 52 (.bool (decide (x232 < 1125899906842624)))) ?_
         refine DWP.split (decide (x232 < 1125899906842624)) (fun hb244 => ?_) (fun hb244 => ?_)
         ·have h245 := cond_t h235 hb244
          refine Dgl 6 54 50 _ [tt, tt, tt, tt, tt, tt, tt, ff, ff, ff, ff, ff, ff, ff, ff, ff, ff, ff, ff, ff, ff, ff] 5 true 53 hb244 (fun _ hq => mv 5 (.slice (some ⟨b28, 0, none⟩) s113.2.2.length n29) e186) ?_
          refine Dgl 7 55 3 _ [tt, tt, tt, tt, tt, tt, tt, tt, ff, ff, ff, ff, ff, ff, ff, ff, ff, ff, ff, ff, ff, ff] 5 true 53 hb244 (fun _ hq => mv 10 (vi j182) e190) ?_
          obtain ⟨x246, hx247, h249⟩ := bind_some h245
          obtain ⟨hi248, hx247'⟩ := idx_spec hx247
          obtain ⟨b250, C251, ha252, he253, hE254⟩ := RowR.open hr241 hx247'
          cases ha252
          cases he253
          have hc256 := hE254 _ _ hx247'
          refine Dgl 8 56 0 (.pointer (some ⟨b28, ((j182 : Int).toNat * 1), none⟩)) [tt, tt, tt, tt, tt, tt, tt, tt, tt, ff, ff, ff, ff, ff, ff, ff, ff, ff, ff, ff, ff, ff] 5 true 53 hb244 (fun _ hq => run_index0 (t := 50) (x := (.tmp 54)) (y := (.tmp 55)) (b := b28) (E := 3) (s := 1) (by_ := 8) rfl rfl (by kernel_rfl) hi248) ?_
          refine Dgl 9 57 3 _ [tt, tt, tt, tt, tt, tt, tt, tt, tt, tt, ff, ff, ff, ff, ff, ff, ff, ff, ff, ff, ff, ff] 5 true 53 hb244 (fun _ hq => lx 3 56 0 1 false 1 (vi x246) (hq.1.2 0 _ _ rfl) hc256) ?_
          refine Dgl 10 58 57 _ [tt, tt, tt, tt, tt, tt, tt, tt, tt, tt, tt, ff, ff, ff, ff, ff, ff, ff, ff, ff, ff, ff] 5 true 53 hb244 (fun _ hq => mv 4 (.slice ar17_0_0 r17.length nr17_0_0) e185) ?_
          refine Dgl 11 59 3 _ [tt, tt, tt, tt, tt, tt, tt, tt, tt, tt, tt, tt, ff, ff, ff, ff, ff, ff, ff, ff, ff, ff] 5 true 53 hb244 (fun _ hq => mv 8 (vi s113.2.1) e188) ?_
          obtain ⟨x257, hx258, h260⟩ := bind_some h249
          obtain ⟨hi259, hx258'⟩ := idx_spec hx258
          obtain ⟨b261, o262, C263, E264, fz265, rfl, hF267, hE268⟩ := SlA.open (SlA.mono hsr17_0_0 ((((le51.trans le90).trans le116).trans le144).trans le181)) hx258'
          have hc270 := hE268 _ _ hx258'
          refine Dgl 12 60 0 (.pointer (some ⟨b261, (o262 + (s113.2.1 : Int).toNat * 7), none⟩)) [tt, tt, tt, tt, tt, tt, tt, tt, tt, tt, tt, tt, tt, ff, ff, ff, ff, ff, ff, ff, ff, ff] 5 true 53 hb244 (fun _ hq => ix 57 58 59 b261 o262 103 7 56 hi259) ?_
          refine Dgl 13 61 0 (.pointer (some ⟨b261, ((o262 + (s113.2.1 : Int).toNat * 7) + 4), none⟩)) [tt, tt, tt, tt, tt, tt, tt, tt, tt, tt, tt, tt, tt, tt, ff, ff, ff, ff, ff, ff, ff, ff] 5 true 53 hb244 (fun _ hq => fa 103 60 2 4 1 b261 (o262 + (s113.2.1 : Int).toNat * 7) ((o262 + (s113.2.1 : Int).toNat * 7) + 4)) ?_
          refine Dgl 14 62 3 _ [tt, tt, tt, tt, tt, tt, tt, tt, tt, tt, tt, tt, tt, tt, tt, ff, ff, ff, ff, ff, ff, ff] 5 true 53 hb244 (fun _ hq => lx 3 61 4 7 false 1 (vi x257.Most) (hq.1.1 _ _ hF267) hc270) ?_
          refine Dgl 15 63 3 (vi (W64 (x246 + x257.Most))) [tt, tt, tt, tt, tt, tt, tt, tt, tt, tt, tt, tt, tt, tt, tt, tt, ff, ff, ff, ff, ff, ff] 5 true 53 hb244 (fun _ hq => run_add (t := 3) (t' := 3) (x := (.tmp 57)) (y := (.tmp 62)) (k := .i64) (a := x246) (b := x257.Most) rfl rfl) ?_
          refine Dgl 16 64 50 _ [tt, tt, tt, tt, tt, tt, tt, tt, tt, tt, tt, tt, tt, tt, tt, tt, tt, ff, ff, ff, ff, ff] 5 true 53 hb244 (fun _ hq => mv 5 (.slice (some ⟨b28, 0, none⟩) s113.2.2.length n29) e186) ?_
          refine Dgl 17 65 3 _ [tt, tt, tt, tt, tt, tt, tt, tt, tt, tt, tt, tt, tt, tt, tt, tt, tt, tt, ff, ff, ff, ff] 5 true 53 hb244 (fun _ hq => mv 9 (vi j145) e189) ?_
          obtain ⟨x271, hx272, h274⟩ := bind_some h260
          obtain ⟨hi273, hx272'⟩ := idx_spec hx272
          obtain ⟨b275, C276, ha277, he278, hE279⟩ := RowR.open hr241 hx272'
          cases ha277
          cases he278
          have hc281 := hE279 _ _ hx272'
          refine Dgl 18 66 0 (.pointer (some ⟨b28, ((j145 : Int).toNat * 1), none⟩)) [tt, tt, tt, tt, tt, tt, tt, tt, tt, tt, tt, tt, tt, tt, tt, tt, tt, tt, tt, ff, ff, ff] 5 true 53 hb244 (fun _ hq => run_index0 (t := 50) (x := (.tmp 64)) (y := (.tmp 65)) (b := b28) (E := 3) (s := 1) (by_ := 8) rfl rfl (by kernel_rfl) hi273) ?_
          refine Dgl 19 67 3 _ [tt, tt, tt, tt, tt, tt, tt, tt, tt, tt, tt, tt, tt, tt, tt, tt, tt, tt, tt, tt, ff, ff] 5 true 53 hb244 (fun _ hq => lx 3 66 0 1 false 1 (vi x271) (hq.1.2 0 _ _ rfl) hc281) ?_
          refine Dgl 20 68 4 (.bool (decide ((W64 (x246 + x257.Most)) < x271))) [tt, tt, tt, tt, tt, tt, tt, tt, tt, tt, tt, tt, tt, tt, tt, tt, tt, tt, tt, tt, tt, ff] 5 true 53 hb244 (fun _ hq => run_lss (t := 3) (t' := 3) (x := (.tmp 63)) (y := (.tmp 67)) (k := .i64) (a := (W64 (x246 + x257.Most))) (b := x271) rfl rfl) ?_
          refine Dtl 21 69 4 _ [tt, tt, tt, tt, tt, tt, tt, tt, tt, tt, tt, tt, tt, tt, tt, tt, tt, tt, tt, tt, tt, tt] (fun _ hq => p1 53 (.tmp 68) (.const (.bool false)) (.bool (decide ((W64 (x246 + x257.Most)) < x271))) hb244) ?_
          obtain rfl := some_inj h274
          exact DWP.done (by kernel_rfl) ⟨F11, hw216, (Mem.le.refl _), e183, e184, e185, e186, e187, e188, e189, e190, rfl⟩
         ·have h282 := cond_f h235 hb244
          refine Dkl [(6, 54), (7, 55), (8, 56), (9, 57), (10, 58), (11, 59)] 5 true 53 hb244 [tt, tt, tt, tt, tt, tt, tt, tt, tt, tt, tt, tt, ff, ff, ff, ff, ff, ff, ff, ff, ff, ff] ?_
          refine Dkl [(12, 60), (13, 61), (14, 62), (15, 63), (16, 64), (17, 65)] 5 true 53 hb244 [tt, tt, tt, tt, tt, tt, tt, tt, tt, tt, tt, tt, tt, tt, tt, tt, tt, tt, ff, ff, ff, ff] ?_
          refine Dkl [(18, 66), (19, 67), (20, 68)] 5 true 53 hb244 [tt, tt, tt, tt, tt, tt, tt, tt, tt, tt, tt, tt, tt, tt, tt, tt, tt, tt, tt, tt, tt, ff] ?_
          refine Dtl 21 69 4 _ [tt, tt, tt, tt, tt, tt, tt, tt, tt, tt, tt, tt, tt, tt, tt, tt, tt, tt, tt, tt, tt, tt] (fun _ hq => p0 53 (.tmp 68) (.const (.bool false)) (.bool false) hb244) ?_
          obtain rfl := some_inj h282
          exact DWP.done (by kernel_rfl) ⟨F11, hw216, (Mem.le.refl _), e183, e184, e185, e186, e187, e188, e189, e190, rfl⟩
        ·rintro f w217 ⟨F13, hs218, le219, e221, e222, e223, e224, e225, e226, e227, e228, e229⟩
         refine thenQ_nrm ?_
         obtain ⟨j286, hj293, h294⟩ := bind_some h231
         refine CWP.cut (fun f w => ∃ (F14 : Mem) (ej286_0 : Option Nat × Obj), HS w0 F0 w F14 [ej286_0, (sb b12 (kSpot r4 ar4_0_0 nr4_0_0) 112)] ∧ Mem.le F13 F14 ∧ f.d = [] ∧ f 3 = (.pointer (some ⟨b12, 0, none⟩)) ∧ f 4 = (.slice ar17_0_0 r17.length nr17_0_0) ∧ f 5 = (.slice (some ⟨b28, 0, none⟩) j286.1.length n29) ∧ f 7 = (.bool j286.2) ∧ f 8 = (vi s113.2.1) ∧ RowR tInt 3 F14 (some ⟨b28, 0, none⟩) n29 j286.1 ej286_0) ?_ ?_
         ·refine CWP.cond (t := j220) (by kernel_rfl) e229 (fun hb295 => ?_) (fun hb295 => ?_)
          ·have h296 := cond_t hj293 hb295
           refine Sq ?_
           obtain ⟨j302, hj308, h309⟩ := bind_some h296
           refine CWP.regionD (by kernel_rfl) (by kernel_rfl) (by kernel_rfl) (by kernel_rfl) (z := 13) (F := F13) (Lc := [(sb b12 (kSpot r4 ar4_0_0 nr4_0_0) 112)]) (Lz := [es113_2]) (l := [false, false, false, false, false, false, false, false, false, false, false, false, false, false]) (fuel := 14) (by kernel_rfl) (by kernel_rfl) hs218 (by simp) (by simp) (fun f w => ∃ (F15 : Mem) (ej302_0 : Option Nat × Obj), HS w0 F0 w F15 [ej302_0, (sb b12 (kSpot r4 ar4_0_0 nr4_0_0) 112)] ∧ Mem.le F13 F15 ∧ f.d = [] ∧ f 3 = (.pointer (some ⟨b12, 0, none⟩)) ∧ f 4 = (.slice ar17_0_0 r17.length nr17_0_0) ∧ f 5 = (.slice (some ⟨b28, 0, none⟩) j302.length n29) ∧ f 8 = (vi s113.2.1) ∧ RowR tInt 3 F15 (some ⟨b28, 0, none⟩) n29 j302 ej302_0) (fun wd297 hw298 => ?_) ?_
           ·refine Df 0 70 50 _ (fun _ hq => mv 5 (.slice (some ⟨b28, 0, none⟩) s113.2.2.length n29) e224) ?_
            refine Df 1 71 3 _ (fun _ hq => mv 9 (vi j145) e227) ?_
            refine Df 2 72 50 _ (fun _ hq => mv 5 (.slice (some ⟨b28, 0, none⟩) s113.2.2.length n29) e224) ?_
            refine Df 3 73 3 _ (fun _ hq => mv 10 (vi j182) e228) ?_
            obtain ⟨x310, hx311, h313⟩ := bind_some hj308
            obtain ⟨hi312, hx311'⟩ := idx_spec hx311
            obtain ⟨b314, C315, ha316, rfl, hE318⟩ := RowR.open (hrs113_2.mono ((le144.trans le181).trans le219)) hx311'
            cases ha316
            have hr319 := (hrs113_2.mono ((le144.trans le181).trans le219))
            have hc321 := hE318 _ _ hx311'
            refine Df 4 74 0 (.pointer (some ⟨b28, ((j182 : Int).toNat * 1), none⟩)) (fun _ hq => run_index0 (t := 50) (x := (.tmp 72)) (y := (.tmp 73)) (b := b28) (E := 3) (s := 1) (by_ := 8) rfl rfl (by kernel_rfl) hi312) ?_
            refine Df 5 75 3 _ (fun _ hq => lx 3 74 0 1 false 1 (vi x310) ((hq.2 rfl).2 0 _ _ rfl) hc321) ?_
            refine Df 6 76 57 _ (fun _ hq => mv 4 (.slice ar17_0_0 r17.length nr17_0_0) e223) ?_
            refine Df 7 77 3 _ (fun _ hq => mv 8 (vi s113.2.1) e226) ?_
            obtain ⟨x322, hx323, h325⟩ := bind_some h313
            obtain ⟨hi324, hx323'⟩ := idx_spec hx323
            obtain ⟨b326, o327, C328, E329, fz330, rfl, hF332, hE333⟩ := SlA.open (SlA.mono hsr17_0_0 (((((le51.trans le90).trans le116).trans le144).trans le181).trans le219)) hx323'
            have hc335 := hE333 _ _ hx323'
            refine Df 8 78 0 (.pointer (some ⟨b326, (o327 + (s113.2.1 : Int).toNat * 7), none⟩)) (fun _ hq => ix 57 76 77 b326 o327 103 7 56 hi324) ?_
            refine Df 9 79 0 (.pointer (some ⟨b326, ((o327 + (s113.2.1 : Int).toNat * 7) + 4), none⟩)) (fun _ hq => fa 103 78 2 4 1 b326 (o327 + (s113.2.1 : Int).toNat * 7) ((o327 + (s113.2.1 : Int).toNat * 7) + 4)) ?_
            refine Df 10 80 3 _ (fun _ hq => lx 3 79 4 7 false 1 (vi x322.Most) (hq.1.1 _ _ hF332) hc335) ?_
            refine Df 11 81 3 (vi (W64 (x310 + x322.Most))) (fun _ hq => run_add (t := 3) (t' := 3) (x := (.tmp 75)) (y := (.tmp 80)) (k := .i64) (a := x310) (b := x322.Most) rfl rfl) ?_
            obtain ⟨x336, hx337, h339⟩ := bind_some h325
            obtain ⟨hi338, hx337'⟩ := idx_spec hx337
            obtain ⟨b340, C341, ha342, he343, hE344⟩ := RowR.open hr319 hx337'
            cases ha342
            cases he343
            have hc346 := hE344 _ _ hx337'
            refine Df 12 82 0 (.pointer (some ⟨b28, ((j145 : Int).toNat * 1), none⟩)) (fun _ hq => run_index0 (t := 50) (x := (.tmp 70)) (y := (.tmp 71)) (b := b28) (E := 3) (s := 1) (by_ := 8) rfl rfl (by kernel_rfl) hi338) ?_
            refine DWP.one (i := 13) (by kernel_rfl) ?_
            refine DStep.storeRow (l' := [true, true, true, true, true, true, true, true, true, true, true, true, true, true]) (zd := true) (by kernel_rfl) (by kernel_rfl) (ty := 0) (g := none) (by kernel_rfl) rfl (x := (.tmp 82)) (y := (.tmp 81)) (t := 3) (v := (vi (W64 (x310 + x322.Most)))) (gg := false) (b := b28) (j := (j145 : Int).toNat) (C := C315) (T := tInt) (E := 3) (u := ((W64 (x310 + x322.Most)))) rfl rfl (by kernel_rfl) hw298 (k := 0) rfl hr319 hx337' rfl rfl (Mem.le.refl _) (fun _ => by simp) (fun e => by cases e) (fun C347 w348 (hs349 : HS w0 F0 w348 F13 [(some b28, .cells C347 3 (0, 0)), (sb b12 (kSpot r4 ar4_0_0 nr4_0_0) 112)]) hr350 => ?_)
            obtain rfl := some_inj h339
            exact DWP.done (by kernel_rfl) ⟨F13, (some b28, .cells C347 3 (0, 0)), hs349, (Mem.le.refl _), e221, e222, e223, (len_set e224), e226, hr350⟩
           ·rintro f w299 ⟨F15, ej302_0, hs300, le301, e303, e304, e305, e306, e307, hrj302_0⟩
            refine thenQ_nrm ?_
            refine Rg [0] ?_
            refine V 7 4 (mc (.bool true) (.bool true)) ?_
            refine RWP.nil ?_
            obtain rfl := some_inj h309
            exact .inl ⟨rfl, F15, ej302_0, hs300, le301, e303, e304, e305, e306, rfl, e307, hrj302_0⟩
          ·have h351 := cond_f hj293 hb295
           refine Sc ?_
           obtain rfl := some_inj h351
           exact .inl ⟨rfl, F13, es113_2, hs218, (Mem.le.refl _), e221, e222, e223, e224, e225, e226, (hrs113_2.mono ((le144.trans le181).trans le219))⟩
         ·rintro f w283 ⟨F14, ej286_0, hs284, le285, e287, e288, e289, e290, e291, e292, hrj286_0⟩
          refine blockQ_nrm ?_
          refine thenQ_nrm ?_
          refine Rg [0, 1, 2] ?_
          refine V 32 3 (mv 8 (vi s113.2.1) e292) ?_
          refine V 33 3 (run_add (t := 3) (t' := 3) (x := (.tmp 32)) (y := (.const (vi 1))) (k := .i64) (a := s113.2.1) (b := 1) rfl rfl) ?_
          refine V 8 3 (ma 33 (vi (W64 (s113.2.1 + 1)))) ?_
          refine RWP.nil ?_
          have hn352 := iter_next h294 hnx137
          exact ⟨m134, Nat.lt_succ_self _, (j286.2, (W64 (s113.2.1 + 1)), j286.1), F14, ej286_0, hn352, hs284, ((((le116.trans le144).trans le181).trans le219).trans le285), e287, e288, e289, e290, e291, rfl, hrj286_0⟩
     ·have h353 := cond_f hb136 hb138
      refine CWP.exit (by kernel_rfl) ?_
      refine thenQ_ex ?_
      refine thenQ_ex ?_
      refine blockQ_hit rfl ?_
      have ho354 := iter_done h353 hnx137
      exact .inl ⟨rfl, (s113.1, s113.2.1, s113.2.2), F7, es113_2, ho354, hs115, le116, e117, e118, e119, e120, e121, hrs113_2⟩
    ·rintro f w124 ⟨s123, F8, es123_2, rfl, hs125, le126, e127, e128, e129, e130, e131, hrs123_2⟩
     have h355 := k_done h112
     refine blockQ_nrm ?_
     have hn356 := iter_next h355 hnx107
     exact ⟨m104, Nat.lt_succ_self _, (s123.1, s123.2.2), F8, es123_2, hn356, hs125, (le90.trans le126), e127, e128, e129, e130, e131, hrs123_2⟩
   ·have h357 := cond_f hb106 hb108
    refine CWP.exit (by kernel_rfl) ?_
    refine thenQ_ex ?_
    refine thenQ_ex ?_
    refine blockQ_hit rfl ?_
    have hs358 : HS w0 F0 w88 F5 [es87_1] := hs89.drop 1
    have ho359 := iter_done h357 hnx107
    exact .inl ⟨rfl, (s87.1, s87.2), F5, es87_1, ho359, hs358, le90, e91, e94, hrs87_1⟩
  ·rintro f w97 ⟨s96, F6, es96_1, rfl, hs98, le99, e100, e101, hrs96_1⟩
   have h360 := k_done h86
   refine thenQ_nrm ?_
   refine Sq (Rg [0, 1] ?_)
   refine V 83 50 (mv 5 (.slice (some ⟨b28, 0, none⟩) s96.2.length n29) e101) ?_
   refine V 2 50 (ma 83 (.slice (some ⟨b28, 0, none⟩) s96.2.length n29)) ?_
   refine Nt ?_
   refine CWP.ret (by kernel_rfl) ?_
   have hb364 := RowR.bound hrs96_1
   obtain ⟨F16, hs361, le362, hs363⟩ : ∃ Fq, HS w0 F0 w97 Fq [] ∧ Mem.le F6 Fq ∧ SlA tInt Fq (some ⟨b28, 0, none⟩) s96.2 := HS.freezeRow hs98 (k := 0) rfl hrs96_1
   have hfin := some_inj h360
   subst hfin
   exact ⟨e100, (.slice (some ⟨b28, 0, none⟩) s96.2.length n29), res_of (l := [.tmp 2]) (by kernel_rfl) (vs := [(.slice (some ⟨b28, 0, none⟩) s96.2.length n29)]) ⟨rfl, trivial⟩, (.slice (some ⟨b28, 0, none⟩) s96.2.length n29), F16, rfl, hs361.clear, ⟨(some ⟨b28, 0, none⟩), n29, rfl, hb364, hs363⟩⟩
end Go.Proofs.Ythbcnabeabcmlaa
namespace Go.Proofs.Ythbcnabeabcmlaa
open Go.Proofs
def ref03_Times_L1 (N : Nat) (x0 : System) (r4 : Int) (r15 : Spot) (r28 : ((List Int) × (List Int) × Int)) (r36 : (List Int)) (s49 : (List (List Span) × Int)) : (List Span × Int) → Option (Flow ((List (List Span)) × Int) (List Span × Int)) := fun s79 =>
 ((idx x0.Tracks s49.2).bind fun x110 => (bif (decide (s79.2 < (x110.Times.length : Int))) then ((ref03_spot_of N r15 ({ Log := s49.2, Line := s79.2 } : Ref)).bind fun r126 => (((idx r36 r126).bind fun x151 => ((idx r28.1 r126).bind fun x165 => ((apnd s79.1 [({ Lo := (W64 (0 - x151)), Hi := x165 } : Span)]).bind fun r184 => some r184))).bind fun j139 => some (.next (j139, (W64 (s79.2 + 1)))))) else some (.done (s79.1, s79.2))))
def ref03_Times_L0 (N : Nat) (x0 : System) (r4 : Int) (r15 : Spot) (r28 : ((List Int) × (List Int) × Int)) (r36 : (List Int)) : (List (List Span) × Int) → Option (Flow ((List (List Span)) × Int) (List (List Span) × Int)) := fun s49 =>
 (bif (decide (s49.2 < (x0.Tracks.length : Int))) then ((iter (ref03_Times_L1 N x0 r4 r15 r28 r36 s49) N (([] : List Span), 0)).bind fun o => o.k (fun r => some (.ret r)) (fun s92 => ((apnd s49.1 [s92.1]).bind fun r207 => some (.next (r207, (W64 (s49.2 + 1))))))) else some (.done (s49.1, s49.2)))
def ref03_Times (N : Nat) (x0 : System) : Option ((List (List Span)) × Int) :=
 ((ref03_asked N x0 ([] : List Ref)).bind fun r4 => (bif (r4 != 0) then some (([] : List (List Span)), r4) else ((ref03_spots N x0).bind fun r15 => ((ref03_reach N x0 0).bind fun r28 => ((ref03_backward N x0).bind fun r36 => ((iter (ref03_Times_L0 N x0 r4 r15 r28 r36) N (([] : List (List Span)), 0)).bind fun o => o.k (fun r => some r) (fun s60 => some (s60.1, 0))))))))
theorem co_ref03_Times : CallOk Try.prog 47 := fun _ _ => by kernel_rfl
set_option maxHeartbeats 4000000 in
set_option maxRecDepth 100000 in
theorem c_ref03_Times (N : Nat) (w0 : World) (F0 : Mem) (hF : ∀ b o, F0 b = some o → w0.heap[b]? = some o) (x0 : System) (a0_0 : Option Addr) (n0_0 : Nat) (hb0_0 : LC x0.Tracks.length n0_0) (hs0_0 : SlA tTrack F0 a0_0 x0.Tracks) (a0_1 : Option Addr) (n0_1 : Nat) (hb0_1 : LC x0.Ties.length n0_1) (hs0_1 : SlA tTie F0 a0_1 x0.Ties) (r : ((List (List Span)) × Int)) (h : ref03_Times N x0 = some r) :
  Calls Try.prog 47 ([(.agg (kSystem x0 a0_0 n0_0 a0_1 n0_1))] : List Value).toArray w0 (FRet w0 F0 fun F' v => ∃ (aq0_0 : Option Addr) (nq0_0 : Nat), v = (.tuple #[(.slice aq0_0 r.1.length nq0_0), (vi r.2)]) ∧ LC r.1.length nq0_0 ∧ SlA (tSl tSpan) F' aq0_0 r.1) := by
 have hs0 := HS.start hF
 refine calls_of (n := 71) (c := bodyOf Try.f47) Try.func47 (by kernel_rfl) (by kernel_rfl) (by kernel_rfl) ?_
 refine Sq (Rg [0, 1, 2] ?_)
 refine Bx 1 0 0 25 (kSystem x0 a0_0 n0_0 a0_1 n0_1) hs0 (fun b1 w2 (hs3 : HS w0 F0 w2 F0 [(sb b1 (kSystem x0 a0_0 n0_0 a0_1 n0_1) 25)]) => ?_)
 refine V 2 33 (mc (.slice none 0 0) (.slice none ([] : List (List Span)).length 0)) ?_
 refine V 3 30 (mc (vi 0) (vi 0)) ?_
 refine Nss (Rg [0, 1, 2] ?_)
 refine V 15 25 (ld 25 1 b1 0 true 3 (.agg (kSystem x0 a0_0 n0_0 a0_1 n0_1)) (hs3.ownAt (k := 0) rfl)) ?_
 obtain ⟨r4, hr5, h6⟩ := bind_some h
 refine Cl 16 30 78 #[(.tmp 15), (.const (.slice none 0 0))] #[25, 109] co_ref03_asked hs3 (c_ref03_asked N w2 F0 hs3.pers (x0) a0_0 n0_0 hb0_0 hs0_0 a0_1 n0_1 hb0_1 hs0_1 (([] : List Ref)) none 0 LC.nil (.inl rfl) _ hr5) ?_
 intro v7 F1 w8 hs9 le10 hp11
 obtain rfl := hp11
 refine V 4 30 (ma 16 (vi r4)) ?_
 refine Nss ?_
 refine Sq (Rg [0, 1] ?_)
 refine V 17 30 (mv 4 (vi r4)) ?_
 refine V 18 4 (run_neq (t := 30) (t' := 30) (x := (.tmp 17)) (y := (.const (vi 0))) (k := .i64) (a := r4) (b := 0) rfl rfl) ?_
 refine Nt ?_
 refine CWP.cond (t := (r4 != 0)) (by kernel_rfl) rfl (fun hb12 => ?_) (fun hb12 => ?_)
 ·have h13 := cond_t h6 hb12
  refine Sq (Rg [0, 1, 2] ?_)
  refine V 19 30 (mv 4 (vi r4)) ?_
  refine V 2 33 (mc (.slice none 0 0) (.slice none ([] : List (List Span)).length 0)) ?_
  refine V 3 30 (ma 19 (vi r4)) ?_
  refine Nt ?_
  refine CWP.ret (by kernel_rfl) ?_
  refine thenQ_ret ?_
  have hfin := some_inj h13
  subst hfin
  exact ⟨rfl, (.tuple #[(.slice none ([] : List (List Span)).length 0), (vi r4)]), res_of (l := [.tmp 2, .tmp 3]) (by kernel_rfl) (vs := [(.slice none ([] : List (List Span)).length 0), (vi r4)]) ⟨rfl, ⟨rfl, trivial⟩⟩, (.tuple #[(.slice none ([] : List (List Span)).length 0), (vi r4)]), F1, rfl, hs9.clear, ⟨none, 0, rfl, LC.nil, (.inl rfl)⟩⟩
 ·have h14 := cond_f h6 hb12
  refine Sc ?_
  refine thenQ_nrm ?_
  refine Sq (Rg [0, 1, 2, 3] ?_)
  refine V 20 25 (ld 25 1 b1 0 true 3 (.agg (kSystem x0 a0_0 n0_0 a0_1 n0_1)) (hs9.ownAt (k := 0) rfl)) ?_
  obtain ⟨r15, hr16, h17⟩ := bind_some h14
  refine Cl 21 112 80 #[(.tmp 20)] #[25] co_ref03_spots hs9 (c_ref03_spots N w8 F1 hs9.pers (x0) a0_0 n0_0 hb0_0 (SlA.mono hs0_0 le10) a0_1 n0_1 hb0_1 (SlA.mono hs0_1 le10) _ hr16) ?_
  intro v18 F2 w19 hs20 le21 hp22
  obtain ⟨ar15_0_0, nr15_0_0, rfl, hbr15_0_0, hsr15_0_0⟩ := hp22
  refine Al 5 0 112 #[(.slice none ([] : List Int).length 0), (vi 0)] hs20 (fun b23 w24 (hs25 : HS w0 F0 w24 F2 [(sb b23 #[(.slice none ([] : List Int).length 0), (vi 0)] 112), (sb b1 (kSystem x0 a0_0 n0_0 a0_1 n0_1) 25)]) => ?_)
  refine RWP.store (ty := 0) (g := none) (by kernel_rfl) rfl (x := (.tmp 5)) (y := (.tmp 21)) (t := 112) (gg := true) (s := 2) (v := (.agg (kSpot r15 ar15_0_0 nr15_0_0))) (b := b23) (o := 0) (C := #[(.slice none ([] : List Int).length 0), (vi 0)]) rfl rfl (by kernel_rfl) hs25 (k := 0) rfl rfl rfl rfl (C' := (kSpot r15 ar15_0_0 nr15_0_0)) rfl (fun w26 (hs27 : HS w0 F0 w26 F2 [(sb b23 (kSpot r15 ar15_0_0 nr15_0_0) 112), (sb b1 (kSystem x0 a0_0 n0_0 a0_1 n0_1) 25)]) => ?_)
  refine Nss (Rg [0, 1, 2, 3, 4, 5, 6, 7, 8] ?_)
  refine V 23 25 (ld 25 1 b1 0 true 3 (.agg (kSystem x0 a0_0 n0_0 a0_1 n0_1)) (hs27.ownAt (k := 1) rfl)) ?_
  obtain ⟨r28, hr29, h30⟩ := bind_some h17
  refine Cl 24 126 92 #[(.tmp 23), (.const (vi 0))] #[25, 3] co_ref03_reach hs27 (c_ref03_reach N w26 F2 hs27.pers (x0) a0_0 n0_0 hb0_0 (SlA.mono hs0_0 (le10.trans le21)) a0_1 n0_1 hb0_1 (SlA.mono hs0_1 (le10.trans le21)) (0) _ hr29) ?_
  intro v31 F3 w32 hs33 le34 hp35
  obtain ⟨ar28_0_0, nr28_0_0, ar28_1_0, nr28_1_0, rfl, hbr28_0_0, hsr28_0_0, hbr28_1_0, hsr28_1_0⟩ := hp35
  refine V 22 126 (mv 24 (.tuple #[(.slice ar28_0_0 r28.1.length nr28_0_0), (.slice ar28_1_0 r28.2.1.length nr28_1_0), (vi r28.2.2)])) ?_
  refine V 25 50 (ex 22 0 (.slice ar28_0_0 r28.1.length nr28_0_0) (vs := #[(.slice ar28_0_0 r28.1.length nr28_0_0), (.slice ar28_1_0 r28.2.1.length nr28_1_0), (vi r28.2.2)])) ?_
  refine V 26 50 (ex 22 1 (.slice ar28_1_0 r28.2.1.length nr28_1_0) (vs := #[(.slice ar28_0_0 r28.1.length nr28_0_0), (.slice ar28_1_0 r28.2.1.length nr28_1_0), (vi r28.2.2)])) ?_
  refine V 27 3 (ex 22 2 (vi r28.2.2) (vs := #[(.slice ar28_0_0 r28.1.length nr28_0_0), (.slice ar28_1_0 r28.2.1.length nr28_1_0), (vi r28.2.2)])) ?_
  refine V 6 50 (ma 25 (.slice ar28_0_0 r28.1.length nr28_0_0)) ?_
  refine V 7 50 (ma 26 (.slice ar28_1_0 r28.2.1.length nr28_1_0)) ?_
  refine V 8 3 (ma 27 (vi r28.2.2)) ?_
  refine Nss (Rg [0, 1, 2] ?_)
  refine V 28 25 (ld 25 1 b1 0 true 3 (.agg (kSystem x0 a0_0 n0_0 a0_1 n0_1)) (hs33.ownAt (k := 1) rfl)) ?_
  obtain ⟨r36, hr37, h38⟩ := bind_some h30
  refine Cl 29 50 93 #[(.tmp 28)] #[25] co_ref03_backward hs33 (c_ref03_backward N w32 F3 hs33.pers (x0) a0_0 n0_0 hb0_0 (SlA.mono hs0_0 ((le10.trans le21).trans le34)) a0_1 n0_1 hb0_1 (SlA.mono hs0_1 ((le10.trans le21).trans le34)) _ hr37) ?_
  intro v39 F4 w40 hs41 le42 hp43
  obtain ⟨ar36_0_0, nr36_0_0, rfl, hbr36_0_0, hsr36_0_0⟩ := hp43
  refine V 9 50 (ma 29 (.slice ar36_0_0 r36.length nr36_0_0)) ?_
  refine Nss (Rg [0] ?_)
  refine V 10 33 (mc (.slice none 0 0) (.slice none ([] : List (List Span)).length 0)) ?_
  refine Nss ?_
  refine Sq (Rg [0] ?_)
  refine V 11 3 (mc (vi 0) (vi 0)) ?_
  refine Nt ?_
  have hs44 : HS w0 F0 w40 F4 [(none, .cells #[] 0 (0, 0)), (sb b23 (kSpot r15 ar15_0_0 nr15_0_0) 112), (sb b1 (kSystem x0 a0_0 n0_0 a0_1 n0_1) 25)] := hs41.dummy _
  obtain ⟨o46, ho47, h48⟩ := bind_some h38
  refine CWP.cut (fun f w => ∃ (s60 : (List (List Span) × Int)) (F6 : Mem) (as60_0 : Option Addr) (ns60_0 : Nat) (es60_0 : Option Nat × Obj), o46 = .done s60 ∧ HS w0 F0 w F6 [es60_0] ∧ Mem.le F4 F6 ∧ f.d = [] ∧ f 10 = (.slice as60_0 s60.1.length ns60_0) ∧ RowR (tSl tSpan) 36 F6 as60_0 ns60_0 s60.1 es60_0) ?_ ?_
  ·refine Bk ?_
   refine CWP.loop (by kernel_rfl) (fun m f w => ∃ (s49 : (List (List Span) × Int)) (F5 : Mem) (as49_0 : Option Addr) (ns49_0 : Nat) (es49_0 : Option Nat × Obj), iter (ref03_Times_L0 N x0 r4 r15 r28 r36) m s49 = some o46 ∧ HS w0 F0 w F5 [es49_0, (sb b23 (kSpot r15 ar15_0_0 nr15_0_0) 112), (sb b1 (kSystem x0 a0_0 n0_0 a0_1 n0_1) 25)] ∧ Mem.le F4 F5 ∧ f.d = [] ∧ f 1 = (.pointer (some ⟨b1, 0, none⟩)) ∧ f 5 = (.pointer (some ⟨b23, 0, none⟩)) ∧ f 6 = (.slice ar28_0_0 r28.1.length nr28_0_0) ∧ f 9 = (.slice ar36_0_0 r36.length nr36_0_0) ∧ f 10 = (.slice as49_0 s49.1.length ns49_0) ∧ f 11 = (vi s49.2) ∧ RowR (tSl tSpan) 36 F5 as49_0 ns49_0 s49.1 es49_0) N ⟨(([] : List (List Span)), 0), F4, none, 0, (none, .cells #[] 0 (0, 0)), ho47, hs44, (Mem.le.refl _), rfl, rfl, rfl, rfl, rfl, rfl, rfl, (RowR.nil (tSl tSpan) 36 F4 _)⟩ ?_
   rintro m66 f w50 ⟨s49, F5, as49_0, ns49_0, es49_0, hit67, hs51, le52, e53, e54, e55, e56, e57, e58, e59, hrs49_0⟩
   obtain ⟨m68, fl69, rfl, hb70, hnx71⟩ := iter_step hit67
   refine Sq ?_
   refine Sq (Rg [0, 1, 2, 3, 4] ?_)
   refine V 30 3 (mv 11 (vi s49.2) e59) ?_
   refine V 31 0 (fa 25 1 0 0 1 b1 0 0 e54) ?_
   refine V 32 22 (ld 22 31 b1 0 false 1 (.slice a0_0 x0.Tracks.length n0_0) (hs51.ownAt (k := 2) rfl)) ?_
   refine V 33 3 (ln 32 22 a0_0 x0.Tracks.length n0_0 54 4 64) ?_
   refine V 34 4 (run_lss (t := 3) (t' := 3) (x := (.tmp 30)) (y := (.tmp 33)) (k := .i64) (a := s49.2) (b := (x0.Tracks.length : Int)) rfl rfl) ?_
   refine Nt ?_
   refine CWP.cond (t := (decide (s49.2 < (x0.Tracks.length : Int)))) (by kernel_rfl) rfl (fun hb72 => ?_) (fun hb72 => ?_)
   ·have h73 := cond_t hb70 hb72
    refine Sc ?_
    refine thenQ_nrm ?_
    refine Sq ?_
    refine Bk ?_
    refine Sq (Rg [0] ?_)
    refine V 12 36 (mc (.slice none 0 0) (.slice none ([] : List Span).length 0)) ?_
    refine Nss ?_
    refine Sq (Rg [0] ?_)
    refine V 13 3 (mc (vi 0) (vi 0)) ?_
    refine Nt ?_
    have hs74 : HS w0 F0 w50 F5 [(none, .cells #[] 0 (0, 0)), es49_0, (sb b23 (kSpot r15 ar15_0_0 nr15_0_0) 112), (sb b1 (kSystem x0 a0_0 n0_0 a0_1 n0_1) 25)] := hs51.dummy _
    obtain ⟨o76, ho77, h78⟩ := bind_some h73
    refine CWP.cut (fun f w => ∃ (s92 : (List Span × Int)) (F8 : Mem) (as92_0 : Option Addr) (ns92_0 : Nat) (es92_0 : Option Nat × Obj), o76 = .done s92 ∧ HS w0 F0 w F8 [es92_0, es49_0, (sb b23 (kSpot r15 ar15_0_0 nr15_0_0) 112), (sb b1 (kSystem x0 a0_0 n0_0 a0_1 n0_1) 25)] ∧ Mem.le F5 F8 ∧ f.d = [] ∧ f 1 = (.pointer (some ⟨b1, 0, none⟩)) ∧ f 5 = (.pointer (some ⟨b23, 0, none⟩)) ∧ f 6 = (.slice ar28_0_0 r28.1.length nr28_0_0) ∧ f 9 = (.slice ar36_0_0 r36.length nr36_0_0) ∧ f 10 = (.slice as49_0 s49.1.length ns49_0) ∧ f 11 = (vi s49.2) ∧ f 12 = (.slice as92_0 s92.1.length ns92_0) ∧ RowR tSpan 38 F8 as92_0 ns92_0 s92.1 es92_0) ?_ ?_
    ·refine Bk ?_
     refine CWP.loop (by kernel_rfl) (fun m f w => ∃ (s79 : (List Span × Int)) (F7 : Mem) (as79_0 : Option Addr) (ns79_0 : Nat) (es79_0 : Option Nat × Obj), iter (ref03_Times_L1 N x0 r4 r15 r28 r36 s49) m s79 = some o76 ∧ HS w0 F0 w F7 [es79_0, es49_0, (sb b23 (kSpot r15 ar15_0_0 nr15_0_0) 112), (sb b1 (kSystem x0 a0_0 n0_0 a0_1 n0_1) 25)] ∧ Mem.le F5 F7 ∧ f.d = [] ∧ f 1 = (.pointer (some ⟨b1, 0, none⟩)) ∧ f 5 = (.pointer (some ⟨b23, 0, none⟩)) ∧ f 6 = (.slice ar28_0_0 r28.1.length nr28_0_0) ∧ f 9 = (.slice ar36_0_0 r36.length nr36_0_0) ∧ f 10 = (.slice as49_0 s49.1.length ns49_0) ∧ f 11 = (vi s49.2) ∧ f 12 = (.slice as79_0 s79.1.length ns79_0) ∧ f 13 = (vi s79.2) ∧ RowR tSpan 38 F7 as79_0 ns79_0 s79.1 es79_0) N ⟨(([] : List Span), 0), F5, none, 0, (none, .cells #[] 0 (0, 0)), ho77, hs74, (Mem.le.refl _), e53, e54, e55, e56, e57, e58, e59, rfl, rfl, (RowR.nil tSpan 38 F5 _)⟩ ?_
     rintro m104 f w80 ⟨s79, F7, as79_0, ns79_0, es79_0, hit105, hs81, le82, e83, e84, e85, e86, e87, e88, e89, e90, e91, hrs79_0⟩
     obtain ⟨m106, fl107, rfl, hb108, hnx109⟩ := iter_step hit105
     refine Sq ?_
     refine Sq (Rg [0, 1, 2, 3, 4, 5, 6, 7, 8] ?_)
     refine V 37 3 (mv 13 (vi s79.2) e91) ?_
     refine V 38 0 (fa 25 1 0 0 1 b1 0 0 e84) ?_
     refine V 39 22 (ld 22 38 b1 0 false 1 (.slice a0_0 x0.Tracks.length n0_0) (hs81.ownAt (k := 3) rfl)) ?_
     refine V 40 3 (mv 11 (vi s49.2) e89) ?_
     obtain ⟨x110, hx111, h113⟩ := bind_some hb108
     obtain ⟨hi112, hx111'⟩ := idx_spec hx111
     obtain ⟨b114, o115, C116, E117, fz118, rfl, hF120, hE121⟩ := SlA.open (SlA.mono hs0_0 (((((le10.trans le21).trans le34).trans le42).trans le52).trans le82)) hx111'
     obtain ⟨ae122_2, ne122_2, ae122_3, ne122_3, hc123, hbe122_2, hse122_2, hbe122_3, hse122_3⟩ := hE121 _ _ hx111'
     refine V 41 0 (ix 22 39 40 b114 o115 54 4 64 hi112) ?_
     refine V 42 0 (fa 54 41 1 3 1 b114 (o115 + (s49.2 : Int).toNat * 4) ((o115 + (s49.2 : Int).toNat * 4) + 3)) ?_
     refine V 43 50 (lx 50 42 3 4 false 1 (.slice ae122_3 x110.Times.length ne122_3) (hs81.pers _ _ hF120) hc123) ?_
     refine V 44 3 (ln 43 50 ae122_3 x110.Times.length ne122_3 3 1 8) ?_
     refine V 45 4 (run_lss (t := 3) (t' := 3) (x := (.tmp 37)) (y := (.tmp 44)) (k := .i64) (a := s79.2) (b := (x110.Times.length : Int)) rfl rfl) ?_
     refine Nt ?_
     refine CWP.cond (t := (decide (s79.2 < (x110.Times.length : Int)))) (by kernel_rfl) rfl (fun hb124 => ?_) (fun hb124 => ?_)
     ·have h125 := cond_t h113 hb124
      refine Sc ?_
      refine thenQ_nrm ?_
      refine Sq ?_
      refine Bk ?_
      refine Sq (Rg [0, 1, 2, 3, 4, 5] ?_)
      refine V 48 112 (ld 112 5 b23 0 true 2 (.agg (kSpot r15 ar15_0_0 nr15_0_0)) (hs81.ownAt (k := 2) rfl) e85) ?_
      refine V 49 3 (mv 11 (vi s49.2) e89) ?_
      refine V 50 3 (mv 13 (vi s79.2) e91) ?_
      refine V 51 27 (run_build2 (t := 27) (parts := #[(0, (.tmp 49)), (1, (.tmp 50))]) (vs := [(0, (vi s49.2)), (1, (vi s79.2))]) (rfl) (cs := [(vi s49.2), (vi s79.2)]) (by kernel_rfl)) ?_
      obtain ⟨r126, hr127, h128⟩ := bind_some h125
      refine Cl 52 3 81 #[(.tmp 48), (.tmp 51)] #[112, 27] co_ref03_spot_of hs81 (c_ref03_spot_of N w80 F7 hs81.pers (r15) ar15_0_0 nr15_0_0 hbr15_0_0 (SlA.mono hsr15_0_0 (((le34.trans le42).trans le52).trans le82)) (({ Log := s49.2, Line := s79.2 } : Ref)) _ hr127) ?_
      intro v129 F9 w130 hs131 le132 hp133
      obtain rfl := hp133
      refine V 14 3 (ma 52 (vi r126)) ?_
      refine Nt ?_
      obtain ⟨j139, hj149, h150⟩ := bind_some h128
      refine CWP.regionD (by kernel_rfl) (by kernel_rfl) (by kernel_rfl) (by kernel_rfl) (z := 14) (F := F9) (Lc := [es49_0, (sb b23 (kSpot r15 ar15_0_0 nr15_0_0) 112), (sb b1 (kSystem x0 (some ⟨b114, o115, none⟩) n0_0 a0_1 n0_1) 25)]) (Lz := []) (l := [false, false, false, false, false, false, false, false, false, false, false, false, false, false]) (fuel := 14) (by kernel_rfl) (by kernel_rfl) hs131 (by simp) (by simp) (fun f w => ∃ (F10 : Mem) (aj139_0 : Option Addr) (nj139_0 : Nat) (ej139_0 : Option Nat × Obj), HS w0 F0 w F10 [ej139_0, es49_0, (sb b23 (kSpot r15 ar15_0_0 nr15_0_0) 112), (sb b1 (kSystem x0 (some ⟨b114, o115, none⟩) n0_0 a0_1 n0_1) 25)] ∧ Mem.le F9 F10 ∧ f.d = [] ∧ f 1 = (.pointer (some ⟨b1, 0, none⟩)) ∧ f 5 = (.pointer (some ⟨b23, 0, none⟩)) ∧ f 6 = (.slice ar28_0_0 r28.1.length nr28_0_0) ∧ f 9 = (.slice ar36_0_0 r36.length nr36_0_0) ∧ f 10 = (.slice as49_0 s49.1.length ns49_0) ∧ f 11 = (vi s49.2) ∧ f 12 = (.slice aj139_0 j139.length nj139_0) ∧ f 13 = (vi s79.2) ∧ RowR tSpan 38 F10 aj139_0 nj139_0 j139 ej139_0) (fun wd134 hw135 => ?_) ?_
      ·refine Dt 0 53 36 _ (fun _ hq => mv 12 (.slice as79_0 s79.1.length ns79_0) e90) ?_
       refine Dt 1 54 50 _ (fun _ hq => mv 9 (.slice ar36_0_0 r36.length nr36_0_0) e87) ?_
       refine Dt 2 55 3 _ (fun _ hq => mv 14 (vi r126)) ?_
       obtain ⟨x151, hx152, h154⟩ := bind_some hj149
       obtain ⟨hi153, hx152'⟩ := idx_spec hx152
       obtain ⟨b155, o156, C157, E158, fz159, rfl, hF161, hE162⟩ := SlA.open (SlA.mono hsr36_0_0 ((le52.trans le82).trans le132)) hx152'
       have hc164 := hE162 _ _ hx152'
       refine Dt 3 56 0 (.pointer (some ⟨b155, (o156 + (r126 : Int).toNat * 1), none⟩)) (fun _ hq => ix 50 54 55 b155 o156 3 1 8 hi153) ?_
       refine Dt 4 57 3 _ (fun _ hq => lx 3 56 0 1 false 1 (vi x151) (hq.1.1 _ _ hF161) hc164) ?_
       refine Dt 5 58 3 (vi (W64 (0 - x151))) (fun _ hq => run_sub (t := 3) (t' := 3) (x := (.const (vi 0))) (y := (.tmp 57)) (k := .i64) (a := 0) (b := x151) rfl rfl) ?_
       refine Dt 6 59 50 _ (fun _ hq => mv 6 (.slice ar28_0_0 r28.1.length nr28_0_0) e86) ?_
       refine Dt 7 60 3 _ (fun _ hq => mv 14 (vi r126)) ?_
       obtain ⟨x165, hx166, h168⟩ := bind_some h154
       obtain ⟨hi167, hx166'⟩ := idx_spec hx166
       obtain ⟨b169, o170, C171, E172, fz173, rfl, hF175, hE176⟩ := SlA.open (SlA.mono hsr28_0_0 (((le42.trans le52).trans le82).trans le132)) hx166'
       have hc178 := hE176 _ _ hx166'
       refine Dt 8 61 0 (.pointer (some ⟨b169, (o170 + (r126 : Int).toNat * 1), none⟩)) (fun _ hq => ix 50 59 60 b169 o170 3 1 8 hi167) ?_
       refine Dt 9 62 3 _ (fun _ hq => lx 3 61 0 1 false 1 (vi x165) (hq.1.1 _ _ hF175) hc178) ?_
       refine Dt 10 63 38 (.agg #[(vi (W64 (0 - x151))), (vi x165)]) (fun _ hq => run_build2 (t := 38) (parts := #[(0, (.tmp 58)), (1, (.tmp 62))]) (vs := [(0, (vi (W64 (0 - x151)))), (1, (vi x165))]) (rfl) (cs := [(vi (W64 (0 - x151))), (vi x165)]) (by kernel_rfl)) ?_
       refine DWP.one (i := 11) (by kernel_rfl) ?_
       refine DStep.buildSlice (l' := [true, true, true, true, true, true, true, true, true, true, true, true, false, false]) (zd := true) (by kernel_rfl) (by kernel_rfl) (dst := (some 64)) (ty := 36) (g := none) (by kernel_rfl) rfl (t := 36) (len := 1) (parts := #[(0, (.tmp 63))]) (vs := [(0, (.agg #[(vi (W64 (0 - x151))), (vi x165)]))]) (rfl) (E := 38) (cs := [(vi (W64 (0 - x151))), (vi x165)]) (by kernel_rfl) hw135 (Mem.le.refl _) (by simp) (fun e => by cases e) (fun b179 w180 (hs181 : HS w0 F0 w180 F9 [(some b179, .cells ([(vi (W64 (0 - x151))), (vi x165)] : List Value).toArray 38 (0, 0)), es79_0, es49_0, (sb b23 (kSpot r15 ar15_0_0 nr15_0_0) 112), (sb b1 (kSystem x0 (some ⟨b114, o115, none⟩) n0_0 a0_1 n0_1) 25)]) => ?_)
       have hr183 : RowR tSpan 38 F9 (some ⟨b179, 0, none⟩) 1 [({ Lo := (W64 (0 - x151)), Hi := x165 } : Span)] (some b179, .cells ([(vi (W64 (0 - x151))), (vi x165)] : List Value).toArray 38 (0, 0)) := RowR.lit ⟨rfl, rfl⟩ (by simp)
       refine DWP.one (i := 12) (by kernel_rfl) ?_
       obtain ⟨r184, hap185, h186⟩ := bind_some h168
       refine DStep.append (l' := [true, true, true, true, true, true, true, true, true, true, true, true, true, false]) (zd := true) (by kernel_rfl) (by kernel_rfl) (dst := (some 65)) (ty := 36) (g := none) (by kernel_rfl) rfl (x := (.tmp 53)) (y := (.tmp 64)) (t := 36) (t2 := 36) (by_ := 16) (z := (.agg #[(vi 0), (vi 0)])) (a2 := (some ⟨b179, 0, none⟩)) (c2 := 1) (m := [({ Lo := (W64 (0 - x151)), Hi := x165 } : Span)]) (T := tSpan) (E := 38) (a := as79_0) (cap := ns79_0) (l := s79.1) rfl rfl (by kernel_rfl) (by decide) (by kernel_rfl) (by kernel_rfl) rfl oSpan hs181 (k := 1) rfl (hrs79_0.mono le132) (RowR.rd hs181 (k := 0) rfl hr183) (r := r184) hap185 (Mem.le.refl _) (fun _ => by simp) (fun e => by cases e) (fun a187 n188 e189 w190 (hs191 : HS w0 F0 w190 F9 [(some b179, .cells ([(vi (W64 (0 - x151))), (vi x165)] : List Value).toArray 38 (0, 0)), e189, es49_0, (sb b23 (kSpot r15 ar15_0_0 nr15_0_0) 112), (sb b1 (kSystem x0 (some ⟨b114, o115, none⟩) n0_0 a0_1 n0_1) 25)]) hr192 => ?_)
       refine Dt 13 12 36 _ (fun _ hq => ma 65 (.slice a187 r184.length n188)) ?_
       obtain rfl := some_inj h186
       have hs193 : HS w0 F0 w190 F9 [e189, es49_0, (sb b23 (kSpot r15 ar15_0_0 nr15_0_0) 112), (sb b1 (kSystem x0 (some ⟨b114, o115, none⟩) n0_0 a0_1 n0_1) 25)] := hs191.drop 0
       exact DWP.done (by kernel_rfl) ⟨F9, a187, n188, e189, hs193, (Mem.le.refl _), e83, e84, e85, e86, e87, e88, e89, rfl, e91, hr192⟩
      ·rintro f w136 ⟨F10, aj139_0, nj139_0, ej139_0, hs137, le138, e140, e141, e142, e143, e144, e145, e146, e147, e148, hrj139_0⟩
       refine blockQ_nrm ?_
       refine thenQ_nrm ?_
       refine Rg [0, 1, 2] ?_
       refine V 46 3 (mv 13 (vi s79.2) e148) ?_
       refine V 47 3 (run_add (t := 3) (t' := 3) (x := (.tmp 46)) (y := (.const (vi 1))) (k := .i64) (a := s79.2) (b := 1) rfl rfl) ?_
       refine V 13 3 (ma 47 (vi (W64 (s79.2 + 1)))) ?_
       refine RWP.nil ?_
       have hn194 := iter_next h150 hnx109
       exact ⟨m106, Nat.lt_succ_self _, (j139, (W64 (s79.2 + 1))), F10, aj139_0, nj139_0, ej139_0, hn194, hs137, ((le82.trans le132).trans le138), e140, e141, e142, e143, e144, e145, e146, e147, rfl, hrj139_0⟩
     ·have h195 := cond_f h113 hb124
      refine CWP.exit (by kernel_rfl) ?_
      refine thenQ_ex ?_
      refine thenQ_ex ?_
      refine blockQ_hit rfl ?_
      have ho196 := iter_done h195 hnx109
      exact .inl ⟨rfl, (s79.1, s79.2), F7, as79_0, ns79_0, es79_0, ho196, hs81, le82, e83, e84, e85, e86, e87, e88, e89, e90, hrs79_0⟩
    ·rintro f w93 ⟨s92, F8, as92_0, ns92_0, es92_0, rfl, hs94, le95, e96, e97, e98, e99, e100, e101, e102, e103, hrs92_0⟩
     have h197 := k_done h78
     refine thenQ_nrm ?_
     refine Rg [0, 1, 2, 3, 4] ?_
     refine V 66 33 (mv 10 (.slice as49_0 s49.1.length ns49_0) e101) ?_
     refine V 67 36 (mv 12 (.slice as92_0 s92.1.length ns92_0) e103) ?_
     have hb201 := RowR.bound hrs92_0
     obtain ⟨F11, hs198, le199, hs200⟩ : ∃ Fq, HS w0 F0 w93 Fq [es49_0, (sb b23 (kSpot r15 ar15_0_0 nr15_0_0) 112), (sb b1 (kSystem x0 a0_0 n0_0 a0_1 n0_1) 25)] ∧ Mem.le F8 Fq ∧ SlA tSpan Fq as92_0 s92.1 := HS.freezeRow hs94 (k := 0) rfl hrs92_0
     refine RWP.buildSlice (dst := (some 68)) (ty := 33) (g := none) (by kernel_rfl) rfl (t := 33) (len := 1) (parts := #[(0, (.tmp 67))]) (vs := [(0, (.slice as92_0 s92.1.length ns92_0))]) (rfl) (E := 36) (cs := [(.slice as92_0 s92.1.length ns92_0)]) (by kernel_rfl) hs198 (fun b202 w203 (hs204 : HS w0 F0 w203 F11 [(some b202, .cells ([(.slice as92_0 s92.1.length ns92_0)] : List Value).toArray 36 (0, 0)), es49_0, (sb b23 (kSpot r15 ar15_0_0 nr15_0_0) 112), (sb b1 (kSystem x0 a0_0 n0_0 a0_1 n0_1) 25)]) => ?_)
     have hr206 : RowR (tSl tSpan) 36 F11 (some ⟨b202, 0, none⟩) 1 [s92.1] (some b202, .cells ([(.slice as92_0 s92.1.length ns92_0)] : List Value).toArray 36 (0, 0)) := RowR.lit ⟨⟨as92_0, ns92_0, rfl, hb201, hs200⟩, rfl⟩ (by simp)
     obtain ⟨r207, hap208, h209⟩ := bind_some h197
     refine RWP.append (dst := (some 69)) (ty := 33) (g := none) (by kernel_rfl) rfl (x := (.tmp 66)) (y := (.tmp 68)) (t := 33) (t2 := 33) (by_ := 24) (z := (.slice none ([] : List Span).length 0)) (a2 := (some ⟨b202, 0, none⟩)) (c2 := 1) (m := [s92.1]) (T := (tSl tSpan)) (E := 36) (a := as49_0) (cap := ns49_0) (l := s49.1) rfl rfl (by kernel_rfl) (by decide) (by kernel_rfl) (by kernel_rfl) rfl oSl hs204 (k := 1) rfl (hrs49_0.mono (le95.trans le199)) (RowR.rd hs204 (k := 0) rfl hr206) (r := r207) hap208 (fun a210 n211 e212 w213 (hs214 : HS w0 F0 w213 F11 [(some b202, .cells ([(.slice as92_0 s92.1.length ns92_0)] : List Value).toArray 36 (0, 0)), e212, (sb b23 (kSpot r15 ar15_0_0 nr15_0_0) 112), (sb b1 (kSystem x0 a0_0 n0_0 a0_1 n0_1) 25)]) hr215 => ?_)
     refine V 10 33 (ma 69 (.slice a210 r207.length n211)) ?_
     refine RWP.nil ?_
     refine blockQ_nrm ?_
     refine thenQ_nrm ?_
     refine Rg [0, 1, 2] ?_
     refine V 35 3 (mv 11 (vi s49.2) e102) ?_
     refine V 36 3 (run_add (t := 3) (t' := 3) (x := (.tmp 35)) (y := (.const (vi 1))) (k := .i64) (a := s49.2) (b := 1) rfl rfl) ?_
     refine V 11 3 (ma 36 (vi (W64 (s49.2 + 1)))) ?_
     refine RWP.nil ?_
     have hs216 : HS w0 F0 w213 F11 [e212, (sb b23 (kSpot r15 ar15_0_0 nr15_0_0) 112), (sb b1 (kSystem x0 a0_0 n0_0 a0_1 n0_1) 25)] := hs214.drop 0
     have hn217 := iter_next h209 hnx71
     exact ⟨m68, Nat.lt_succ_self _, (r207, (W64 (s49.2 + 1))), F11, a210, n211, e212, hn217, hs216, ((le52.trans le95).trans le199), e96, e97, e98, e99, e100, rfl, rfl, hr215⟩
   ·have h218 := cond_f hb70 hb72
    refine CWP.exit (by kernel_rfl) ?_
    refine thenQ_ex ?_
    refine thenQ_ex ?_
    refine blockQ_hit rfl ?_
    have hs219 : HS w0 F0 w50 F5 [es49_0, (sb b1 (kSystem x0 a0_0 n0_0 a0_1 n0_1) 25)] := hs51.drop 1
    have hs220 : HS w0 F0 w50 F5 [es49_0] := hs219.drop 1
    have ho221 := iter_done h218 hnx71
    exact .inl ⟨rfl, (s49.1, s49.2), F5, as49_0, ns49_0, es49_0, ho221, hs220, le52, e53, e58, hrs49_0⟩
  ·rintro f w61 ⟨s60, F6, as60_0, ns60_0, es60_0, rfl, hs62, le63, e64, e65, hrs60_0⟩
   have h222 := k_done h48
   refine thenQ_nrm ?_
   refine Sq (Rg [0, 1, 2] ?_)
   refine V 70 33 (mv 10 (.slice as60_0 s60.1.length ns60_0) e65) ?_
   refine V 2 33 (ma 70 (.slice as60_0 s60.1.length ns60_0)) ?_
   refine V 3 30 (mc (vi 0) (vi 0)) ?_
   refine Nt ?_
   refine CWP.ret (by kernel_rfl) ?_
   have hb226 := RowR.bound hrs60_0
   obtain ⟨F12, hs223, le224, hs225⟩ : ∃ Fq, HS w0 F0 w61 Fq [] ∧ Mem.le F6 Fq ∧ SlA (tSl tSpan) Fq as60_0 s60.1 := HS.freezeRow hs62 (k := 0) rfl hrs60_0
   have hfin := some_inj h222
   subst hfin
   exact ⟨e64, (.tuple #[(.slice as60_0 s60.1.length ns60_0), (vi 0)]), res_of (l := [.tmp 2, .tmp 3]) (by kernel_rfl) (vs := [(.slice as60_0 s60.1.length ns60_0), (vi 0)]) ⟨rfl, ⟨rfl, trivial⟩⟩, (.tuple #[(.slice as60_0 s60.1.length ns60_0), (vi 0)]), F12, rfl, hs223.clear, ⟨as60_0, ns60_0, rfl, hb226, hs225⟩⟩
end Go.Proofs.Ythbcnabeabcmlaa
namespace Go.Proofs.Ythbcnabeabcmlaa
open Go.Proofs
def clocks_Earliest_1 (N : Nat) (x0 : Ref) (z0 : Reached) : Option Int :=
 some (W64 (0 - (mgetD z0.at_ x0 0)))
theorem co_clocks_Earliest_1 : CallOk Try.prog 95 := fun _ _ => by kernel_rfl
set_option maxHeartbeats 4000000 in
set_option maxRecDepth 100000 in
theorem c_clocks_Earliest_1 (N : Nat) (w0 : World) (F0 : Mem) (hF : ∀ b o, F0 b = some o → w0.heap[b]? = some o) (x0 : Ref) (bz0 : Nat) (z0 : Reached) (oz0_0 : Option Nat) (hmz0_0 : MpA tRef tInt F0 oz0_0 z0.at_) (oz0_1 : Option Nat) (hmz0_1 : MpA tRef tBound F0 oz0_1 z0.by_) (hz0 : F0 bz0 = some (oc #[(.map oz0_0), (.map oz0_1)] 95)) (r : Int) (h : clocks_Earliest_1 N x0 z0 = some r) :
  Calls Try.prog 95 ([(.agg (kRef x0)), (.pointer (some ⟨bz0, 0, none⟩))] : List Value).toArray w0 (FRet w0 F0 fun F' v => v = (vi r)) := by
 have hs0 := HS.start hF
 refine calls_of (n := 9) (c := bodyOf Try.f95) Try.func95 (by kernel_rfl) (by kernel_rfl) (by kernel_rfl) ?_
 refine Sq (Rg [0, 1] ?_)
 refine Bx 2 0 0 27 (kRef x0) hs0 (fun b1 w2 (hs3 : HS w0 F0 w2 F0 [(sb b1 (kRef x0) 27)]) => ?_)
 refine V 3 3 (mc (vi 0) (vi 0)) ?_
 refine Nss (Rg [0, 1, 2, 3, 4, 5] ?_)
 refine V 4 0 (fa 95 1 0 0 1 bz0 0 0) ?_
 refine V 5 92 (ld 92 4 bz0 0 false 1 (.map oz0_0) (hs3.pers _ _ hz0)) ?_
 refine V 6 27 (ld 27 2 b1 0 true 2 (.agg (kRef x0)) (hs3.ownAt (k := 0) rfl)) ?_
 refine V 7 3 (run_lookV1 (mt := 92) (k := 27) (vt := 3) (m := (.tmp 5)) (x := (.tmp 6)) (kv := (.agg (kRef x0))) (kx := x0) (z := (vi 0)) (zx := 0) (K := tRef) (T := tInt) kl27 rfl rfl ⟨_, rfl, rfl⟩ (by kernel_rfl) (by kernel_rfl) ⟨_, rfl, rfl⟩ (MpA.mpw hs3.pers hmz0_0) (fun h => by obtain ⟨_, rfl, rfl⟩ := h; rfl)) ?_
 refine V 8 3 (run_neg (t := 3) (x := (.tmp 7)) (k := .i64) (a := (mgetD z0.at_ x0 0)) rfl) ?_
 refine V 3 3 (ma 8 (vi (W64 (0 - (mgetD z0.at_ x0 0))))) ?_
 refine Nt ?_
 refine CWP.ret (by kernel_rfl) ?_
 have hfin := some_inj h
 subst hfin
 exact ⟨rfl, (vi (W64 (0 - (mgetD z0.at_ x0 0)))), res_of (l := [.tmp 3]) (by kernel_rfl) (vs := [(vi (W64 (0 - (mgetD z0.at_ x0 0))))]) ⟨rfl, trivial⟩, (vi (W64 (0 - (mgetD z0.at_ x0 0)))), F0, rfl, hs3.clear, rfl⟩
end Go.Proofs.Ythbcnabeabcmlaa
namespace Go.Proofs.Ythbcnabeabcmlaa
open Go.Proofs
def clocks_each_int_L1 (N : Nat) (x1 : Ref → Option Int) (log : Int) (t : Track) : (Int × List Int) → Option (Flow (List (List Int)) (Int × List Int)) := fun s =>
 bif decide (s.1 < (t.Times.length : Int)) then ((x1 ({ Log := log, Line := s.1 } : Ref)).bind fun r => (apnd s.2 [r]).bind fun row => some (.next (W64 (s.1 + 1), row))) else some (.done s)
def clocks_each_int_L0 (N : Nat) (x0 : System) (x1 : Ref → Option Int) : List (List Int) → Option (Flow (List (List Int)) (List (List Int))) := fun done =>
 bif decide ((done.length : Int) < (x0.Tracks.length : Int)) then ((idx x0.Tracks (done.length : Int)).bind fun t => (iter (clocks_each_int_L1 N x1 (done.length : Int) t) N (0, [])).bind fun o => o.k (fun r => some (.ret r)) (fun s => some (.next (done ++ [s.2])))) else some (.done done)
def clocks_each_int (N : Nat) (x0 : System) (x1 : Ref → Option Int) : Option (List (List Int)) :=
 (mk0 (GC.raw nilv : GC Int) (x0.Tracks.length : Int)).bind fun _ => (iter (clocks_each_int_L0 N x0 x1) N []).bind fun o => o.k (fun r => some r) (fun done => some done)
theorem clocks_each_int_inner {N : Nat} {x1 : Ref → Option Int} {log : Int} {t : Track} {m : Nat} {s : Int × List Int} {o : Flow (List (List Int)) (Int × List Int)} (h : iter (clocks_each_int_L1 N x1 log t) m s = some o) : ∃ s', o = .done s' := by
 obtain ⟨s1, _, hb, hne⟩ := iter_inv (fun _ => True) (fun _ _ _ _ => trivial) trivial h
 unfold clocks_each_int_L1 at hb
 rcases cond_some hb with ⟨_, hb⟩ | ⟨_, hb⟩
 ·obtain ⟨_, _, hb⟩ := bind_some hb
  obtain ⟨_, _, hb⟩ := bind_some hb
  cases hb
  exact absurd rfl (hne _)
 ·cases hb; exact ⟨_, rfl⟩
theorem co_clocks_each_int : CallOk Try.prog 94 := fun _ _ => by kernel_rfl
set_option maxHeartbeats 4000000 in
set_option maxRecDepth 100000 in
theorem c_clocks_each_int (N : Nat) (w0 : World) (F0 : Mem) (hF : ∀ b o, F0 b = some o → w0.heap[b]? = some o) (x0 : System) (a0_0 : Option Addr) (n0_0 : Nat) (hb0_0 : LC x0.Tracks.length n0_0) (hs0_0 : SlA tTrack F0 a0_0 x0.Tracks) (a0_1 : Option Addr) (n0_1 : Nat) (hb0_1 : LC x0.Ties.length n0_1) (hs0_1 : SlA tTie F0 a0_1 x0.Ties)
  (gx1 : FuncId) (fx1 kx1 : List Value) (x1 : Ref → Option Int) (hox1 : CallOk Try.prog gx1) (hpx1 : ∀ (w' : World) (F' : Mem) (y0 : Ref) (r : Int), Mem.le F0 F' → (∀ b o, F' b = some o → w'.heap[b]? = some o) → x1 y0 = some r → Calls Try.prog gx1 (fx1 ++ (([(.agg (kRef y0))] : List Value) ++ kx1)).toArray w' (FRet w' F' fun F'' v => v = (vi r))) (r : List (List Int)) (h : clocks_each_int N x0 x1 = some r) :
  Calls Try.prog 94 ([(.agg (kSystem x0 a0_0 n0_0 a0_1 n0_1)), (.func (.func gx1) fx1.toArray kx1.toArray)] : List Value).toArray w0 (FRet w0 F0 fun F' v => ∃ (aq0_0 : Option Addr) (nq0_0 : Nat), v = (.slice aq0_0 r.length nq0_0) ∧ LC r.length nq0_0 ∧ SlA (tSl tInt) F' aq0_0 r) := by
 have hs0 := HS.start hF
 obtain ⟨q0, hq0, h⟩ := bind_some h
 obtain ⟨o, ho, h⟩ := bind_some h
 obtain ⟨k, hk⟩ : ∃ k, x0.Tracks.length = k := ⟨_, rfl⟩
 have hkb : k < 9223372036854775808 := hk ▸ hb0_0.2
 refine calls_of (n := 44) (c := bodyOf Try.f94) Try.func94 (by kernel_rfl) (by kernel_rfl) (by kernel_rfl) ?_
 refine CWP.seq (by kernel_rfl) ?_
 refine CWP.region (l := [0, 1]) (by kernel_rfl) (by kernel_rfl) (by kernel_rfl) ?_
 refine RWP.box (dst := (some 2)) (ty := 0) (g := none) (by kernel_rfl) rfl (x := (.tmp 0)) (t := 25) (v := (.agg (kSystem x0 a0_0 n0_0 a0_1 n0_1))) rfl (C := (kSystem x0 a0_0 n0_0 a0_1 n0_1)) rfl hs0 (fun b1 w1 hs1 => ?_)
 refine RWP.val (dst := (some 4)) (ty := 71) (g := none) (by kernel_rfl) rfl (run_assign (x := (.const (.slice none 0 0))) (v := (.slice none 0 0)) rfl) ?_
 refine RWP.nil ?_
 refine thenQ_nrm ?_
 refine CWP.seq (by kernel_rfl) ?_
 refine CWP.region (l := [0, 1, 2, 3, 4]) (by kernel_rfl) (by kernel_rfl) (by kernel_rfl) ?_
 refine RWP.val (dst := (some 9)) (ty := 0) (g := none) (by kernel_rfl) rfl (run_fieldAddr (s := 25) (x := (.tmp 2)) (i := 0) (o := 0) (k := 1) (b := b1) (o0 := 0) rfl (by kernel_rfl) rfl (o1 := 0) rfl) ?_
 refine RWP.val (dst := (some 10)) (ty := 22) (g := none) (by kernel_rfl) rfl (run_load' (t := 22) (x := (.tmp 9)) (b := b1) (o := 0) (g := false) (s := 1) (C := (kSystem x0 a0_0 n0_0 a0_1 n0_1)) (v := (.slice a0_0 x0.Tracks.length n0_0)) rfl (by kernel_rfl) (hs1.ownAt (k := 0) rfl) rfl rfl rfl) ?_
 refine RWP.val (dst := (some 11)) (ty := 3) (g := none) (by kernel_rfl) rfl (run_len_slice' (x := (.tmp 10)) (ats := #[22]) (a := a0_0) (n := x0.Tracks.length) (c := n0_0) (E := 54) (s := 4) (by_ := 64) rfl rfl (by kernel_rfl)) ?_
 refine RWP.makeSlice (dst := (some 12)) (ty := 71) (g := none) (by kernel_rfl) rfl (x := (.tmp 11)) (y := (.tmp 11)) (t := 71) (by_ := 24) (z := (.slice none 0 0)) (T := tGC tInt) (E := 50) rfl rfl (by kernel_rfl) (by decide) (by kernel_rfl) (z0 := .raw nilv) (fun _ => rfl) (by decide) hs1 hq0 (fun b cap C w2 hs2 hr2 => ?_)
 refine RWP.val (dst := (some 5)) (ty := 71) (g := none) (by kernel_rfl) rfl (run_assign (x := (.tmp 12)) (v := .slice (some ⟨b, 0, none⟩) q0.length cap) rfl) ?_
 refine RWP.nil ?_
 refine thenQ_nrm ?_
 obtain ⟨hq1, hq2⟩ := mk0_spec hq0
 have hqg : q0 = gl k [] := by rw [hq2, gl_nil, ← hk]; simp
 subst hqg
 refine CWP.seq (by kernel_rfl) ?_
 refine CWP.seq (by kernel_rfl) ?_
 refine CWP.region (l := [0, 1, 2, 3]) (by kernel_rfl) (by kernel_rfl) (by kernel_rfl) ?_
 refine RWP.val (dst := (some 13)) (ty := 0) (g := none) (by kernel_rfl) rfl (run_fieldAddr (s := 25) (x := (.tmp 2)) (i := 0) (o := 0) (k := 1) (b := b1) (o0 := 0) rfl (by kernel_rfl) rfl (o1 := 0) rfl) ?_
 refine RWP.val (dst := (some 14)) (ty := 22) (g := none) (by kernel_rfl) rfl (run_load' (t := 22) (x := (.tmp 13)) (b := b1) (o := 0) (g := false) (s := 1) (C := (kSystem x0 a0_0 n0_0 a0_1 n0_1)) (v := (.slice a0_0 x0.Tracks.length n0_0)) rfl (by kernel_rfl) (hs2.ownAt (k := 1) rfl) rfl rfl rfl) ?_
 refine RWP.val (dst := (some 15)) (ty := 3) (g := none) (by kernel_rfl) rfl (run_len_slice' (x := (.tmp 14)) (ats := #[22]) (a := a0_0) (n := x0.Tracks.length) (c := n0_0) (E := 54) (s := 4) (by_ := 64) rfl rfl (by kernel_rfl)) ?_
 refine RWP.val (dst := (some 16)) (ty := 3) (g := none) (by kernel_rfl) rfl (run_move (x := (.const (vi 0))) (v := (vi 0)) rfl) ?_
 refine RWP.nil ?_
 refine thenQ_nrm ?_
 have hs3 : HS w0 F0 w2 F0 [(some b, .cells C 50 (0, 0))] := hs2.drop 1
 refine CWP.cut (fun f w => ∃ (done : List (List Int)) (F1 : Mem) (e1 : Option Nat × Obj), o = .done done ∧ HS w0 F0 w F1 [e1] ∧ Mem.le F0 F1 ∧ f.d = [] ∧ f 5 = .slice (some ⟨b, 0, none⟩) (gl k done).length cap ∧ done.length = k ∧ RowR (tGC tInt) 50 F1 (some ⟨b, 0, none⟩) cap (gl k done) e1) ?_ ?_
 ·
  refine CWP.block (by kernel_rfl) ?_
  refine CWP.loop (by kernel_rfl) (fun m f w => ∃ (done : List (List Int)) (F1 : Mem) (e1 : Option Nat × Obj), iter (clocks_each_int_L0 N x0 x1) m done = some o ∧ HS w0 F0 w F1 [e1] ∧ Mem.le F0 F1 ∧ f.d = [] ∧ f 1 = .func (.func gx1) fx1.toArray kx1.toArray ∧ f 5 = .slice (some ⟨b, 0, none⟩) (gl k done).length cap ∧ f 14 = .slice a0_0 x0.Tracks.length n0_0 ∧ f 15 = .int .i64 (x0.Tracks.length : Int) ∧ f 16 = .int .i64 (done.length : Int) ∧ done.length ≤ k ∧ RowR (tGC tInt) 50 F1 (some ⟨b, 0, none⟩) cap (gl k done) e1) N ⟨[], F0, _, ho, hs3, Mem.le.refl _, rfl, rfl, rfl, rfl, rfl, rfl, by simp, hr2⟩ ?_
  rintro m f w ⟨done, F1, e1, hit, hs, hle0, hd, h1, h5, h14, h15, h16, hdk, hr1⟩
  obtain ⟨m1, fl, rfl, hb, hnx⟩ := iter_step hit
  unfold clocks_each_int_L0 at hb
  refine CWP.seq (by kernel_rfl) ?_
  refine CWP.region (l := [0]) (by kernel_rfl) (by kernel_rfl) (by kernel_rfl) ?_
  refine RWP.val (dst := (some 17)) (ty := 0) (g := none) (by kernel_rfl) rfl (run_lss (t := 3) (t' := 3) (x := (.tmp 16)) (y := (.tmp 15)) (k := .i64) (a := (done.length : Int)) (b := (x0.Tracks.length : Int)) h16 h15) ?_
  refine RWP.nil ?_
  refine thenQ_nrm ?_
  refine CWP.seq (by kernel_rfl) ?_
  refine CWP.cond (t := decide ((done.length : Int) < (x0.Tracks.length : Int))) (by kernel_rfl) rfl (fun hc => ?_) (fun hc => ?_)
  rotate_left
  ·refine CWP.exit (by kernel_rfl) ?_
   refine thenQ_ex ?_
   refine thenQ_ex ?_
   refine blockQ_hit rfl ?_
   have hb := cond_f hb hc
   have ho' := iter_done hb hnx
   have hlen : done.length = k := by
    have : ¬ ((done.length : Int) < (x0.Tracks.length : Int)) := by simpa using hc
    rw [hk] at this; omega
   exact .inl ⟨rfl, done, F1, e1, ho', hs, hle0, hd, h5, hlen, hr1⟩
  ·have hb := cond_t hb hc
   have hdk : done.length < k := by
    have : ((done.length : Int) < (x0.Tracks.length : Int)) := by simpa using hc
    rw [hk] at this; omega
   obtain ⟨t, ht, hb⟩ := bind_some hb
   obtain ⟨o2, ho2, hb⟩ := bind_some hb
   obtain ⟨sE, rfl⟩ := clocks_each_int_inner ho2
   obtain ⟨hti, ht'⟩ := idx_spec ht
   refine CWP.skip (by kernel_rfl) ?_
   refine thenQ_nrm ?_
   refine CWP.seq (by kernel_rfl) ?_
   refine CWP.block (by kernel_rfl) ?_
   refine CWP.seq (by kernel_rfl) ?_
   obtain ⟨bT, oT, CT, ET, fT, haT, hFT, hET⟩ := SlA.open (hs0_0.mono hle0) ht'
   obtain ⟨at1, nt1, at2, nt2, hcT, hlt1, hst1, hlt2, hst2⟩ := hET _ _ ht'
   refine CWP.region (l := [0, 1, 2, 3, 4, 5]) (by kernel_rfl) (by kernel_rfl) (by kernel_rfl) ?_
   refine RWP.val (dst := (some 18)) (ty := 3) (g := none) (by kernel_rfl) rfl (run_move (x := (.tmp 16)) (v := (vi (done.length : Int))) h16) ?_
   refine RWP.val (dst := (some 19)) (ty := 0) (g := none) (by kernel_rfl) rfl (run_index (t := 22) (x := (.tmp 14)) (y := (.tmp 16)) (b := bT) (o := oT) (E := 54) (s := 4) (by_ := 64) (i := (done.length : Int)) (haT ▸ h14) h16 (by kernel_rfl) hti) ?_
   refine RWP.val (dst := (some 20)) (ty := 54) (g := none) (by kernel_rfl) rfl (run_loadE (t := 54) (x := (.tmp 19)) (b := bT) (o := oT + (done.length : Int).toNat * 4) (j := 0) (C := CT) (kk := 4) (cs := [(vi t.Clock.Slip), (vi t.Clock.Drift), (.slice at1 t.Clock.Jumps.length nt1), (.slice at2 t.Times.length nt2)]) (gg := true) (s := 4) (v := (.agg (kTrack t at1 nt1 at2 nt2))) rfl (by kernel_rfl) (hs.pers _ _ hFT) hcT (by decide) (by exact ⟨rfl, trivial⟩) rfl rfl) ?_
   refine RWP.alloc (dst := (some 7)) (ty := 0) (g := none) (by kernel_rfl) rfl (t := 54) (z := (.agg #[(vi 0), (vi 0), (.slice none 0 0), (.slice none 0 0)])) (by kernel_rfl) (C := #[(vi 0), (vi 0), (.slice none 0 0), (.slice none 0 0)]) rfl hs (fun bt w4 hs4 => ?_)
   refine RWP.val (dst := (some 6)) (ty := 3) (g := none) (by kernel_rfl) rfl (run_assign (x := (.tmp 18)) (v := (vi (done.length : Int))) rfl) ?_
   refine RWP.store (ty := 0) (g := none) (by kernel_rfl) rfl (x := (.tmp 7)) (y := (.tmp 20)) (t := 54) (gg := true) (s := 4) (v := (.agg (kTrack t at1 nt1 at2 nt2))) (b := bt) (o := 0) (C := #[(vi 0), (vi 0), (.slice none 0 0), (.slice none 0 0)]) rfl rfl (by kernel_rfl) hs4 (k := 0) rfl rfl rfl rfl (C' := (kTrack t at1 nt1 at2 nt2)) rfl (fun w5 hs5 => ?_)
   refine RWP.nil ?_
   refine thenQ_nrm ?_
   refine CWP.seq (by kernel_rfl) ?_
   refine CWP.region (l := [0, 1, 2, 3]) (by kernel_rfl) (by kernel_rfl) (by kernel_rfl) ?_
   refine RWP.val (dst := (some 21)) (ty := 0) (g := none) (by kernel_rfl) rfl (run_fieldAddr (s := 54) (x := (.tmp 7)) (i := 1) (o := 3) (k := 1) (b := bt) (o0 := 0) rfl (by kernel_rfl) rfl (o1 := 3) rfl) ?_
   refine RWP.val (dst := (some 22)) (ty := 50) (g := none) (by kernel_rfl) rfl (run_load' (t := 50) (x := (.tmp 21)) (b := bt) (o := 3) (g := false) (s := 1) (C := (kTrack t at1 nt1 at2 nt2)) (v := (.slice at2 t.Times.length nt2)) rfl (by kernel_rfl) (hs5.ownAt (k := 0) rfl) rfl rfl rfl) ?_
   refine RWP.val (dst := (some 23)) (ty := 3) (g := none) (by kernel_rfl) rfl (run_len_slice' (x := (.tmp 22)) (ats := #[50]) (a := at2) (n := t.Times.length) (c := nt2) (E := 3) (s := 1) (by_ := 8) rfl rfl (by kernel_rfl)) ?_
   refine RWP.val (dst := (some 24)) (ty := 3) (g := none) (by kernel_rfl) rfl (run_move (x := (.const (vi 0))) (v := (vi 0)) rfl) ?_
   refine RWP.nil ?_
   refine thenQ_nrm ?_
   rw [gl_gc hdk] at hr1
   have h5' : f 5 = .slice (some ⟨b, 0, none⟩) (gc k done nilv).length cap := by rw [h5, gl_len (by omega), gc_len hdk]
   have hs6 : HS w0 F0 w5 F1 [e1, (none, .cells #[] 0 (0, 0))] := ((hs5.drop 0).dummy (oc #[] 0)).swap (A := [(none, .cells #[] 0 (0, 0))]) (B := [e1])
   refine CWP.cut (fun f w => ∃ (F2 : Mem) (e1 e2 : Option Nat × Obj) (a2 : Option Addr) (c2 : Nat), HS w0 F0 w F2 [e1, e2] ∧ Mem.le F1 F2 ∧ f.d = [] ∧ f 1 = .func (.func gx1) fx1.toArray kx1.toArray ∧ f 5 = .slice (some ⟨b, 0, none⟩) (gc k done (.slice a2 sE.2.length c2)).length cap ∧ f 14 = .slice a0_0 x0.Tracks.length n0_0 ∧ f 15 = .int .i64 (x0.Tracks.length : Int) ∧ f 16 = .int .i64 (done.length : Int) ∧ RowR (tGC tInt) 50 F2 (some ⟨b, 0, none⟩) cap (gc k done (.slice a2 sE.2.length c2)) e1 ∧ RowR tInt 3 F2 a2 c2 sE.2 e2) ?_ ?_
   ·
    refine CWP.block (by kernel_rfl) ?_
    refine CWP.loop (by kernel_rfl) (fun m f w => ∃ (s2 : Int × List Int) (F2 : Mem) (e1 e2 : Option Nat × Obj) (a2 : Option Addr) (c2 : Nat), iter (clocks_each_int_L1 N x1 (done.length : Int) t) m s2 = some (.done sE) ∧ HS w0 F0 w F2 [e1, e2] ∧ Mem.le F1 F2 ∧ f.d = [] ∧ f 1 = .func (.func gx1) fx1.toArray kx1.toArray ∧ f 5 = .slice (some ⟨b, 0, none⟩) (gc k done (.slice a2 s2.2.length c2)).length cap ∧ f 6 = .int .i64 (done.length : Int) ∧ f 14 = .slice a0_0 x0.Tracks.length n0_0 ∧ f 15 = .int .i64 (x0.Tracks.length : Int) ∧ f 16 = .int .i64 (done.length : Int) ∧ f 23 = .int .i64 (t.Times.length : Int) ∧ f 24 = .int .i64 s2.1 ∧ RowR (tGC tInt) 50 F2 (some ⟨b, 0, none⟩) cap (gc k done (.slice a2 s2.2.length c2)) e1 ∧ RowR tInt 3 F2 a2 c2 s2.2 e2) N ⟨(0, []), F1, _, _, none, 0, ho2, hs6, Mem.le.refl _, hd, h1, h5', rfl, h14, h15, h16, rfl, rfl, hr1, RowR.nil _ _ _ _⟩ ?_
    rintro m f w ⟨s2, F2, e1, e2, a2, c2, hit2, hs, hle2, hd, h1, h5, h6, h14, h15, h16, h23, h24, hr1, hr2⟩
    obtain ⟨m2, fl2, rfl, hb2, hnx2⟩ := iter_step hit2
    unfold clocks_each_int_L1 at hb2
    refine CWP.seq (by kernel_rfl) ?_
    refine CWP.region (l := [0]) (by kernel_rfl) (by kernel_rfl) (by kernel_rfl) ?_
    refine RWP.val (dst := (some 25)) (ty := 0) (g := none) (by kernel_rfl) rfl (run_lss (t := 3) (t' := 3) (x := (.tmp 24)) (y := (.tmp 23)) (k := .i64) (a := s2.1) (b := (t.Times.length : Int)) h24 h23) ?_
    refine RWP.nil ?_
    refine thenQ_nrm ?_
    refine CWP.seq (by kernel_rfl) ?_
    refine CWP.cond (t := decide (s2.1 < (t.Times.length : Int))) (by kernel_rfl) rfl (fun hc2 => ?_) (fun hc2 => ?_)
    rotate_left
    ·refine CWP.exit (by kernel_rfl) ?_
     refine thenQ_ex ?_
     refine thenQ_ex ?_
     refine blockQ_hit rfl ?_
     have hb2 := cond_f hb2 hc2
     have ho' := iter_done hb2 hnx2
     cases ho'
     exact .inl ⟨rfl, F2, e1, e2, a2, c2, hs, hle2, hd, h1, h5, h14, h15, h16, hr1, hr2⟩
    ·have hb2 := cond_t hb2 hc2
     obtain ⟨r, hr, hb2⟩ := bind_some hb2
     obtain ⟨row, hap, hb2⟩ := bind_some hb2
     refine CWP.skip (by kernel_rfl) ?_
     refine thenQ_nrm ?_
     refine CWP.seq (by kernel_rfl) ?_
     refine CWP.block (by kernel_rfl) ?_
     refine CWP.seq (by kernel_rfl) ?_
     refine CWP.region (l := [0, 1]) (by kernel_rfl) (by kernel_rfl) (by kernel_rfl) ?_
     refine RWP.val (dst := (some 26)) (ty := 3) (g := none) (by kernel_rfl) rfl (run_move (x := (.tmp 24)) (v := (vi s2.1)) h24) ?_
     refine RWP.val (dst := (some 8)) (ty := 3) (g := none) (by kernel_rfl) rfl (run_assign (x := (.tmp 26)) (v := (vi s2.1)) rfl) ?_
     refine RWP.nil ?_
     refine thenQ_nrm ?_
     obtain ⟨b', C, hab, rfl, hE⟩ := RowR.open hr1 gc_get
     cases hab
     have hcell := hE _ _ gc_get
     refine CWP.regionD (by kernel_rfl) (by kernel_rfl) (by kernel_rfl) (by kernel_rfl) (z := 14) (F := F2) (Lc := []) (Lz := [(some b, .cells C 50 (0, 0))]) (l := [false, false, false, false, false, false, false, false, false, false, false, false, false, false, false]) (fuel := 15) (by kernel_rfl) (by kernel_rfl) hs (by simp) (by simp)
      (fun f w => ∃ (row' : List Int) (F3 : Mem) (e1 e2 : Option Nat × Obj) (a2 : Option Addr) (c2 : Nat), some row = some row' ∧ HS w0 F0 w F3 [e1, e2] ∧ Mem.le F2 F3 ∧ f.d = [] ∧ f 1 = .func (.func gx1) fx1.toArray kx1.toArray ∧ f 5 = .slice (some ⟨b, 0, none⟩) (gc k done (.slice a2 row'.length c2)).length cap ∧ f 6 = .int .i64 (done.length : Int) ∧ f 14 = .slice a0_0 x0.Tracks.length n0_0 ∧ f 15 = .int .i64 (x0.Tracks.length : Int) ∧ f 16 = .int .i64 (done.length : Int) ∧ f 23 = .int .i64 (t.Times.length : Int) ∧ f 24 = .int .i64 s2.1 ∧ RowR (tGC tInt) 50 F3 (some ⟨b, 0, none⟩) cap (gc k done (.slice a2 row'.length c2)) e1 ∧ RowR tInt 3 F3 a2 c2 row' e2) (fun wd hsw => ?_) ?_
     ·
      refine DWP.take (i := 0) (v := (.slice (some ⟨b, 0, none⟩) (gc k done (.slice a2 s2.2.length c2)).length cap)) (zd := false) (dst := (some 27)) (ty := 71) (g := none) (by kernel_rfl) (by kernel_rfl) (by kernel_rfl) (by kernel_rfl) (by kernel_rfl) rfl (fun wq hq => (run_move (x := (.tmp 5)) (v := (.slice (some ⟨b, 0, none⟩) (gc k done (.slice a2 s2.2.length c2)).length cap)) h5)) (l' := [true, false, false, false, false, false, false, false, false, false, false, false, false, false, false]) (by kernel_rfl) ?_
      refine DWP.take (i := 1) (v := (vi (done.length : Int))) (zd := false) (dst := (some 28)) (ty := 3) (g := none) (by kernel_rfl) (by kernel_rfl) (by kernel_rfl) (by kernel_rfl) (by kernel_rfl) rfl (fun wq hq => (run_move (x := (.tmp 6)) (v := (vi (done.length : Int))) h6)) (l' := [true, true, false, false, false, false, false, false, false, false, false, false, false, false, false]) (by kernel_rfl) ?_
      refine DWP.take (i := 2) (v := (.slice (some ⟨b, 0, none⟩) (gc k done (.slice a2 s2.2.length c2)).length cap)) (zd := false) (dst := (some 29)) (ty := 71) (g := none) (by kernel_rfl) (by kernel_rfl) (by kernel_rfl) (by kernel_rfl) (by kernel_rfl) rfl (fun wq hq => (run_move (x := (.tmp 5)) (v := (.slice (some ⟨b, 0, none⟩) (gc k done (.slice a2 s2.2.length c2)).length cap)) h5)) (l' := [true, true, true, false, false, false, false, false, false, false, false, false, false, false, false]) (by kernel_rfl) ?_
      refine DWP.take (i := 3) (v := (vi (done.length : Int))) (zd := false) (dst := (some 30)) (ty := 3) (g := none) (by kernel_rfl) (by kernel_rfl) (by kernel_rfl) (by kernel_rfl) (by kernel_rfl) rfl (fun wq hq => (run_move (x := (.tmp 6)) (v := (vi (done.length : Int))) h6)) (l' := [true, true, true, true, false, false, false, false, false, false, false, false, false, false, false]) (by kernel_rfl) ?_
      refine DWP.take (i := 4) (v := (.pointer (some ⟨b, done.length * 1, none⟩))) (zd := false) (dst := (some 31)) (ty := 0) (g := none) (by kernel_rfl) (by kernel_rfl) (by kernel_rfl) (by kernel_rfl) (by kernel_rfl) rfl (fun wq hq => (run_index0 (t := 71) (x := (.tmp 29)) (y := (.tmp 30)) (b := b) (E := 50) (s := 1) (by_ := 24) (j := (done.length : Int)) rfl rfl (by kernel_rfl) ⟨by omega, by rw [gc_len hdk]; omega⟩)) (l' := [true, true, true, true, true, false, false, false, false, false, false, false, false, false, false]) (by kernel_rfl) ?_
      refine DWP.take (i := 5) (v := (.slice a2 s2.2.length c2)) (zd := false) (dst := (some 32)) (ty := 50) (g := none) (by kernel_rfl) (by kernel_rfl) (by kernel_rfl) (by kernel_rfl) (by kernel_rfl) rfl (fun wq hq => (run_loadE (t := 50) (x := (.tmp 31)) (b := b) (o := done.length * 1) (j := 0) (C := C) (kk := 1) (cs := [(.slice a2 s2.2.length c2)]) (gg := false) (s := 1) (v := (.slice a2 s2.2.length c2)) rfl (by kernel_rfl) ((hq.2 rfl).2 0 _ _ rfl) hcell (by decide) (by exact ⟨rfl, trivial⟩) rfl rfl)) (l' := [true, true, true, true, true, true, false, false, false, false, false, false, false, false, false]) (by kernel_rfl) ?_
      refine DWP.take (i := 6) (v := (.func (.func gx1) fx1.toArray kx1.toArray)) (zd := false) (dst := (some 33)) (ty := 114) (g := none) (by kernel_rfl) (by kernel_rfl) (by kernel_rfl) (by kernel_rfl) (by kernel_rfl) rfl (fun wq hq => (run_move (x := (.tmp 1)) (v := (.func (.func gx1) fx1.toArray kx1.toArray)) h1)) (l' := [true, true, true, true, true, true, true, false, false, false, false, false, false, false, false]) (by kernel_rfl) ?_
      refine DWP.take (i := 7) (v := (vi (done.length : Int))) (zd := false) (dst := (some 34)) (ty := 3) (g := none) (by kernel_rfl) (by kernel_rfl) (by kernel_rfl) (by kernel_rfl) (by kernel_rfl) rfl (fun wq hq => (run_move (x := (.tmp 6)) (v := (vi (done.length : Int))) h6)) (l' := [true, true, true, true, true, true, true, true, false, false, false, false, false, false, false]) (by kernel_rfl) ?_
      refine DWP.take (i := 8) (v := (vi s2.1)) (zd := false) (dst := (some 35)) (ty := 3) (g := none) (by kernel_rfl) (by kernel_rfl) (by kernel_rfl) (by kernel_rfl) (by kernel_rfl) rfl (fun wq hq => (run_move (x := (.tmp 8)) (v := (vi s2.1)) rfl)) (l' := [true, true, true, true, true, true, true, true, true, false, false, false, false, false, false]) (by kernel_rfl) ?_
      refine DWP.take (i := 9) (v := (.agg #[(vi (done.length : Int)), (vi s2.1)])) (zd := false) (dst := (some 36)) (ty := 27) (g := none) (by kernel_rfl) (by kernel_rfl) (by kernel_rfl) (by kernel_rfl) (by kernel_rfl) rfl (fun wq hq => (run_build2 (t := 27) (parts := #[(0, (.tmp 34)), (1, (.tmp 35))]) (vs := [(0, (vi (done.length : Int))), (1, (vi s2.1))]) (rfl) (cs := [(vi (done.length : Int)), (vi s2.1)]) (by kernel_rfl))) (l' := [true, true, true, true, true, true, true, true, true, true, false, false, false, false, false]) (by kernel_rfl) ?_
      refine DWP.one (i := 10) (by kernel_rfl) ?_
      refine DStep.call (l' := [true, true, true, true, true, true, true, true, true, true, true, false, false, false, false]) (zd := false) (by kernel_rfl) (by kernel_rfl) (by kernel_rfl) (dst := (some 37)) (ty := 3) (g := none) (by kernel_rfl) rfl (f0 := (.tmp 33)) (aos := #[(.tmp 36)]) (ats := #[27]) (fid := gx1) (first := fx1.toArray) (cap := kx1.toArray) (args := (fx1 ++ (([(.agg #[(vi (done.length : Int)), (vi s2.1)])] : List Value) ++ kx1))) rfl hox1 (app_args2 (l := [(.agg #[(vi (done.length : Int)), (vi s2.1)])]) (fi := fx1) (k := kx1) (rfl)) hsw (hpx1 wd F2 ({ Log := (done.length : Int), Line := s2.1 } : Ref) _ (hle0.trans hle2) hsw.pers hr) ?_
      intro v F3 w3 hs3 le3 hp
      obtain rfl := hp
      refine DWP.one (i := 11) (by kernel_rfl) ?_
      refine DStep.buildSlice (l' := [true, true, true, true, true, true, true, true, true, true, true, true, false, false, false]) (zd := false) (by kernel_rfl) (by kernel_rfl) (dst := (some 38)) (ty := 50) (g := none) (by kernel_rfl) rfl (t := 50) (len := 1) (parts := #[(0, (.tmp 37))]) (vs := [(0, (vi r))]) (rfl) (E := 3) (cs := [(vi r)]) (by kernel_rfl) hs3 le3 (by simp) (fun _ => by simp) (fun b3 w4 (hs4 : HS w0 F0 w4 F3 [(some b3, .cells ([(vi r)] : List Value).toArray 3 (0, 0)), (some b, .cells C 50 (0, 0)), e2]) => ?_)
      have hr4 : RowR tInt 3 F3 (some ⟨b3, 0, none⟩) 1 [r] (some b3, .cells ([(vi r)] : List Value).toArray 3 (0, 0)) := RowR.lit ⟨rfl, rfl⟩ (by simp)
      refine DWP.one (i := 12) (by kernel_rfl) ?_
      refine DStep.append (l' := [true, true, true, true, true, true, true, true, true, true, true, true, true, false, false]) (zd := false) (by kernel_rfl) (by kernel_rfl) (dst := (some 39)) (ty := 50) (g := none) (by kernel_rfl) rfl (x := (.tmp 32)) (y := (.tmp 38)) (t := 50) (t2 := 50) (by_ := 8) (z := (vi 0)) (a2 := (some ⟨b3, 0, none⟩)) (c2 := 1) (m := [r]) (T := tInt) (E := 3) (a := a2) (cap := c2) (l := s2.2) rfl rfl (by kernel_rfl) (by decide) (by kernel_rfl) (by kernel_rfl) rfl oInt hs4 (k := 2) rfl (hr2.mono le3) (RowR.rd hs4 (k := 0) rfl hr4) (r := row) hap le3 (fun _ => by simp) (fun _ _ => by simp) (fun a5 n5 e5 w5 (hs5 : HS w0 F0 w5 F3 [(some b3, .cells ([(vi r)] : List Value).toArray 3 (0, 0)), (some b, .cells C 50 (0, 0)), e5]) hr5 => ?_)
      refine DWP.one (i := 13) (by kernel_rfl) ?_
      refine DStep.val (l' := [true, true, true, true, true, true, true, true, true, true, true, true, true, true, false]) (zd := false) (by kernel_rfl) (by kernel_rfl) (dst := (some 40)) (ty := 0) (g := none) (by kernel_rfl) rfl (v := (.pointer (some ⟨b, done.length * 1, none⟩))) (run_index0 (t := 71) (x := (.tmp 27)) (y := (.tmp 28)) (b := b) (E := 50) (s := 1) (by_ := 24) (j := (done.length : Int)) rfl rfl (by kernel_rfl) ⟨by omega, by rw [gc_len hdk]; omega⟩) (dz_of hs5 le3 (by simp) (fun _ => by simp)) ?_
      refine DWP.one (i := 14) (by kernel_rfl) ?_
      refine DStep.storeRow (l' := [true, true, true, true, true, true, true, true, true, true, true, true, true, true, true]) (zd := true) (by kernel_rfl) (by kernel_rfl) (ty := 0) (g := none) (by kernel_rfl) rfl (x := (.tmp 40)) (y := (.tmp 39)) (t := 50) (v := (.slice a5 row.length n5)) (gg := false) (b := b) (j := done.length) (C := C) (T := tGC tInt) (E := 50) (u := .raw (.slice a5 row.length n5)) rfl rfl (by kernel_rfl) hs5 (k := 1) rfl (hr1.mono le3) gc_get rfl rfl le3 (fun _ => by simp) (fun e => by cases e) (fun C6 w6 (hs6 : HS w0 F0 w6 F3 [(some b3, .cells ([(vi r)] : List Value).toArray 3 (0, 0)), (some b, .cells C6 50 (0, 0)), e5]) hr6 => ?_)
      rw [gc_set] at hr6
      exact DWP.done (by kernel_rfl) ⟨row, F3, _, e5, a5, n5, rfl, hs6.drop 0, le3, hd, h1, by show f 5 = _; rw [h5, gc_len hdk, gc_len hdk], h6, h14, h15, h16, h23, h24, hr6, hr5⟩
     ·rintro f w ⟨row', F3, e1, e2, a2, c2, hrow, hs, le3, hd, h1, h5, h6, h14, h15, h16, h23, h24, hr1, hr2⟩
      cases hrow
      refine blockQ_nrm ?_
      refine thenQ_nrm ?_
      refine CWP.region (l := [0, 1]) (by kernel_rfl) (by kernel_rfl) (by kernel_rfl) ?_
      refine RWP.val (dst := (some 41)) (ty := 3) (g := none) (by kernel_rfl) rfl (run_add (t := 3) (t' := 3) (x := (.tmp 24)) (y := (.const (vi 1))) (k := .i64) (a := s2.1) (b := 1) h24 rfl) ?_
      refine RWP.val (dst := (some 24)) (ty := 3) (g := none) (by kernel_rfl) rfl (run_move (x := (.tmp 41)) (v := (vi (W64 (s2.1 + 1)))) rfl) ?_
      refine RWP.nil ?_
      have hn := iter_next hb2 hnx2
      exact ⟨m2, Nat.lt_succ_self _, (W64 (s2.1 + 1), row), F3, e1, e2, a2, c2, hn, hs, hle2.trans le3, hd, h1, h5, h6, h14, h15, h16, h23, rfl, hr1, hr2⟩
   ·rintro f w ⟨F2, e1, e2, a2, c2, hs, hle2, hd, h1, h5, h14, h15, h16, hr1, hr2⟩
    refine blockQ_nrm ?_
    refine thenQ_nrm ?_
    refine CWP.region (l := [0, 1]) (by kernel_rfl) (by kernel_rfl) (by kernel_rfl) ?_
    refine RWP.val (dst := (some 42)) (ty := 3) (g := none) (by kernel_rfl) rfl (run_add (t := 3) (t' := 3) (x := (.tmp 16)) (y := (.const (vi 1))) (k := .i64) (a := (done.length : Int)) (b := 1) h16 rfl) ?_
    refine RWP.val (dst := (some 16)) (ty := 3) (g := none) (by kernel_rfl) rfl (run_move (x := (.tmp 42)) (v := (vi (W64 ((done.length : Int) + 1)))) rfl) ?_
    refine RWP.nil ?_
    have hb0 := RowR.bound hr2
    obtain ⟨F3, hs3, le3, hsl⟩ : ∃ Fq, HS w0 F0 w Fq [e1] ∧ Mem.le F2 Fq ∧ SlA tInt Fq a2 sE.2 := HS.freezeRow hs (k := 1) rfl hr2
    have hr3 := gc_fin hdk (hr1.mono le3) hb0 hsl
    have hn := iter_next hb hnx
    refine ⟨m1, Nat.lt_succ_self _, done ++ [sE.2], F3, e1, hn, hs3, (hle0.trans hle2).trans le3, hd, h1, ?_, h14, h15, ?_, by simp; omega, hr3⟩
    ·show f 5 = _
     rw [h5, gc_len hdk, gl_len (by simp; omega)]
    ·show Value.int .i64 (W64 ((done.length : Int) + 1)) = _
     rw [W64_id (by omega) (by omega)]; simp
 ·rintro f w ⟨done, F1, e1, rfl, hs, hle0, hd, h5, hdk, hr1⟩
  refine thenQ_nrm ?_
  cases h
  have hr2 := gl_done hdk hr1
  have hb0 := RowR.bound hr2
  obtain ⟨F2, hs2, le2, hsl⟩ : ∃ Fq, HS w0 F0 w Fq [] ∧ Mem.le F1 Fq ∧ SlA (tSl tInt) Fq (some ⟨b, 0, none⟩) r := HS.freezeRow hs (k := 0) rfl hr2
  have h5' : f 5 = .slice (some ⟨b, 0, none⟩) r.length cap := by rw [h5, gl_len (by omega), hdk]
  refine CWP.seq (by kernel_rfl) ?_
  refine CWP.region (l := [0, 1]) (by kernel_rfl) (by kernel_rfl) (by kernel_rfl) ?_
  refine RWP.val (dst := (some 43)) (ty := 71) (g := none) (by kernel_rfl) rfl (run_move (x := (.tmp 5)) (v := (.slice (some ⟨b, 0, none⟩) r.length cap)) h5') ?_
  refine RWP.val (dst := (some 4)) (ty := 71) (g := none) (by kernel_rfl) rfl (run_assign (x := (.tmp 43)) (v := (.slice (some ⟨b, 0, none⟩) r.length cap)) rfl) ?_
  refine RWP.nil ?_
  refine thenQ_nrm ?_
  refine CWP.ret (by kernel_rfl) ?_
  exact ⟨hd, (.slice (some ⟨b, 0, none⟩) r.length cap), res_of (l := [.tmp 4]) (by kernel_rfl) (vs := [(.slice (some ⟨b, 0, none⟩) r.length cap)]) ⟨rfl, trivial⟩, (.slice (some ⟨b, 0, none⟩) r.length cap), F2, rfl, hs2.clear, ⟨_, _, rfl, hb0, hsl⟩⟩
end Go.Proofs.Ythbcnabeabcmlaa
namespace Go.Proofs.Ythbcnabeabcmlaa
open Go.Proofs
def clocks_Earliest (N : Nat) (x0 : System) : Option ((List (List Int)) × Int) :=
 ((clocks_solved N x0).bind fun r4 => (bif (r4.2.2 != 0) then some (([] : List (List Int)), r4.2.2) else ((clocks_each_int N x0 (fun y0 => clocks_Earliest_1 N y0 r4.2.1)).bind fun r28 => some (r28, 0))))
theorem co_clocks_Earliest : CallOk Try.prog 48 := fun _ _ => by kernel_rfl
set_option maxHeartbeats 4000000 in
set_option maxRecDepth 100000 in
theorem c_clocks_Earliest (N : Nat) (w0 : World) (F0 : Mem) (hF : ∀ b o, F0 b = some o → w0.heap[b]? = some o) (x0 : System) (a0_0 : Option Addr) (n0_0 : Nat) (hb0_0 : LC x0.Tracks.length n0_0) (hs0_0 : SlA tTrack F0 a0_0 x0.Tracks) (a0_1 : Option Addr) (n0_1 : Nat) (hb0_1 : LC x0.Ties.length n0_1) (hs0_1 : SlA tTie F0 a0_1 x0.Ties) (r : ((List (List Int)) × Int)) (h : clocks_Earliest N x0 = some r) :
  Calls Try.prog 48 ([(.agg (kSystem x0 a0_0 n0_0 a0_1 n0_1))] : List Value).toArray w0 (FRet w0 F0 fun F' v => ∃ (aq0_0 : Option Addr) (nq0_0 : Nat), v = (.tuple #[(.slice aq0_0 r.1.length nq0_0), (vi r.2)]) ∧ LC r.1.length nq0_0 ∧ SlA (tSl tInt) F' aq0_0 r.1) := by
 have hs0 := HS.start hF
 refine calls_of (n := 19) (c := bodyOf Try.f48) Try.func48 (by kernel_rfl) (by kernel_rfl) (by kernel_rfl) ?_
 refine Sq (Rg [0, 1, 2] ?_)
 refine Bx 1 0 0 25 (kSystem x0 a0_0 n0_0 a0_1 n0_1) hs0 (fun b1 w2 (hs3 : HS w0 F0 w2 F0 [(sb b1 (kSystem x0 a0_0 n0_0 a0_1 n0_1) 25)]) => ?_)
 refine V 2 71 (mc (.slice none 0 0) (.slice none ([] : List (List Int)).length 0)) ?_
 refine V 3 30 (mc (vi 0) (vi 0)) ?_
 refine Nss (Rg [0, 1, 2, 3, 4, 5, 6, 7, 8, 9, 10] ?_)
 refine V 8 25 (ld 25 1 b1 0 true 3 (.agg (kSystem x0 a0_0 n0_0 a0_1 n0_1)) (hs3.ownAt (k := 0) rfl)) ?_
 obtain ⟨r4, hr5, h6⟩ := bind_some h
 refine Cl 9 96 71 #[(.tmp 8)] #[25] co_clocks_solved hs3 (c_clocks_solved N w2 F0 hs3.pers (x0) a0_0 n0_0 hb0_0 hs0_0 a0_1 n0_1 hb0_1 hs0_1 _ hr5) ?_
 intro v7 F1 w8 hs9 le10 hp11
 obtain ⟨or4_0_0, or4_0_1, or4_1_0, or4_1_1, rfl, hmr4_0_0, hmr4_0_1, hmr4_1_0, hmr4_1_1⟩ := hp11
 refine V 7 96 (mv 9 (.tuple #[(.agg #[(.map or4_0_0), (.map or4_0_1)]), (.agg #[(.map or4_1_0), (.map or4_1_1)]), (vi r4.2.2)])) ?_
 refine V 10 95 (ex 7 0 (.agg #[(.map or4_0_0), (.map or4_0_1)]) (vs := #[(.agg #[(.map or4_0_0), (.map or4_0_1)]), (.agg #[(.map or4_1_0), (.map or4_1_1)]), (vi r4.2.2)])) ?_
 refine V 11 95 (ex 7 1 (.agg #[(.map or4_1_0), (.map or4_1_1)]) (vs := #[(.agg #[(.map or4_0_0), (.map or4_0_1)]), (.agg #[(.map or4_1_0), (.map or4_1_1)]), (vi r4.2.2)])) ?_
 refine V 12 30 (ex 7 2 (vi r4.2.2) (vs := #[(.agg #[(.map or4_0_0), (.map or4_0_1)]), (.agg #[(.map or4_1_0), (.map or4_1_1)]), (vi r4.2.2)])) ?_
 refine Al 4 0 95 #[(.map none), (.map none)] hs9 (fun b12 w13 (hs14 : HS w0 F0 w13 F1 [(sb b12 #[(.map none), (.map none)] 95), (sb b1 (kSystem x0 a0_0 n0_0 a0_1 n0_1) 25)]) => ?_)
 refine Al 5 0 95 #[(.map none), (.map none)] hs14 (fun b15 w16 (hs17 : HS w0 F0 w16 F1 [(sb b15 #[(.map none), (.map none)] 95), (sb b12 #[(.map none), (.map none)] 95), (sb b1 (kSystem x0 a0_0 n0_0 a0_1 n0_1) 25)]) => ?_)
 refine RWP.store (ty := 0) (g := none) (by kernel_rfl) rfl (x := (.tmp 4)) (y := (.tmp 10)) (t := 95) (gg := true) (s := 2) (v := (.agg #[(.map or4_0_0), (.map or4_0_1)])) (b := b12) (o := 0) (C := #[(.map none), (.map none)]) rfl rfl (by kernel_rfl) hs17 (k := 1) rfl rfl rfl rfl (C' := #[(.map or4_0_0), (.map or4_0_1)]) rfl (fun w18 (hs19 : HS w0 F0 w18 F1 [(sb b15 #[(.map none), (.map none)] 95), (sb b12 #[(.map or4_0_0), (.map or4_0_1)] 95), (sb b1 (kSystem x0 a0_0 n0_0 a0_1 n0_1) 25)]) => ?_)
 refine RWP.store (ty := 0) (g := none) (by kernel_rfl) rfl (x := (.tmp 5)) (y := (.tmp 11)) (t := 95) (gg := true) (s := 2) (v := (.agg #[(.map or4_1_0), (.map or4_1_1)])) (b := b15) (o := 0) (C := #[(.map none), (.map none)]) rfl rfl (by kernel_rfl) hs19 (k := 0) rfl rfl rfl rfl (C' := #[(.map or4_1_0), (.map or4_1_1)]) rfl (fun w20 (hs21 : HS w0 F0 w20 F1 [(sb b15 #[(.map or4_1_0), (.map or4_1_1)] 95), (sb b12 #[(.map or4_0_0), (.map or4_0_1)] 95), (sb b1 (kSystem x0 a0_0 n0_0 a0_1 n0_1) 25)]) => ?_)
 refine V 6 30 (ma 12 (vi r4.2.2)) ?_
 refine Nss ?_
 refine Sq (Rg [0, 1] ?_)
 refine V 13 30 (mv 6 (vi r4.2.2)) ?_
 refine V 14 4 (run_neq (t := 30) (t' := 30) (x := (.tmp 13)) (y := (.const (vi 0))) (k := .i64) (a := r4.2.2) (b := 0) rfl rfl) ?_
 refine Nt ?_
 refine CWP.cond (t := (r4.2.2 != 0)) (by kernel_rfl) rfl (fun hb22 => ?_) (fun hb22 => ?_)
 ·have h23 := cond_t h6 hb22
  refine Sq (Rg [0, 1, 2] ?_)
  refine V 15 30 (mv 6 (vi r4.2.2)) ?_
  refine V 2 71 (mc (.slice none 0 0) (.slice none ([] : List (List Int)).length 0)) ?_
  refine V 3 30 (ma 15 (vi r4.2.2)) ?_
  refine Nt ?_
  refine CWP.ret (by kernel_rfl) ?_
  refine thenQ_ret ?_
  have hfin := some_inj h23
  subst hfin
  exact ⟨rfl, (.tuple #[(.slice none ([] : List (List Int)).length 0), (vi r4.2.2)]), res_of (l := [.tmp 2, .tmp 3]) (by kernel_rfl) (vs := [(.slice none ([] : List (List Int)).length 0), (vi r4.2.2)]) ⟨rfl, ⟨rfl, trivial⟩⟩, (.tuple #[(.slice none ([] : List (List Int)).length 0), (vi r4.2.2)]), F1, rfl, hs21.clear, ⟨none, 0, rfl, LC.nil, (.inl rfl)⟩⟩
 ·have h24 := cond_f h6 hb22
  refine Sc ?_
  refine thenQ_nrm ?_
  refine Sq (Rg [0, 1, 2, 3, 4] ?_)
  refine V 16 25 (ld 25 1 b1 0 true 3 (.agg (kSystem x0 a0_0 n0_0 a0_1 n0_1)) (hs21.ownAt (k := 2) rfl)) ?_
  refine V 17 114 (run_makeFunc (fn := .func 95) (first := #[]) (cap := #[(.tmp 5)]) (fl := []) (cl := [(.pointer (some ⟨b15, 0, none⟩))]) rfl (rfl)) ?_
  obtain ⟨F2, hs25, le26, hF27⟩ : ∃ Fq, HS w0 F0 w20 Fq [(sb b12 #[(.map or4_0_0), (.map or4_0_1)] 95), (sb b1 (kSystem x0 a0_0 n0_0 a0_1 n0_1) 25)] ∧ Mem.le F1 Fq ∧ Fq b15 = some (oc #[(.map or4_1_0), (.map or4_1_1)] 95) := HS.freezeC hs21 (k := 0) rfl
  obtain ⟨r28, hr29, h30⟩ := bind_some h24
  refine Cl 18 71 94 #[(.tmp 16), (.tmp 17)] #[25, 114] co_clocks_each_int hs25 (c_clocks_each_int N w20 F2 hs25.pers (x0) a0_0 n0_0 hb0_0 (SlA.mono hs0_0 (le10.trans le26)) a0_1 n0_1 hb0_1 (SlA.mono hs0_1 (le10.trans le26)) 95 [] [(.pointer (some ⟨b15, 0, none⟩))] (fun y0 => clocks_Earliest_1 N y0 r4.2.1) co_clocks_Earliest_1 (fun w1 F1 y0 r le1 pe1 hr1 => c_clocks_Earliest_1 N w1 F1 pe1  y0 b15 r4.2.1 or4_1_0 (MpA.mono (MpA.mono hmr4_1_0 le26) le1) or4_1_1 (MpA.mono (MpA.mono hmr4_1_1 le26) le1) (le1 _ _ hF27) r hr1) _ hr29) ?_
  intro v31 F3 w32 hs33 le34 hp35
  obtain ⟨ar28_0_0, nr28_0_0, rfl, hbr28_0_0, hsr28_0_0⟩ := hp35
  refine V 2 71 (ma 18 (.slice ar28_0_0 r28.length nr28_0_0)) ?_
  refine V 3 30 (mc (vi 0) (vi 0)) ?_
  refine Nt ?_
  refine CWP.ret (by kernel_rfl) ?_
  have hfin := some_inj h30
  subst hfin
  exact ⟨rfl, (.tuple #[(.slice ar28_0_0 r28.length nr28_0_0), (vi 0)]), res_of (l := [.tmp 2, .tmp 3]) (by kernel_rfl) (vs := [(.slice ar28_0_0 r28.length nr28_0_0), (vi 0)]) ⟨rfl, ⟨rfl, trivial⟩⟩, (.tuple #[(.slice ar28_0_0 r28.length nr28_0_0), (vi 0)]), F3, rfl, hs33.clear, ⟨ar28_0_0, nr28_0_0, rfl, hbr28_0_0, hsr28_0_0⟩⟩
end Go.Proofs.Ythbcnabeabcmlaa
namespace Go.Proofs.Ythbcnabeabcmlaa
open Go.Proofs
def ref03_ends_L1 (N : Nat) (x0 : (List (List Span))) (x1 : Bool) (s6 : (List (List Int) × Int)) : (List Int × Int) → Option (Flow (List (List Int)) (List Int × Int)) := fun s34 =>
 ((idx x0 s6.2).bind fun x61 => (bif (decide (s34.2 < (x61.length : Int))) then ((bif x1 then ((idx x0 s6.2).bind fun x92 => ((idx x92 s34.2).bind fun x98 => ((apnd s34.1 [x98.Hi]).bind fun r117 => some r117))) else ((idx x0 s6.2).bind fun x128 => ((idx x128 s34.2).bind fun x134 => ((apnd s34.1 [x134.Lo]).bind fun r153 => some r153)))).bind fun j80 => some (.next (j80, (W64 (s34.2 + 1))))) else some (.done (s34.1, s34.2))))
def ref03_ends_L0 (N : Nat) (x0 : (List (List Span))) (x1 : Bool) : (List (List Int) × Int) → Option (Flow (List (List Int)) (List (List Int) × Int)) := fun s6 =>
 (bif (decide (s6.2 < (x0.length : Int))) then ((iter (ref03_ends_L1 N x0 x1 s6) N (([] : List Int), 0)).bind fun o => o.k (fun r => some (.ret r)) (fun s45 => ((apnd s6.1 [s45.1]).bind fun r176 => some (.next (r176, (W64 (s6.2 + 1))))))) else some (.done (s6.1, s6.2)))
def ref03_ends (N : Nat) (x0 : (List (List Span))) (x1 : Bool) : Option (List (List Int)) :=
 ((iter (ref03_ends_L0 N x0 x1) N (([] : List (List Int)), 0)).bind fun o => o.k (fun r => some r) (fun s15 => some s15.1))
theorem co_ref03_ends : CallOk Try.prog 96 := fun _ _ => by kernel_rfl
set_option maxHeartbeats 4000000 in
set_option maxRecDepth 100000 in
theorem c_ref03_ends (N : Nat) (w0 : World) (F0 : Mem) (hF : ∀ b o, F0 b = some o → w0.heap[b]? = some o) (x0 : (List (List Span))) (a0_0 : Option Addr) (n0_0 : Nat) (hb0_0 : LC x0.length n0_0) (hs0_0 : SlA (tSl tSpan) F0 a0_0 x0) (x1 : Bool) (r : (List (List Int))) (h : ref03_ends N x0 x1 = some r) :
  Calls Try.prog 96 ([(.slice a0_0 x0.length n0_0), (.bool x1)] : List Value).toArray w0 (FRet w0 F0 fun F' v => ∃ (aq0_0 : Option Addr) (nq0_0 : Nat), v = (.slice aq0_0 r.length nq0_0) ∧ LC r.length nq0_0 ∧ SlA (tSl tInt) F' aq0_0 r) := by
 have hs0 := HS.start hF
 refine calls_of (n := 52) (c := bodyOf Try.f96) Try.func96 (by kernel_rfl) (by kernel_rfl) (by kernel_rfl) ?_
 refine Sq (Rg [0] ?_)
 refine V 4 71 (mc (.slice none 0 0) (.slice none ([] : List (List Int)).length 0)) ?_
 refine Nss (Rg [0] ?_)
 refine V 5 71 (mc (.slice none 0 0) (.slice none ([] : List (List Int)).length 0)) ?_
 refine Nss ?_
 refine Sq (Rg [0] ?_)
 refine V 6 3 (mc (vi 0) (vi 0)) ?_
 refine Nt ?_
 have hs1 : HS w0 F0 w0 F0 [(none, .cells #[] 0 (0, 0))] := hs0.dummy _
 obtain ⟨o3, ho4, h5⟩ := bind_some h
 refine CWP.cut (fun f w => ∃ (s15 : (List (List Int) × Int)) (F2 : Mem) (as15_0 : Option Addr) (ns15_0 : Nat) (es15_0 : Option Nat × Obj), o3 = .done s15 ∧ HS w0 F0 w F2 [es15_0] ∧ Mem.le F0 F2 ∧ f.d = [] ∧ f 5 = (.slice as15_0 s15.1.length ns15_0) ∧ RowR (tSl tInt) 50 F2 as15_0 ns15_0 s15.1 es15_0) ?_ ?_
 ·refine Bk ?_
  refine CWP.loop (by kernel_rfl) (fun m f w => ∃ (s6 : (List (List Int) × Int)) (F1 : Mem) (as6_0 : Option Addr) (ns6_0 : Nat) (es6_0 : Option Nat × Obj), iter (ref03_ends_L0 N x0 x1) m s6 = some o3 ∧ HS w0 F0 w F1 [es6_0] ∧ Mem.le F0 F1 ∧ f.d = [] ∧ f 0 = (.slice a0_0 x0.length n0_0) ∧ f 1 = (.bool x1) ∧ f 5 = (.slice as6_0 s6.1.length ns6_0) ∧ f 6 = (vi s6.2) ∧ RowR (tSl tInt) 50 F1 as6_0 ns6_0 s6.1 es6_0) N ⟨(([] : List (List Int)), 0), F0, none, 0, (none, .cells #[] 0 (0, 0)), ho4, hs1, (Mem.le.refl _), rfl, rfl, rfl, rfl, rfl, (RowR.nil (tSl tInt) 50 F0 _)⟩ ?_
  rintro m21 f w7 ⟨s6, F1, as6_0, ns6_0, es6_0, hit22, hs8, le9, e10, e11, e12, e13, e14, hrs6_0⟩
  obtain ⟨m23, fl24, rfl, hb25, hnx26⟩ := iter_step hit22
  refine Sq ?_
  refine Sq (Rg [0, 1, 2, 3] ?_)
  refine V 9 3 (mv 6 (vi s6.2) e14) ?_
  refine V 10 33 (mv 0 (.slice a0_0 x0.length n0_0) e11) ?_
  refine V 11 3 (ln 10 33 a0_0 x0.length n0_0 36 1 24) ?_
  refine V 12 4 (run_lss (t := 3) (t' := 3) (x := (.tmp 9)) (y := (.tmp 11)) (k := .i64) (a := s6.2) (b := (x0.length : Int)) rfl rfl) ?_
  refine Nt ?_
  refine CWP.cond (t := (decide (s6.2 < (x0.length : Int)))) (by kernel_rfl) rfl (fun hb27 => ?_) (fun hb27 => ?_)
  ·have h28 := cond_t hb25 hb27
   refine Sc ?_
   refine thenQ_nrm ?_
   refine Sq ?_
   refine Bk ?_
   refine Sq (Rg [0] ?_)
   refine V 7 50 (mc (.slice none 0 0) (.slice none ([] : List Int).length 0)) ?_
   refine Nss ?_
   refine Sq (Rg [0] ?_)
   refine V 8 3 (mc (vi 0) (vi 0)) ?_
   refine Nt ?_
   have hs29 : HS w0 F0 w7 F1 [(none, .cells #[] 0 (0, 0)), es6_0] := hs8.dummy _
   obtain ⟨o31, ho32, h33⟩ := bind_some h28
   refine CWP.cut (fun f w => ∃ (s45 : (List Int × Int)) (F4 : Mem) (as45_0 : Option Addr) (ns45_0 : Nat) (es45_0 : Option Nat × Obj), o31 = .done s45 ∧ HS w0 F0 w F4 [es45_0, es6_0] ∧ Mem.le F1 F4 ∧ f.d = [] ∧ f 0 = (.slice a0_0 x0.length n0_0) ∧ f 1 = (.bool x1) ∧ f 5 = (.slice as6_0 s6.1.length ns6_0) ∧ f 6 = (vi s6.2) ∧ f 7 = (.slice as45_0 s45.1.length ns45_0) ∧ RowR tInt 3 F4 as45_0 ns45_0 s45.1 es45_0) ?_ ?_
   ·refine Bk ?_
    refine CWP.loop (by kernel_rfl) (fun m f w => ∃ (s34 : (List Int × Int)) (F3 : Mem) (as34_0 : Option Addr) (ns34_0 : Nat) (es34_0 : Option Nat × Obj), iter (ref03_ends_L1 N x0 x1 s6) m s34 = some o31 ∧ HS w0 F0 w F3 [es34_0, es6_0] ∧ Mem.le F1 F3 ∧ f.d = [] ∧ f 0 = (.slice a0_0 x0.length n0_0) ∧ f 1 = (.bool x1) ∧ f 5 = (.slice as6_0 s6.1.length ns6_0) ∧ f 6 = (vi s6.2) ∧ f 7 = (.slice as34_0 s34.1.length ns34_0) ∧ f 8 = (vi s34.2) ∧ RowR tInt 3 F3 as34_0 ns34_0 s34.1 es34_0) N ⟨(([] : List Int), 0), F1, none, 0, (none, .cells #[] 0 (0, 0)), ho32, hs29, (Mem.le.refl _), e10, e11, e12, e13, e14, rfl, rfl, (RowR.nil tInt 3 F1 _)⟩ ?_
    rintro m55 f w35 ⟨s34, F3, as34_0, ns34_0, es34_0, hit56, hs36, le37, e38, e39, e40, e41, e42, e43, e44, hrs34_0⟩
    obtain ⟨m57, fl58, rfl, hb59, hnx60⟩ := iter_step hit56
    refine Sq ?_
    refine Sq (Rg [0, 1, 2, 3, 4, 5, 6] ?_)
    refine V 15 3 (mv 8 (vi s34.2) e44) ?_
    refine V 16 33 (mv 0 (.slice a0_0 x0.length n0_0) e39) ?_
    refine V 17 3 (mv 6 (vi s6.2) e42) ?_
    obtain ⟨x61, hx62, h64⟩ := bind_some hb59
    obtain ⟨hi63, hx62'⟩ := idx_spec hx62
    obtain ⟨b65, o66, C67, E68, fz69, rfl, hF71, hE72⟩ := SlA.open (SlA.mono hs0_0 (le9.trans le37)) hx62'
    obtain ⟨ae73_0, ne73_0, hc74, hbe73_0, hse73_0⟩ := hE72 _ _ hx62'
    refine V 18 0 (ix 33 16 17 b65 o66 36 1 24 hi63) ?_
    refine V 19 36 (lx 36 18 0 1 false 1 (.slice ae73_0 x61.length ne73_0) (hs36.pers _ _ hF71) hc74) ?_
    refine V 20 3 (ln 19 36 ae73_0 x61.length ne73_0 38 2 16) ?_
    refine V 21 4 (run_lss (t := 3) (t' := 3) (x := (.tmp 15)) (y := (.tmp 20)) (k := .i64) (a := s34.2) (b := (x61.length : Int)) rfl rfl) ?_
    refine Nt ?_
    refine CWP.cond (t := (decide (s34.2 < (x61.length : Int)))) (by kernel_rfl) rfl (fun hb75 => ?_) (fun hb75 => ?_)
    ·have h76 := cond_t h64 hb75
     refine Sc ?_
     refine thenQ_nrm ?_
     refine Sq ?_
     refine Bk ?_
     refine Sq (Rg [0] ?_)
     refine V 24 4 (mv 1 (.bool x1) e40) ?_
     refine Nt ?_
     obtain ⟨j80, hj88, h89⟩ := bind_some h76
     refine CWP.cut (fun f w => ∃ (F5 : Mem) (aj80_0 : Option Addr) (nj80_0 : Nat) (ej80_0 : Option Nat × Obj), HS w0 F0 w F5 [ej80_0, es6_0] ∧ Mem.le F3 F5 ∧ f.d = [] ∧ f 0 = (.slice (some ⟨b65, o66, none⟩) x0.length n0_0) ∧ f 1 = (.bool x1) ∧ f 5 = (.slice as6_0 s6.1.length ns6_0) ∧ f 6 = (vi s6.2) ∧ f 7 = (.slice aj80_0 j80.length nj80_0) ∧ f 8 = (vi s34.2) ∧ RowR tInt 3 F5 aj80_0 nj80_0 j80 ej80_0) ?_ ?_
     ·refine CWP.cond (t := x1) (by kernel_rfl) rfl (fun hb90 => ?_) (fun hb90 => ?_)
      ·have h91 := cond_t hj88 hb90
       refine Rg [0, 1, 2, 3, 4, 5, 6, 7, 8, 9, 10, 11] ?_
       refine V 25 50 (mv 7 (.slice as34_0 s34.1.length ns34_0) e43) ?_
       refine V 26 33 (mv 0 (.slice (some ⟨b65, o66, none⟩) x0.length n0_0) e39) ?_
       refine V 27 3 (mv 6 (vi s6.2) e42) ?_
       obtain ⟨x92, hx93, h95⟩ := bind_some h91
       obtain ⟨hi94, hx93'⟩ := idx_spec hx93
       obtain ⟨ae96_0, ne96_0, hc97, hbe96_0, hse96_0⟩ := hE72 _ _ hx93'
       refine V 28 0 (ix 33 26 27 b65 o66 36 1 24 hi94) ?_
       refine V 29 36 (lx 36 28 0 1 false 1 (.slice ae96_0 x92.length ne96_0) (hs36.pers _ _ hF71) hc97) ?_
       refine V 30 3 (mv 8 (vi s34.2) e44) ?_
       obtain ⟨x98, hx99, h101⟩ := bind_some h95
       obtain ⟨hi100, hx99'⟩ := idx_spec hx99
       obtain ⟨b102, o103, C104, E105, fz106, rfl, hF108, hE109⟩ := SlA.open hse96_0 hx99'
       have hc111 := hE109 _ _ hx99'
       refine V 31 0 (ix 36 29 30 b102 o103 38 2 16 hi100) ?_
       refine V 32 0 (fa 38 31 1 1 1 b102 (o103 + (s34.2 : Int).toNat * 2) ((o103 + (s34.2 : Int).toNat * 2) + 1)) ?_
       refine V 33 3 (lx 3 32 1 2 false 1 (vi x98.Hi) (hs36.pers _ _ hF108) hc111) ?_
       refine RWP.buildSlice (dst := (some 34)) (ty := 50) (g := none) (by kernel_rfl) rfl (t := 50) (len := 1) (parts := #[(0, (.tmp 33))]) (vs := [(0, (vi x98.Hi))]) (rfl) (E := 3) (cs := [(vi x98.Hi)]) (by kernel_rfl) hs36 (fun b112 w113 (hs114 : HS w0 F0 w113 F3 [(some b112, .cells ([(vi x98.Hi)] : List Value).toArray 3 (0, 0)), es34_0, es6_0]) => ?_)
       have hr116 : RowR tInt 3 F3 (some ⟨b112, 0, none⟩) 1 [x98.Hi] (some b112, .cells ([(vi x98.Hi)] : List Value).toArray 3 (0, 0)) := RowR.lit ⟨rfl, rfl⟩ (by simp)
       obtain ⟨r117, hap118, h119⟩ := bind_some h101
       refine RWP.append (dst := (some 35)) (ty := 50) (g := none) (by kernel_rfl) rfl (x := (.tmp 25)) (y := (.tmp 34)) (t := 50) (t2 := 50) (by_ := 8) (z := (vi 0)) (a2 := (some ⟨b112, 0, none⟩)) (c2 := 1) (m := [x98.Hi]) (T := tInt) (E := 3) (a := as34_0) (cap := ns34_0) (l := s34.1) rfl rfl (by kernel_rfl) (by decide) (by kernel_rfl) (by kernel_rfl) rfl oInt hs114 (k := 1) rfl hrs34_0 (RowR.rd hs114 (k := 0) rfl hr116) (r := r117) hap118 (fun a120 n121 e122 w123 (hs124 : HS w0 F0 w123 F3 [(some b112, .cells ([(vi x98.Hi)] : List Value).toArray 3 (0, 0)), e122, es6_0]) hr125 => ?_)
       refine V 7 50 (ma 35 (.slice a120 r117.length n121)) ?_
       refine RWP.nil ?_
       obtain rfl := some_inj h119
       have hs126 : HS w0 F0 w123 F3 [e122, es6_0] := hs124.drop 0
       exact .inl ⟨rfl, F3, a120, n121, e122, hs126, (Mem.le.refl _), e38, e39, e40, e41, e42, rfl, e44, hr125⟩
      ·have h127 := cond_f hj88 hb90
       refine Rg [0, 1, 2, 3, 4, 5, 6, 7, 8, 9, 10, 11] ?_
       refine V 36 50 (mv 7 (.slice as34_0 s34.1.length ns34_0) e43) ?_
       refine V 37 33 (mv 0 (.slice (some ⟨b65, o66, none⟩) x0.length n0_0) e39) ?_
       refine V 38 3 (mv 6 (vi s6.2) e42) ?_
       obtain ⟨x128, hx129, h131⟩ := bind_some h127
       obtain ⟨hi130, hx129'⟩ := idx_spec hx129
       obtain ⟨ae132_0, ne132_0, hc133, hbe132_0, hse132_0⟩ := hE72 _ _ hx129'
       refine V 39 0 (ix 33 37 38 b65 o66 36 1 24 hi130) ?_
       refine V 40 36 (lx 36 39 0 1 false 1 (.slice ae132_0 x128.length ne132_0) (hs36.pers _ _ hF71) hc133) ?_
       refine V 41 3 (mv 8 (vi s34.2) e44) ?_
       obtain ⟨x134, hx135, h137⟩ := bind_some h131
       obtain ⟨hi136, hx135'⟩ := idx_spec hx135
       obtain ⟨b138, o139, C140, E141, fz142, rfl, hF144, hE145⟩ := SlA.open hse132_0 hx135'
       have hc147 := hE145 _ _ hx135'
       refine V 42 0 (ix 36 40 41 b138 o139 38 2 16 hi136) ?_
       refine V 43 0 (fa 38 42 0 0 1 b138 (o139 + (s34.2 : Int).toNat * 2) (o139 + (s34.2 : Int).toNat * 2)) ?_
       refine V 44 3 (lx 3 43 0 2 false 1 (vi x134.Lo) (hs36.pers _ _ hF144) hc147) ?_
       refine RWP.buildSlice (dst := (some 45)) (ty := 50) (g := none) (by kernel_rfl) rfl (t := 50) (len := 1) (parts := #[(0, (.tmp 44))]) (vs := [(0, (vi x134.Lo))]) (rfl) (E := 3) (cs := [(vi x134.Lo)]) (by kernel_rfl) hs36 (fun b148 w149 (hs150 : HS w0 F0 w149 F3 [(some b148, .cells ([(vi x134.Lo)] : List Value).toArray 3 (0, 0)), es34_0, es6_0]) => ?_)
       have hr152 : RowR tInt 3 F3 (some ⟨b148, 0, none⟩) 1 [x134.Lo] (some b148, .cells ([(vi x134.Lo)] : List Value).toArray 3 (0, 0)) := RowR.lit ⟨rfl, rfl⟩ (by simp)
       obtain ⟨r153, hap154, h155⟩ := bind_some h137
       refine RWP.append (dst := (some 46)) (ty := 50) (g := none) (by kernel_rfl) rfl (x := (.tmp 36)) (y := (.tmp 45)) (t := 50) (t2 := 50) (by_ := 8) (z := (vi 0)) (a2 := (some ⟨b148, 0, none⟩)) (c2 := 1) (m := [x134.Lo]) (T := tInt) (E := 3) (a := as34_0) (cap := ns34_0) (l := s34.1) rfl rfl (by kernel_rfl) (by decide) (by kernel_rfl) (by kernel_rfl) rfl oInt hs150 (k := 1) rfl hrs34_0 (RowR.rd hs150 (k := 0) rfl hr152) (r := r153) hap154 (fun a156 n157 e158 w159 (hs160 : HS w0 F0 w159 F3 [(some b148, .cells ([(vi x134.Lo)] : List Value).toArray 3 (0, 0)), e158, es6_0]) hr161 => ?_)
       refine V 7 50 (ma 46 (.slice a156 r153.length n157)) ?_
       refine RWP.nil ?_
       obtain rfl := some_inj h155
       have hs162 : HS w0 F0 w159 F3 [e158, es6_0] := hs160.drop 0
       exact .inl ⟨rfl, F3, a156, n157, e158, hs162, (Mem.le.refl _), e38, e39, e40, e41, e42, rfl, e44, hr161⟩
     ·rintro f w77 ⟨F5, aj80_0, nj80_0, ej80_0, hs78, le79, e81, e82, e83, e84, e85, e86, e87, hrj80_0⟩
      refine blockQ_nrm ?_
      refine thenQ_nrm ?_
      refine Rg [0, 1, 2] ?_
      refine V 22 3 (mv 8 (vi s34.2) e87) ?_
      refine V 23 3 (run_add (t := 3) (t' := 3) (x := (.tmp 22)) (y := (.const (vi 1))) (k := .i64) (a := s34.2) (b := 1) rfl rfl) ?_
      refine V 8 3 (ma 23 (vi (W64 (s34.2 + 1)))) ?_
      refine RWP.nil ?_
      have hn163 := iter_next h89 hnx60
      exact ⟨m57, Nat.lt_succ_self _, (j80, (W64 (s34.2 + 1))), F5, aj80_0, nj80_0, ej80_0, hn163, hs78, (le37.trans le79), e81, e82, e83, e84, e85, e86, rfl, hrj80_0⟩
    ·have h164 := cond_f h64 hb75
     refine CWP.exit (by kernel_rfl) ?_
     refine thenQ_ex ?_
     refine thenQ_ex ?_
     refine blockQ_hit rfl ?_
     have ho165 := iter_done h164 hnx60
     exact .inl ⟨rfl, (s34.1, s34.2), F3, as34_0, ns34_0, es34_0, ho165, hs36, le37, e38, e39, e40, e41, e42, e43, hrs34_0⟩
   ·rintro f w46 ⟨s45, F4, as45_0, ns45_0, es45_0, rfl, hs47, le48, e49, e50, e51, e52, e53, e54, hrs45_0⟩
    have h166 := k_done h33
    refine thenQ_nrm ?_
    refine Rg [0, 1, 2, 3, 4] ?_
    refine V 47 71 (mv 5 (.slice as6_0 s6.1.length ns6_0) e52) ?_
    refine V 48 50 (mv 7 (.slice as45_0 s45.1.length ns45_0) e54) ?_
    have hb170 := RowR.bound hrs45_0
    obtain ⟨F6, hs167, le168, hs169⟩ : ∃ Fq, HS w0 F0 w46 Fq [es6_0] ∧ Mem.le F4 Fq ∧ SlA tInt Fq as45_0 s45.1 := HS.freezeRow hs47 (k := 0) rfl hrs45_0
    refine RWP.buildSlice (dst := (some 49)) (ty := 71) (g := none) (by kernel_rfl) rfl (t := 71) (len := 1) (parts := #[(0, (.tmp 48))]) (vs := [(0, (.slice as45_0 s45.1.length ns45_0))]) (rfl) (E := 50) (cs := [(.slice as45_0 s45.1.length ns45_0)]) (by kernel_rfl) hs167 (fun b171 w172 (hs173 : HS w0 F0 w172 F6 [(some b171, .cells ([(.slice as45_0 s45.1.length ns45_0)] : List Value).toArray 50 (0, 0)), es6_0]) => ?_)
    have hr175 : RowR (tSl tInt) 50 F6 (some ⟨b171, 0, none⟩) 1 [s45.1] (some b171, .cells ([(.slice as45_0 s45.1.length ns45_0)] : List Value).toArray 50 (0, 0)) := RowR.lit ⟨⟨as45_0, ns45_0, rfl, hb170, hs169⟩, rfl⟩ (by simp)
    obtain ⟨r176, hap177, h178⟩ := bind_some h166
    refine RWP.append (dst := (some 50)) (ty := 71) (g := none) (by kernel_rfl) rfl (x := (.tmp 47)) (y := (.tmp 49)) (t := 71) (t2 := 71) (by_ := 24) (z := (.slice none ([] : List Int).length 0)) (a2 := (some ⟨b171, 0, none⟩)) (c2 := 1) (m := [s45.1]) (T := (tSl tInt)) (E := 50) (a := as6_0) (cap := ns6_0) (l := s6.1) rfl rfl (by kernel_rfl) (by decide) (by kernel_rfl) (by kernel_rfl) rfl oSl hs173 (k := 1) rfl (hrs6_0.mono (le48.trans le168)) (RowR.rd hs173 (k := 0) rfl hr175) (r := r176) hap177 (fun a179 n180 e181 w182 (hs183 : HS w0 F0 w182 F6 [(some b171, .cells ([(.slice as45_0 s45.1.length ns45_0)] : List Value).toArray 50 (0, 0)), e181]) hr184 => ?_)
    refine V 5 71 (ma 50 (.slice a179 r176.length n180)) ?_
    refine RWP.nil ?_
    refine blockQ_nrm ?_
    refine thenQ_nrm ?_
    refine Rg [0, 1, 2] ?_
    refine V 13 3 (mv 6 (vi s6.2) e53) ?_
    refine V 14 3 (run_add (t := 3) (t' := 3) (x := (.tmp 13)) (y := (.const (vi 1))) (k := .i64) (a := s6.2) (b := 1) rfl rfl) ?_
    refine V 6 3 (ma 14 (vi (W64 (s6.2 + 1)))) ?_
    refine RWP.nil ?_
    have hs185 : HS w0 F0 w182 F6 [e181] := hs183.drop 0
    have hn186 := iter_next h178 hnx26
    exact ⟨m23, Nat.lt_succ_self _, (r176, (W64 (s6.2 + 1))), F6, a179, n180, e181, hn186, hs185, ((le9.trans le48).trans le168), e49, e50, e51, rfl, rfl, hr184⟩
  ·have h187 := cond_f hb25 hb27
   refine CWP.exit (by kernel_rfl) ?_
   refine thenQ_ex ?_
   refine thenQ_ex ?_
   refine blockQ_hit rfl ?_
   have ho188 := iter_done h187 hnx26
   exact .inl ⟨rfl, (s6.1, s6.2), F1, as6_0, ns6_0, es6_0, ho188, hs8, le9, e10, e13, hrs6_0⟩
 ·rintro f w16 ⟨s15, F2, as15_0, ns15_0, es15_0, rfl, hs17, le18, e19, e20, hrs15_0⟩
  have h189 := k_done h5
  refine thenQ_nrm ?_
  refine Sq (Rg [0, 1] ?_)
  refine V 51 71 (mv 5 (.slice as15_0 s15.1.length ns15_0) e20) ?_
  refine V 4 71 (ma 51 (.slice as15_0 s15.1.length ns15_0)) ?_
  refine Nt ?_
  refine CWP.ret (by kernel_rfl) ?_
  have hb193 := RowR.bound hrs15_0
  obtain ⟨F7, hs190, le191, hs192⟩ : ∃ Fq, HS w0 F0 w16 Fq [] ∧ Mem.le F2 Fq ∧ SlA (tSl tInt) Fq as15_0 s15.1 := HS.freezeRow hs17 (k := 0) rfl hrs15_0
  have hfin := some_inj h189
  subst hfin
  exact ⟨e19, (.slice as15_0 s15.1.length ns15_0), res_of (l := [.tmp 4]) (by kernel_rfl) (vs := [(.slice as15_0 s15.1.length ns15_0)]) ⟨rfl, trivial⟩, (.slice as15_0 s15.1.length ns15_0), F7, rfl, hs190.clear, ⟨as15_0, ns15_0, rfl, hb193, hs192⟩⟩
end Go.Proofs.Ythbcnabeabcmlaa
namespace Go.Proofs.Ythbcnabeabcmlaa
open Go.Proofs
def ref03_Earliest (N : Nat) (x0 : System) : Option ((List (List Int)) × Int) :=
 ((ref03_Times N x0).bind fun r4 => ((ref03_ends N r4.1 false).bind fun r12 => some (r12, r4.2)))
theorem co_ref03_Earliest : CallOk Try.prog 49 := fun _ _ => by kernel_rfl
set_option maxHeartbeats 4000000 in
set_option maxRecDepth 100000 in
theorem c_ref03_Earliest (N : Nat) (w0 : World) (F0 : Mem) (hF : ∀ b o, F0 b = some o → w0.heap[b]? = some o) (x0 : System) (a0_0 : Option Addr) (n0_0 : Nat) (hb0_0 : LC x0.Tracks.length n0_0) (hs0_0 : SlA tTrack F0 a0_0 x0.Tracks) (a0_1 : Option Addr) (n0_1 : Nat) (hb0_1 : LC x0.Ties.length n0_1) (hs0_1 : SlA tTie F0 a0_1 x0.Ties) (r : ((List (List Int)) × Int)) (h : ref03_Earliest N x0 = some r) :
  Calls Try.prog 49 ([(.agg (kSystem x0 a0_0 n0_0 a0_1 n0_1))] : List Value).toArray w0 (FRet w0 F0 fun F' v => ∃ (aq0_0 : Option Addr) (nq0_0 : Nat), v = (.tuple #[(.slice aq0_0 r.1.length nq0_0), (vi r.2)]) ∧ LC r.1.length nq0_0 ∧ SlA (tSl tInt) F' aq0_0 r.1) := by
 have hs0 := HS.start hF
 refine calls_of (n := 14) (c := bodyOf Try.f49) Try.func49 (by kernel_rfl) (by kernel_rfl) (by kernel_rfl) ?_
 refine Sq (Rg [0, 1, 2] ?_)
 refine Bx 1 0 0 25 (kSystem x0 a0_0 n0_0 a0_1 n0_1) hs0 (fun b1 w2 (hs3 : HS w0 F0 w2 F0 [(sb b1 (kSystem x0 a0_0 n0_0 a0_1 n0_1) 25)]) => ?_)
 refine V 2 71 (mc (.slice none 0 0) (.slice none ([] : List (List Int)).length 0)) ?_
 refine V 3 30 (mc (vi 0) (vi 0)) ?_
 refine Nss (Rg [0, 1, 2, 3, 4, 5, 6] ?_)
 refine V 7 25 (ld 25 1 b1 0 true 3 (.agg (kSystem x0 a0_0 n0_0 a0_1 n0_1)) (hs3.ownAt (k := 0) rfl)) ?_
 obtain ⟨r4, hr5, h6⟩ := bind_some h
 refine Cl 8 34 47 #[(.tmp 7)] #[25] co_ref03_Times hs3 (c_ref03_Times N w2 F0 hs3.pers (x0) a0_0 n0_0 hb0_0 hs0_0 a0_1 n0_1 hb0_1 hs0_1 _ hr5) ?_
 intro v7 F1 w8 hs9 le10 hp11
 obtain ⟨ar4_0_0, nr4_0_0, rfl, hbr4_0_0, hsr4_0_0⟩ := hp11
 refine V 6 34 (mv 8 (.tuple #[(.slice ar4_0_0 r4.1.length nr4_0_0), (vi r4.2)])) ?_
 refine V 9 33 (ex 6 0 (.slice ar4_0_0 r4.1.length nr4_0_0) (vs := #[(.slice ar4_0_0 r4.1.length nr4_0_0), (vi r4.2)])) ?_
 refine V 10 30 (ex 6 1 (vi r4.2) (vs := #[(.slice ar4_0_0 r4.1.length nr4_0_0), (vi r4.2)])) ?_
 refine V 4 33 (ma 9 (.slice ar4_0_0 r4.1.length nr4_0_0)) ?_
 refine V 5 30 (ma 10 (vi r4.2)) ?_
 refine Nss (Rg [0, 1, 2, 3, 4] ?_)
 refine V 11 33 (mv 4 (.slice ar4_0_0 r4.1.length nr4_0_0)) ?_
 obtain ⟨r12, hr13, h14⟩ := bind_some h6
 refine Cl 12 71 96 #[(.tmp 11), (.const (.bool false))] #[33, 4] co_ref03_ends hs9 (c_ref03_ends N w8 F1 hs9.pers (r4.1) ar4_0_0 nr4_0_0 hbr4_0_0 hsr4_0_0 (false) _ hr13) ?_
 intro v15 F2 w16 hs17 le18 hp19
 obtain ⟨ar12_0_0, nr12_0_0, rfl, hbr12_0_0, hsr12_0_0⟩ := hp19
 refine V 13 30 (mv 5 (vi r4.2)) ?_
 refine V 2 71 (ma 12 (.slice ar12_0_0 r12.length nr12_0_0)) ?_
 refine V 3 30 (ma 13 (vi r4.2)) ?_
 refine Nt ?_
 refine CWP.ret (by kernel_rfl) ?_
 have hfin := some_inj h14
 subst hfin
 exact ⟨rfl, (.tuple #[(.slice ar12_0_0 r12.length nr12_0_0), (vi r4.2)]), res_of (l := [.tmp 2, .tmp 3]) (by kernel_rfl) (vs := [(.slice ar12_0_0 r12.length nr12_0_0), (vi r4.2)]) ⟨rfl, ⟨rfl, trivial⟩⟩, (.tuple #[(.slice ar12_0_0 r12.length nr12_0_0), (vi r4.2)]), F2, rfl, hs17.clear, ⟨ar12_0_0, nr12_0_0, rfl, hbr12_0_0, hsr12_0_0⟩⟩
end Go.Proofs.Ythbcnabeabcmlaa
namespace Go.Proofs.Ythbcnabeabcmlaa
open Go.Proofs
def clocks_Latest_1 (N : Nat) (x0 : Ref) (z0 : Reached) : Option Int :=
 some (mgetD z0.at_ x0 0)
theorem co_clocks_Latest_1 : CallOk Try.prog 97 := fun _ _ => by kernel_rfl
set_option maxHeartbeats 4000000 in
set_option maxRecDepth 100000 in
theorem c_clocks_Latest_1 (N : Nat) (w0 : World) (F0 : Mem) (hF : ∀ b o, F0 b = some o → w0.heap[b]? = some o) (x0 : Ref) (bz0 : Nat) (z0 : Reached) (oz0_0 : Option Nat) (hmz0_0 : MpA tRef tInt F0 oz0_0 z0.at_) (oz0_1 : Option Nat) (hmz0_1 : MpA tRef tBound F0 oz0_1 z0.by_) (hz0 : F0 bz0 = some (oc #[(.map oz0_0), (.map oz0_1)] 95)) (r : Int) (h : clocks_Latest_1 N x0 z0 = some r) :
  Calls Try.prog 97 ([(.agg (kRef x0)), (.pointer (some ⟨bz0, 0, none⟩))] : List Value).toArray w0 (FRet w0 F0 fun F' v => v = (vi r)) := by
 have hs0 := HS.start hF
 refine calls_of (n := 8) (c := bodyOf Try.f97) Try.func97 (by kernel_rfl) (by kernel_rfl) (by kernel_rfl) ?_
 refine Sq (Rg [0, 1] ?_)
 refine Bx 2 0 0 27 (kRef x0) hs0 (fun b1 w2 (hs3 : HS w0 F0 w2 F0 [(sb b1 (kRef x0) 27)]) => ?_)
 refine V 3 3 (mc (vi 0) (vi 0)) ?_
 refine Nss (Rg [0, 1, 2, 3, 4] ?_)
 refine V 4 0 (fa 95 1 0 0 1 bz0 0 0) ?_
 refine V 5 92 (ld 92 4 bz0 0 false 1 (.map oz0_0) (hs3.pers _ _ hz0)) ?_
 refine V 6 27 (ld 27 2 b1 0 true 2 (.agg (kRef x0)) (hs3.ownAt (k := 0) rfl)) ?_
 refine V 7 3 (run_lookV1 (mt := 92) (k := 27) (vt := 3) (m := (.tmp 5)) (x := (.tmp 6)) (kv := (.agg (kRef x0))) (kx := x0) (z := (vi 0)) (zx := 0) (K := tRef) (T := tInt) kl27 rfl rfl ⟨_, rfl, rfl⟩ (by kernel_rfl) (by kernel_rfl) ⟨_, rfl, rfl⟩ (MpA.mpw hs3.pers hmz0_0) (fun h => by obtain ⟨_, rfl, rfl⟩ := h; rfl)) ?_
 refine V 3 3 (ma 7 (vi (mgetD z0.at_ x0 0))) ?_
 refine Nt ?_
 refine CWP.ret (by kernel_rfl) ?_
 have hfin := some_inj h
 subst hfin
 exact ⟨rfl, (vi (mgetD z0.at_ x0 0)), res_of (l := [.tmp 3]) (by kernel_rfl) (vs := [(vi (mgetD z0.at_ x0 0))]) ⟨rfl, trivial⟩, (vi (mgetD z0.at_ x0 0)), F0, rfl, hs3.clear, rfl⟩
end Go.Proofs.Ythbcnabeabcmlaa
namespace Go.Proofs.Ythbcnabeabcmlaa
open Go.Proofs
def clocks_Latest (N : Nat) (x0 : System) : Option ((List (List Int)) × Int) :=
 ((clocks_solved N x0).bind fun r4 => (bif (r4.2.2 != 0) then some (([] : List (List Int)), r4.2.2) else ((clocks_each_int N x0 (fun y0 => clocks_Latest_1 N y0 r4.1)).bind fun r28 => some (r28, 0))))
theorem co_clocks_Latest : CallOk Try.prog 50 := fun _ _ => by kernel_rfl
set_option maxHeartbeats 4000000 in
set_option maxRecDepth 100000 in
theorem c_clocks_Latest (N : Nat) (w0 : World) (F0 : Mem) (hF : ∀ b o, F0 b = some o → w0.heap[b]? = some o) (x0 : System) (a0_0 : Option Addr) (n0_0 : Nat) (hb0_0 : LC x0.Tracks.length n0_0) (hs0_0 : SlA tTrack F0 a0_0 x0.Tracks) (a0_1 : Option Addr) (n0_1 : Nat) (hb0_1 : LC x0.Ties.length n0_1) (hs0_1 : SlA tTie F0 a0_1 x0.Ties) (r : ((List (List Int)) × Int)) (h : clocks_Latest N x0 = some r) :
  Calls Try.prog 50 ([(.agg (kSystem x0 a0_0 n0_0 a0_1 n0_1))] : List Value).toArray w0 (FRet w0 F0 fun F' v => ∃ (aq0_0 : Option Addr) (nq0_0 : Nat), v = (.tuple #[(.slice aq0_0 r.1.length nq0_0), (vi r.2)]) ∧ LC r.1.length nq0_0 ∧ SlA (tSl tInt) F' aq0_0 r.1) := by
 have hs0 := HS.start hF
 refine calls_of (n := 19) (c := bodyOf Try.f50) Try.func50 (by kernel_rfl) (by kernel_rfl) (by kernel_rfl) ?_
 refine Sq (Rg [0, 1, 2] ?_)
 refine Bx 1 0 0 25 (kSystem x0 a0_0 n0_0 a0_1 n0_1) hs0 (fun b1 w2 (hs3 : HS w0 F0 w2 F0 [(sb b1 (kSystem x0 a0_0 n0_0 a0_1 n0_1) 25)]) => ?_)
 refine V 2 71 (mc (.slice none 0 0) (.slice none ([] : List (List Int)).length 0)) ?_
 refine V 3 30 (mc (vi 0) (vi 0)) ?_
 refine Nss (Rg [0, 1, 2, 3, 4, 5, 6, 7, 8, 9, 10] ?_)
 refine V 8 25 (ld 25 1 b1 0 true 3 (.agg (kSystem x0 a0_0 n0_0 a0_1 n0_1)) (hs3.ownAt (k := 0) rfl)) ?_
 obtain ⟨r4, hr5, h6⟩ := bind_some h
 refine Cl 9 96 71 #[(.tmp 8)] #[25] co_clocks_solved hs3 (c_clocks_solved N w2 F0 hs3.pers (x0) a0_0 n0_0 hb0_0 hs0_0 a0_1 n0_1 hb0_1 hs0_1 _ hr5) ?_
 intro v7 F1 w8 hs9 le10 hp11
 obtain ⟨or4_0_0, or4_0_1, or4_1_0, or4_1_1, rfl, hmr4_0_0, hmr4_0_1, hmr4_1_0, hmr4_1_1⟩ := hp11
 refine V 7 96 (mv 9 (.tuple #[(.agg #[(.map or4_0_0), (.map or4_0_1)]), (.agg #[(.map or4_1_0), (.map or4_1_1)]), (vi r4.2.2)])) ?_
 refine V 10 95 (ex 7 0 (.agg #[(.map or4_0_0), (.map or4_0_1)]) (vs := #[(.agg #[(.map or4_0_0), (.map or4_0_1)]), (.agg #[(.map or4_1_0), (.map or4_1_1)]), (vi r4.2.2)])) ?_
 refine V 11 95 (ex 7 1 (.agg #[(.map or4_1_0), (.map or4_1_1)]) (vs := #[(.agg #[(.map or4_0_0), (.map or4_0_1)]), (.agg #[(.map or4_1_0), (.map or4_1_1)]), (vi r4.2.2)])) ?_
 refine V 12 30 (ex 7 2 (vi r4.2.2) (vs := #[(.agg #[(.map or4_0_0), (.map or4_0_1)]), (.agg #[(.map or4_1_0), (.map or4_1_1)]), (vi r4.2.2)])) ?_
 refine Al 4 0 95 #[(.map none), (.map none)] hs9 (fun b12 w13 (hs14 : HS w0 F0 w13 F1 [(sb b12 #[(.map none), (.map none)] 95), (sb b1 (kSystem x0 a0_0 n0_0 a0_1 n0_1) 25)]) => ?_)
 refine Al 5 0 95 #[(.map none), (.map none)] hs14 (fun b15 w16 (hs17 : HS w0 F0 w16 F1 [(sb b15 #[(.map none), (.map none)] 95), (sb b12 #[(.map none), (.map none)] 95), (sb b1 (kSystem x0 a0_0 n0_0 a0_1 n0_1) 25)]) => ?_)
 refine RWP.store (ty := 0) (g := none) (by kernel_rfl) rfl (x := (.tmp 4)) (y := (.tmp 10)) (t := 95) (gg := true) (s := 2) (v := (.agg #[(.map or4_0_0), (.map or4_0_1)])) (b := b12) (o := 0) (C := #[(.map none), (.map none)]) rfl rfl (by kernel_rfl) hs17 (k := 1) rfl rfl rfl rfl (C' := #[(.map or4_0_0), (.map or4_0_1)]) rfl (fun w18 (hs19 : HS w0 F0 w18 F1 [(sb b15 #[(.map none), (.map none)] 95), (sb b12 #[(.map or4_0_0), (.map or4_0_1)] 95), (sb b1 (kSystem x0 a0_0 n0_0 a0_1 n0_1) 25)]) => ?_)
 refine RWP.store (ty := 0) (g := none) (by kernel_rfl) rfl (x := (.tmp 5)) (y := (.tmp 11)) (t := 95) (gg := true) (s := 2) (v := (.agg #[(.map or4_1_0), (.map or4_1_1)])) (b := b15) (o := 0) (C := #[(.map none), (.map none)]) rfl rfl (by kernel_rfl) hs19 (k := 0) rfl rfl rfl rfl (C' := #[(.map or4_1_0), (.map or4_1_1)]) rfl (fun w20 (hs21 : HS w0 F0 w20 F1 [(sb b15 #[(.map or4_1_0), (.map or4_1_1)] 95), (sb b12 #[(.map or4_0_0), (.map or4_0_1)] 95), (sb b1 (kSystem x0 a0_0 n0_0 a0_1 n0_1) 25)]) => ?_)
 refine V 6 30 (ma 12 (vi r4.2.2)) ?_
 refine Nss ?_
 refine Sq (Rg [0, 1] ?_)
 refine V 13 30 (mv 6 (vi r4.2.2)) ?_
 refine V 14 4 (run_neq (t := 30) (t' := 30) (x := (.tmp 13)) (y := (.const (vi 0))) (k := .i64) (a := r4.2.2) (b := 0) rfl rfl) ?_
 refine Nt ?_
 refine CWP.cond (t := (r4.2.2 != 0)) (by kernel_rfl) rfl (fun hb22 => ?_) (fun hb22 => ?_)
 ·have h23 := cond_t h6 hb22
  refine Sq (Rg [0, 1, 2] ?_)
  refine V 15 30 (mv 6 (vi r4.2.2)) ?_
  refine V 2 71 (mc (.slice none 0 0) (.slice none ([] : List (List Int)).length 0)) ?_
  refine V 3 30 (ma 15 (vi r4.2.2)) ?_
  refine Nt ?_
  refine CWP.ret (by kernel_rfl) ?_
  refine thenQ_ret ?_
  have hfin := some_inj h23
  subst hfin
  exact ⟨rfl, (.tuple #[(.slice none ([] : List (List Int)).length 0), (vi r4.2.2)]), res_of (l := [.tmp 2, .tmp 3]) (by kernel_rfl) (vs := [(.slice none ([] : List (List Int)).length 0), (vi r4.2.2)]) ⟨rfl, ⟨rfl, trivial⟩⟩, (.tuple #[(.slice none ([] : List (List Int)).length 0), (vi r4.2.2)]), F1, rfl, hs21.clear, ⟨none, 0, rfl, LC.nil, (.inl rfl)⟩⟩
 ·have h24 := cond_f h6 hb22
  refine Sc ?_
  refine thenQ_nrm ?_
  refine Sq (Rg [0, 1, 2, 3, 4] ?_)
  refine V 16 25 (ld 25 1 b1 0 true 3 (.agg (kSystem x0 a0_0 n0_0 a0_1 n0_1)) (hs21.ownAt (k := 2) rfl)) ?_
  refine V 17 114 (run_makeFunc (fn := .func 97) (first := #[]) (cap := #[(.tmp 4)]) (fl := []) (cl := [(.pointer (some ⟨b12, 0, none⟩))]) rfl (rfl)) ?_
  obtain ⟨F2, hs25, le26, hF27⟩ : ∃ Fq, HS w0 F0 w20 Fq [(sb b15 #[(.map or4_1_0), (.map or4_1_1)] 95), (sb b1 (kSystem x0 a0_0 n0_0 a0_1 n0_1) 25)] ∧ Mem.le F1 Fq ∧ Fq b12 = some (oc #[(.map or4_0_0), (.map or4_0_1)] 95) := HS.freezeC hs21 (k := 1) rfl
  obtain ⟨r28, hr29, h30⟩ := bind_some h24
  refine Cl 18 71 94 #[(.tmp 16), (.tmp 17)] #[25, 114] co_clocks_each_int hs25 (c_clocks_each_int N w20 F2 hs25.pers (x0) a0_0 n0_0 hb0_0 (SlA.mono hs0_0 (le10.trans le26)) a0_1 n0_1 hb0_1 (SlA.mono hs0_1 (le10.trans le26)) 97 [] [(.pointer (some ⟨b12, 0, none⟩))] (fun y0 => clocks_Latest_1 N y0 r4.1) co_clocks_Latest_1 (fun w1 F1 y0 r le1 pe1 hr1 => c_clocks_Latest_1 N w1 F1 pe1  y0 b12 r4.1 or4_0_0 (MpA.mono (MpA.mono hmr4_0_0 le26) le1) or4_0_1 (MpA.mono (MpA.mono hmr4_0_1 le26) le1) (le1 _ _ hF27) r hr1) _ hr29) ?_
  intro v31 F3 w32 hs33 le34 hp35
  obtain ⟨ar28_0_0, nr28_0_0, rfl, hbr28_0_0, hsr28_0_0⟩ := hp35
  refine V 2 71 (ma 18 (.slice ar28_0_0 r28.length nr28_0_0)) ?_
  refine V 3 30 (mc (vi 0) (vi 0)) ?_
  refine Nt ?_
  refine CWP.ret (by kernel_rfl) ?_
  have hfin := some_inj h30
  subst hfin
  exact ⟨rfl, (.tuple #[(.slice ar28_0_0 r28.length nr28_0_0), (vi 0)]), res_of (l := [.tmp 2, .tmp 3]) (by kernel_rfl) (vs := [(.slice ar28_0_0 r28.length nr28_0_0), (vi 0)]) ⟨rfl, ⟨rfl, trivial⟩⟩, (.tuple #[(.slice ar28_0_0 r28.length nr28_0_0), (vi 0)]), F3, rfl, hs33.clear, ⟨ar28_0_0, nr28_0_0, rfl, hbr28_0_0, hsr28_0_0⟩⟩
end Go.Proofs.Ythbcnabeabcmlaa
namespace Go.Proofs.Ythbcnabeabcmlaa
open Go.Proofs
def ref03_Latest (N : Nat) (x0 : System) : Option ((List (List Int)) × Int) :=
 ((ref03_Times N x0).bind fun r4 => ((ref03_ends N r4.1 true).bind fun r12 => some (r12, r4.2)))
theorem co_ref03_Latest : CallOk Try.prog 51 := fun _ _ => by kernel_rfl
set_option maxHeartbeats 4000000 in
set_option maxRecDepth 100000 in
theorem c_ref03_Latest (N : Nat) (w0 : World) (F0 : Mem) (hF : ∀ b o, F0 b = some o → w0.heap[b]? = some o) (x0 : System) (a0_0 : Option Addr) (n0_0 : Nat) (hb0_0 : LC x0.Tracks.length n0_0) (hs0_0 : SlA tTrack F0 a0_0 x0.Tracks) (a0_1 : Option Addr) (n0_1 : Nat) (hb0_1 : LC x0.Ties.length n0_1) (hs0_1 : SlA tTie F0 a0_1 x0.Ties) (r : ((List (List Int)) × Int)) (h : ref03_Latest N x0 = some r) :
  Calls Try.prog 51 ([(.agg (kSystem x0 a0_0 n0_0 a0_1 n0_1))] : List Value).toArray w0 (FRet w0 F0 fun F' v => ∃ (aq0_0 : Option Addr) (nq0_0 : Nat), v = (.tuple #[(.slice aq0_0 r.1.length nq0_0), (vi r.2)]) ∧ LC r.1.length nq0_0 ∧ SlA (tSl tInt) F' aq0_0 r.1) := by
 have hs0 := HS.start hF
 refine calls_of (n := 14) (c := bodyOf Try.f51) Try.func51 (by kernel_rfl) (by kernel_rfl) (by kernel_rfl) ?_
 refine Sq (Rg [0, 1, 2] ?_)
 refine Bx 1 0 0 25 (kSystem x0 a0_0 n0_0 a0_1 n0_1) hs0 (fun b1 w2 (hs3 : HS w0 F0 w2 F0 [(sb b1 (kSystem x0 a0_0 n0_0 a0_1 n0_1) 25)]) => ?_)
 refine V 2 71 (mc (.slice none 0 0) (.slice none ([] : List (List Int)).length 0)) ?_
 refine V 3 30 (mc (vi 0) (vi 0)) ?_
 refine Nss (Rg [0, 1, 2, 3, 4, 5, 6] ?_)
 refine V 7 25 (ld 25 1 b1 0 true 3 (.agg (kSystem x0 a0_0 n0_0 a0_1 n0_1)) (hs3.ownAt (k := 0) rfl)) ?_
 obtain ⟨r4, hr5, h6⟩ := bind_some h
 refine Cl 8 34 47 #[(.tmp 7)] #[25] co_ref03_Times hs3 (c_ref03_Times N w2 F0 hs3.pers (x0) a0_0 n0_0 hb0_0 hs0_0 a0_1 n0_1 hb0_1 hs0_1 _ hr5) ?_
 intro v7 F1 w8 hs9 le10 hp11
 obtain ⟨ar4_0_0, nr4_0_0, rfl, hbr4_0_0, hsr4_0_0⟩ := hp11
 refine V 6 34 (mv 8 (.tuple #[(.slice ar4_0_0 r4.1.length nr4_0_0), (vi r4.2)])) ?_
 refine V 9 33 (ex 6 0 (.slice ar4_0_0 r4.1.length nr4_0_0) (vs := #[(.slice ar4_0_0 r4.1.length nr4_0_0), (vi r4.2)])) ?_
 refine V 10 30 (ex 6 1 (vi r4.2) (vs := #[(.slice ar4_0_0 r4.1.length nr4_0_0), (vi r4.2)])) ?_
 refine V 4 33 (ma 9 (.slice ar4_0_0 r4.1.length nr4_0_0)) ?_
 refine V 5 30 (ma 10 (vi r4.2)) ?_
 refine Nss (Rg [0, 1, 2, 3, 4] ?_)
 refine V 11 33 (mv 4 (.slice ar4_0_0 r4.1.length nr4_0_0)) ?_
 obtain ⟨r12, hr13, h14⟩ := bind_some h6
 refine Cl 12 71 96 #[(.tmp 11), (.const (.bool true))] #[33, 4] co_ref03_ends hs9 (c_ref03_ends N w8 F1 hs9.pers (r4.1) ar4_0_0 nr4_0_0 hbr4_0_0 hsr4_0_0 (true) _ hr13) ?_
 intro v15 F2 w16 hs17 le18 hp19
 obtain ⟨ar12_0_0, nr12_0_0, rfl, hbr12_0_0, hsr12_0_0⟩ := hp19
 refine V 13 30 (mv 5 (vi r4.2)) ?_
 refine V 2 71 (ma 12 (.slice ar12_0_0 r12.length nr12_0_0)) ?_
 refine V 3 30 (ma 13 (vi r4.2)) ?_
 refine Nt ?_
 refine CWP.ret (by kernel_rfl) ?_
 have hfin := some_inj h14
 subst hfin
 exact ⟨rfl, (.tuple #[(.slice ar12_0_0 r12.length nr12_0_0), (vi r4.2)]), res_of (l := [.tmp 2, .tmp 3]) (by kernel_rfl) (vs := [(.slice ar12_0_0 r12.length nr12_0_0), (vi r4.2)]) ⟨rfl, ⟨rfl, trivial⟩⟩, (.tuple #[(.slice ar12_0_0 r12.length nr12_0_0), (vi r4.2)]), F2, rfl, hs17.clear, ⟨ar12_0_0, nr12_0_0, rfl, hbr12_0_0, hsr12_0_0⟩⟩
end Go.Proofs.Ythbcnabeabcmlaa
namespace Go.Proofs.Ythbcnabeabcmlaa
open Go.Proofs
def ref03_SameSpans_L1 (N : Nat) (x0 : (List (List Span))) (x1 : (List (List Span))) (s7 : Int) (j33 : (Bool)) : Int → Option (Flow Bool Int) := fun s75 =>
 ((idx x0 s7).bind fun x98 => (bif (decide (s75 < (x98.length : Int))) then (((idx x0 s7).bind fun x128 => ((idx x128 s75).bind fun x134 => ((idx x1 s7).bind fun x148 => ((idx x148 s75).bind fun x162 => some (!((x134.Lo == x162.Lo) && ((x134.Hi == x162.Hi) && true))))))).bind fun j119 => (bif j119 then some (.ret false) else some (.next (W64 (s75 + 1))))) else some (.done s75)))
def ref03_SameSpans_L0 (N : Nat) (x0 : (List (List Span))) (x1 : (List (List Span))) : Int → Option (Flow Bool Int) := fun s7 =>
 (bif (decide (s7 < (x0.length : Int))) then (((idx x0 s7).bind fun x41 => ((idx x1 s7).bind fun x55 => some ((x41.length : Int) != (x55.length : Int)))).bind fun j33 => (bif j33 then some (.ret false) else ((iter (ref03_SameSpans_L1 N x0 x1 s7 j33) N 0).bind fun o => o.k (fun r => some (.ret r)) (fun s84 => some (.next (W64 (s7 + 1))))))) else some (.done s7))
def ref03_SameSpans (N : Nat) (x0 : (List (List Span))) (x1 : (List (List Span))) : Option Bool :=
 (bif ((x0.length : Int) != (x1.length : Int)) then some false else ((iter (ref03_SameSpans_L0 N x0 x1) N 0).bind fun o => o.k (fun r => some r) (fun s15 => some true)))
theorem co_ref03_SameSpans : CallOk Try.prog 52 := fun _ _ => by kernel_rfl
set_option maxHeartbeats 4000000 in
set_option maxRecDepth 100000 in
theorem c_ref03_SameSpans (N : Nat) (w0 : World) (F0 : Mem) (hF : ∀ b o, F0 b = some o → w0.heap[b]? = some o) (x0 : (List (List Span))) (a0_0 : Option Addr) (n0_0 : Nat) (hb0_0 : LC x0.length n0_0) (hs0_0 : SlA (tSl tSpan) F0 a0_0 x0) (x1 : (List (List Span))) (a1_0 : Option Addr) (n1_0 : Nat) (hb1_0 : LC x1.length n1_0) (hs1_0 : SlA (tSl tSpan) F0 a1_0 x1) (r : Bool) (h : ref03_SameSpans N x0 x1 = some r) :
  Calls Try.prog 52 ([(.slice a0_0 x0.length n0_0), (.slice a1_0 x1.length n1_0)] : List Value).toArray w0 (FRet w0 F0 fun F' v => v = (.bool r)) := by
 have hs0 := HS.start hF
 refine calls_of (n := 53) (c := bodyOf Try.f52) Try.func52 (by kernel_rfl) (by kernel_rfl) (by kernel_rfl) ?_
 refine Sq (Rg [0] ?_)
 refine V 4 4 (mc (.bool false) (.bool false)) ?_
 refine Nss ?_
 refine Sq (Rg [0, 1, 2, 3, 4] ?_)
 refine V 7 33 (mv 0 (.slice a0_0 x0.length n0_0)) ?_
 refine V 8 3 (ln 7 33 a0_0 x0.length n0_0 36 1 24) ?_
 refine V 9 33 (mv 1 (.slice a1_0 x1.length n1_0)) ?_
 refine V 10 3 (ln 9 33 a1_0 x1.length n1_0 36 1 24) ?_
 refine V 11 4 (run_neq (t := 3) (t' := 3) (x := (.tmp 8)) (y := (.tmp 10)) (k := .i64) (a := (x0.length : Int)) (b := (x1.length : Int)) rfl rfl) ?_
 refine Nt ?_
 refine CWP.cond (t := ((x0.length : Int) != (x1.length : Int))) (by kernel_rfl) rfl (fun hb1 => ?_) (fun hb1 => ?_)
 ·have h2 := cond_t h hb1
  refine Sq (Rg [0] ?_)
  refine V 4 4 (mc (.bool false) (.bool false)) ?_
  refine Nt ?_
  refine CWP.ret (by kernel_rfl) ?_
  refine thenQ_ret ?_
  have hfin := some_inj h2
  subst hfin
  exact ⟨rfl, (.bool false), res_of (l := [.tmp 4]) (by kernel_rfl) (vs := [(.bool false)]) ⟨rfl, trivial⟩, (.bool false), F0, rfl, hs0.clear, rfl⟩
 ·have h3 := cond_f h hb1
  refine Sc ?_
  refine thenQ_nrm ?_
  refine Sq ?_
  refine Sq (Rg [0] ?_)
  refine V 5 3 (mc (vi 0) (vi 0)) ?_
  refine Nt ?_
  obtain ⟨o4, ho5, h6⟩ := bind_some h3
  refine CWP.cut (fun f w => ∃ (s15 : Int) (F2 : Mem), o4 = .done s15 ∧ HS w0 F0 w F2 [] ∧ Mem.le F0 F2 ∧ f.d = []) ?_ ?_
  ·refine Bk ?_
   refine CWP.loop (by kernel_rfl) (fun m f w => ∃ (s7 : Int) (F1 : Mem), iter (ref03_SameSpans_L0 N x0 x1) m s7 = some o4 ∧ HS w0 F0 w F1 [] ∧ Mem.le F0 F1 ∧ f.d = [] ∧ f 0 = (.slice a0_0 x0.length n0_0) ∧ f 1 = (.slice a1_0 x1.length n1_0) ∧ f 5 = (vi s7)) N ⟨0, F0, ho5, hs0, (Mem.le.refl _), rfl, rfl, rfl, rfl⟩ ?_
   rintro m20 f w8 ⟨s7, F1, hit21, hs9, le10, e11, e12, e13, e14⟩
   obtain ⟨m22, fl23, rfl, hb24, hnx25⟩ := iter_step hit21
   refine Sq ?_
   refine Sq (Rg [0, 1, 2, 3] ?_)
   refine V 12 3 (mv 5 (vi s7) e14) ?_
   refine V 13 33 (mv 0 (.slice a0_0 x0.length n0_0) e12) ?_
   refine V 14 3 (ln 13 33 a0_0 x0.length n0_0 36 1 24) ?_
   refine V 15 4 (run_lss (t := 3) (t' := 3) (x := (.tmp 12)) (y := (.tmp 14)) (k := .i64) (a := s7) (b := (x0.length : Int)) rfl rfl) ?_
   refine Nt ?_
   refine CWP.cond (t := (decide (s7 < (x0.length : Int)))) (by kernel_rfl) rfl (fun hb26 => ?_) (fun hb26 => ?_)
   ·have h27 := cond_t hb24 hb26
    refine Sc ?_
    refine thenQ_nrm ?_
    refine Sq ?_
    refine Bk ?_
    refine Sq ?_
    refine Sq ?_
    obtain ⟨j33, hj39, h40⟩ := bind_some h27
    refine CWP.regionD (by kernel_rfl) (by kernel_rfl) (by kernel_rfl) (by kernel_rfl) (z := 11) (F := F1) (Lc := []) (Lz := []) (l := [false, false, false, false, false, false, false, false, false, false, false]) (fuel := 11) (by kernel_rfl) (by kernel_rfl) hs9 (by simp) (by simp) (fun f w => ∃ (F3 : Mem), HS w0 F0 w F3 [] ∧ Mem.le F1 F3 ∧ f.d = [] ∧ f 0 = (.slice a0_0 x0.length n0_0) ∧ f 1 = (.slice a1_0 x1.length n1_0) ∧ f 5 = (vi s7) ∧ f 28 = (.bool j33)) (fun wd28 hw29 => ?_) ?_
    ·refine Dt 0 18 33 _ (fun _ hq => mv 0 (.slice a0_0 x0.length n0_0) e12) ?_
     refine Dt 1 19 3 _ (fun _ hq => mv 5 (vi s7) e14) ?_
     obtain ⟨x41, hx42, h44⟩ := bind_some hj39
     obtain ⟨hi43, hx42'⟩ := idx_spec hx42
     obtain ⟨b45, o46, C47, E48, fz49, rfl, hF51, hE52⟩ := SlA.open (SlA.mono hs0_0 le10) hx42'
     obtain ⟨ae53_0, ne53_0, hc54, hbe53_0, hse53_0⟩ := hE52 _ _ hx42'
     refine Dt 2 20 0 (.pointer (some ⟨b45, (o46 + (s7 : Int).toNat * 1), none⟩)) (fun _ hq => ix 33 18 19 b45 o46 36 1 24 hi43) ?_
     refine Dt 3 21 36 _ (fun _ hq => lx 36 20 0 1 false 1 (.slice ae53_0 x41.length ne53_0) (hq.1.1 _ _ hF51) hc54) ?_
     refine Dt 4 22 3 (vi (x41.length : Int)) (fun _ hq => ln 21 36 ae53_0 x41.length ne53_0 38 2 16) ?_
     refine Dt 5 23 33 _ (fun _ hq => mv 1 (.slice a1_0 x1.length n1_0) e13) ?_
     refine Dt 6 24 3 _ (fun _ hq => mv 5 (vi s7) e14) ?_
     obtain ⟨x55, hx56, h58⟩ := bind_some h44
     obtain ⟨hi57, hx56'⟩ := idx_spec hx56
     obtain ⟨b59, o60, C61, E62, fz63, rfl, hF65, hE66⟩ := SlA.open (SlA.mono hs1_0 le10) hx56'
     obtain ⟨ae67_0, ne67_0, hc68, hbe67_0, hse67_0⟩ := hE66 _ _ hx56'
     refine Dt 7 25 0 (.pointer (some ⟨b59, (o60 + (s7 : Int).toNat * 1), none⟩)) (fun _ hq => ix 33 23 24 b59 o60 36 1 24 hi57) ?_
     refine Dt 8 26 36 _ (fun _ hq => lx 36 25 0 1 false 1 (.slice ae67_0 x55.length ne67_0) (hq.1.1 _ _ hF65) hc68) ?_
     refine Dt 9 27 3 (vi (x55.length : Int)) (fun _ hq => ln 26 36 ae67_0 x55.length ne67_0 38 2 16) ?_
     refine Dt 10 28 4 (.bool ((x41.length : Int) != (x55.length : Int))) (fun _ hq => run_neq (t := 3) (t' := 3) (x := (.tmp 22)) (y := (.tmp 27)) (k := .i64) (a := (x41.length : Int)) (b := (x55.length : Int)) rfl rfl) ?_
     obtain rfl := some_inj h58
     exact DWP.done (by kernel_rfl) ⟨F1, hw29, (Mem.le.refl _), e11, e12, e13, e14, rfl⟩
    ·rintro f w30 ⟨F3, hs31, le32, e34, e35, e36, e37, e38⟩
     refine thenQ_nrm ?_
     refine CWP.cond (t := j33) (by kernel_rfl) e38 (fun hb69 => ?_) (fun hb69 => ?_)
     ·have h70 := cond_t h40 hb69
      refine Sq (Rg [0] ?_)
      refine V 4 4 (mc (.bool false) (.bool false)) ?_
      refine Nt ?_
      refine CWP.ret (by kernel_rfl) ?_
      refine thenQ_ret ?_
      refine blockQ_ret ?_
      refine thenQ_ret ?_
      refine thenQ_ret ?_
      refine blockQ_ret ?_
      have hret := iter_ret h70 hnx25
      subst hret
      refine .inr ?_
      refine thenQ_ret ?_
      have hfin := some_inj h6
      subst hfin
      exact ⟨e34, (.bool false), res_of (l := [.tmp 4]) (by kernel_rfl) (vs := [(.bool false)]) ⟨rfl, trivial⟩, (.bool false), F3, rfl, hs31.clear, rfl⟩
     ·have h71 := cond_f h40 hb69
      refine Sc ?_
      refine thenQ_nrm ?_
      refine Sq (Rg [0] ?_)
      refine V 6 3 (mc (vi 0) (vi 0)) ?_
      refine Nt ?_
      obtain ⟨o72, ho73, h74⟩ := bind_some h71
      refine CWP.cut (fun f w => ∃ (s84 : Int) (F5 : Mem), o72 = .done s84 ∧ HS w0 F0 w F5 [] ∧ Mem.le F3 F5 ∧ f.d = [] ∧ f 0 = (.slice a0_0 x0.length n0_0) ∧ f 1 = (.slice a1_0 x1.length n1_0) ∧ f 5 = (vi s7)) ?_ ?_
      ·refine Bk ?_
       refine CWP.loop (by kernel_rfl) (fun m f w => ∃ (s75 : Int) (F4 : Mem), iter (ref03_SameSpans_L1 N x0 x1 s7 j33) m s75 = some o72 ∧ HS w0 F0 w F4 [] ∧ Mem.le F3 F4 ∧ f.d = [] ∧ f 0 = (.slice a0_0 x0.length n0_0) ∧ f 1 = (.slice a1_0 x1.length n1_0) ∧ f 5 = (vi s7) ∧ f 6 = (vi s75)) N ⟨0, F3, ho73, hs31, (Mem.le.refl _), e34, e35, e36, e37, rfl⟩ ?_
       rintro m92 f w76 ⟨s75, F4, hit93, hs77, le78, e79, e80, e81, e82, e83⟩
       obtain ⟨m94, fl95, rfl, hb96, hnx97⟩ := iter_step hit93
       refine Sq ?_
       refine Sq (Rg [0, 1, 2, 3, 4, 5, 6] ?_)
       refine V 29 3 (mv 6 (vi s75) e83) ?_
       refine V 30 33 (mv 0 (.slice a0_0 x0.length n0_0) e80) ?_
       refine V 31 3 (mv 5 (vi s7) e82) ?_
       obtain ⟨x98, hx99, h101⟩ := bind_some hb96
       obtain ⟨hi100, hx99'⟩ := idx_spec hx99
       obtain ⟨b102, o103, C104, E105, fz106, rfl, hF108, hE109⟩ := SlA.open (SlA.mono hs0_0 ((le10.trans le32).trans le78)) hx99'
       obtain ⟨ae110_0, ne110_0, hc111, hbe110_0, hse110_0⟩ := hE109 _ _ hx99'
       refine V 32 0 (ix 33 30 31 b102 o103 36 1 24 hi100) ?_
       refine V 33 36 (lx 36 32 0 1 false 1 (.slice ae110_0 x98.length ne110_0) (hs77.pers _ _ hF108) hc111) ?_
       refine V 34 3 (ln 33 36 ae110_0 x98.length ne110_0 38 2 16) ?_
       refine V 35 4 (run_lss (t := 3) (t' := 3) (x := (.tmp 29)) (y := (.tmp 34)) (k := .i64) (a := s75) (b := (x98.length : Int)) rfl rfl) ?_
       refine Nt ?_
       refine CWP.cond (t := (decide (s75 < (x98.length : Int)))) (by kernel_rfl) rfl (fun hb112 => ?_) (fun hb112 => ?_)
       ·have h113 := cond_t h101 hb112
        refine Sc ?_
        refine thenQ_nrm ?_
        refine Sq ?_
        refine Bk ?_
        refine Sq ?_
        obtain ⟨j119, hj126, h127⟩ := bind_some h113
        refine CWP.regionD (by kernel_rfl) (by kernel_rfl) (by kernel_rfl) (by kernel_rfl) (z := 15) (F := F4) (Lc := []) (Lz := []) (l := [false, false, false, false, false, false, false, false, false, false, false, false, false, false, false]) (fuel := 15) (by kernel_rfl) (by kernel_rfl) hs77 (by simp) (by simp) (fun f w => ∃ (F6 : Mem), HS w0 F0 w F6 [] ∧ Mem.le F4 F6 ∧ f.d = [] ∧ f 0 = (.slice (some ⟨b102, o103, none⟩) x0.length n0_0) ∧ f 1 = (.slice a1_0 x1.length n1_0) ∧ f 5 = (vi s7) ∧ f 6 = (vi s75) ∧ f 52 = (.bool j119)) (fun wd114 hw115 => ?_) ?_
        ·refine Dt 0 38 33 _ (fun _ hq => mv 0 (.slice (some ⟨b102, o103, none⟩) x0.length n0_0) e80) ?_
         refine Dt 1 39 3 _ (fun _ hq => mv 5 (vi s7) e82) ?_
         obtain ⟨x128, hx129, h131⟩ := bind_some hj126
         obtain ⟨hi130, hx129'⟩ := idx_spec hx129
         obtain ⟨ae132_0, ne132_0, hc133, hbe132_0, hse132_0⟩ := hE109 _ _ hx129'
         refine Dt 2 40 0 (.pointer (some ⟨b102, (o103 + (s7 : Int).toNat * 1), none⟩)) (fun _ hq => ix 33 38 39 b102 o103 36 1 24 hi130) ?_
         refine Dt 3 41 36 _ (fun _ hq => lx 36 40 0 1 false 1 (.slice ae132_0 x128.length ne132_0) (hq.1.1 _ _ hF108) hc133) ?_
         refine Dt 4 42 3 _ (fun _ hq => mv 6 (vi s75) e83) ?_
         obtain ⟨x134, hx135, h137⟩ := bind_some h131
         obtain ⟨hi136, hx135'⟩ := idx_spec hx135
         obtain ⟨b138, o139, C140, E141, fz142, rfl, hF144, hE145⟩ := SlA.open hse132_0 hx135'
         have hc147 := hE145 _ _ hx135'
         refine Dt 5 43 0 (.pointer (some ⟨b138, (o139 + (s75 : Int).toNat * 2), none⟩)) (fun _ hq => ix 36 41 42 b138 o139 38 2 16 hi136) ?_
         refine Dt 6 44 38 _ (fun _ hq => lx 38 43 0 2 true 2 (.agg (kSpan x134)) (hq.1.1 _ _ hF144) hc147) ?_
         refine Dt 7 45 33 _ (fun _ hq => mv 1 (.slice a1_0 x1.length n1_0) e81) ?_
         refine Dt 8 46 3 _ (fun _ hq => mv 5 (vi s7) e82) ?_
         obtain ⟨x148, hx149, h151⟩ := bind_some h137
         obtain ⟨hi150, hx149'⟩ := idx_spec hx149
         obtain ⟨b152, o153, C154, E155, fz156, rfl, hF158, hE159⟩ := SlA.open (SlA.mono hs1_0 ((le10.trans le32).trans le78)) hx149'
         obtain ⟨ae160_0, ne160_0, hc161, hbe160_0, hse160_0⟩ := hE159 _ _ hx149'
         refine Dt 9 47 0 (.pointer (some ⟨b152, (o153 + (s7 : Int).toNat * 1), none⟩)) (fun _ hq => ix 33 45 46 b152 o153 36 1 24 hi150) ?_
         refine Dt 10 48 36 _ (fun _ hq => lx 36 47 0 1 false 1 (.slice ae160_0 x148.length ne160_0) (hq.1.1 _ _ hF158) hc161) ?_
         refine Dt 11 49 3 _ (fun _ hq => mv 6 (vi s75) e83) ?_
         obtain ⟨x162, hx163, h165⟩ := bind_some h151
         obtain ⟨hi164, hx163'⟩ := idx_spec hx163
         obtain ⟨b166, o167, C168, E169, fz170, rfl, hF172, hE173⟩ := SlA.open hse160_0 hx163'
         have hc175 := hE173 _ _ hx163'
         refine Dt 12 50 0 (.pointer (some ⟨b166, (o167 + (s75 : Int).toNat * 2), none⟩)) (fun _ hq => ix 36 48 49 b166 o167 38 2 16 hi164) ?_
         refine Dt 13 51 38 _ (fun _ hq => lx 38 50 0 2 true 2 (.agg (kSpan x162)) (hq.1.1 _ _ hF172) hc175) ?_
         refine Dt 14 52 4 (.bool (!((x134.Lo == x162.Lo) && ((x134.Hi == x162.Hi) && true)))) (fun _ hq => run_nes (t := 38) (t' := 38) (x := (.tmp 44)) (y := (.tmp 51)) (xs := (kSpan x134)) (ys := (kSpan x162)) (b := ((x134.Lo == x162.Lo) && ((x134.Hi == x162.Hi) && true))) rfl rfl (by kernel_rfl) (by kernel_rfl)) ?_
         obtain rfl := some_inj h165
         exact DWP.done (by kernel_rfl) ⟨F4, hw115, (Mem.le.refl _), e79, e80, e81, e82, e83, rfl⟩
        ·rintro f w116 ⟨F6, hs117, le118, e120, e121, e122, e123, e124, e125⟩
         refine thenQ_nrm ?_
         refine CWP.cond (t := j119) (by kernel_rfl) e125 (fun hb176 => ?_) (fun hb176 => ?_)
         ·have h177 := cond_t h127 hb176
          refine Sq (Rg [0] ?_)
          refine V 4 4 (mc (.bool false) (.bool false)) ?_
          refine Nt ?_
          refine CWP.ret (by kernel_rfl) ?_
          refine blockQ_ret ?_
          refine thenQ_ret ?_
          refine thenQ_ret ?_
          refine blockQ_ret ?_
          have hret := iter_ret h177 hnx97
          subst hret
          refine .inr ?_
          refine blockQ_ret ?_
          refine thenQ_ret ?_
          refine thenQ_ret ?_
          refine blockQ_ret ?_
          have hret := iter_ret h74 hnx25
          subst hret
          refine .inr ?_
          refine thenQ_ret ?_
          have hfin := some_inj h6
          subst hfin
          exact ⟨e120, (.bool false), res_of (l := [.tmp 4]) (by kernel_rfl) (vs := [(.bool false)]) ⟨rfl, trivial⟩, (.bool false), F6, rfl, hs117.clear, rfl⟩
         ·have h178 := cond_f h127 hb176
          refine Sc ?_
          refine blockQ_nrm ?_
          refine thenQ_nrm ?_
          refine Rg [0, 1, 2] ?_
          refine V 36 3 (mv 6 (vi s75) e124) ?_
          refine V 37 3 (run_add (t := 3) (t' := 3) (x := (.tmp 36)) (y := (.const (vi 1))) (k := .i64) (a := s75) (b := 1) rfl rfl) ?_
          refine V 6 3 (ma 37 (vi (W64 (s75 + 1)))) ?_
          refine RWP.nil ?_
          have hn179 := iter_next h178 hnx97
          exact ⟨m94, Nat.lt_succ_self _, (W64 (s75 + 1)), F6, hn179, hs117, (le78.trans le118), e120, e121, e122, e123, rfl⟩
       ·have h180 := cond_f h101 hb112
        refine CWP.exit (by kernel_rfl) ?_
        refine thenQ_ex ?_
        refine thenQ_ex ?_
        refine blockQ_hit rfl ?_
        have ho181 := iter_done h180 hnx97
        exact .inl ⟨rfl, s75, F4, ho181, hs77, le78, e79, e80, e81, e82⟩
      ·rintro f w85 ⟨s84, F5, rfl, hs86, le87, e88, e89, e90, e91⟩
       have h182 := k_done h74
       refine blockQ_nrm ?_
       refine thenQ_nrm ?_
       refine Rg [0, 1, 2] ?_
       refine V 16 3 (mv 5 (vi s7) e91) ?_
       refine V 17 3 (run_add (t := 3) (t' := 3) (x := (.tmp 16)) (y := (.const (vi 1))) (k := .i64) (a := s7) (b := 1) rfl rfl) ?_
       refine V 5 3 (ma 17 (vi (W64 (s7 + 1)))) ?_
       refine RWP.nil ?_
       have hn183 := iter_next h182 hnx25
       exact ⟨m22, Nat.lt_succ_self _, (W64 (s7 + 1)), F5, hn183, hs86, ((le10.trans le32).trans le87), e88, e89, e90, rfl⟩
   ·have h184 := cond_f hb24 hb26
    refine CWP.exit (by kernel_rfl) ?_
    refine thenQ_ex ?_
    refine thenQ_ex ?_
    refine blockQ_hit rfl ?_
    have ho185 := iter_done h184 hnx25
    exact .inl ⟨rfl, s7, F1, ho185, hs9, le10, e11⟩
  ·rintro f w16 ⟨s15, F2, rfl, hs17, le18, e19⟩
   have h186 := k_done h6
   refine thenQ_nrm ?_
   refine Sq (Rg [0] ?_)
   refine V 4 4 (mc (.bool true) (.bool true)) ?_
   refine Nt ?_
   refine CWP.ret (by kernel_rfl) ?_
   have hfin := some_inj h186
   subst hfin
   exact ⟨e19, (.bool true), res_of (l := [.tmp 4]) (by kernel_rfl) (vs := [(.bool true)]) ⟨rfl, trivial⟩, (.bool true), F2, rfl, hs17.clear, rfl⟩
end Go.Proofs.Ythbcnabeabcmlaa
namespace Go.Proofs.Ythbcnabeabcmlaa
open Go.Proofs
def ref03_SameTimes_L1 (N : Nat) (x0 : (List (List Int))) (x1 : (List (List Int))) (s7 : Int) (j33 : (Bool)) : Int → Option (Flow Bool Int) := fun s75 =>
 ((idx x0 s7).bind fun x98 => (bif (decide (s75 < (x98.length : Int))) then (((idx x0 s7).bind fun x128 => ((idx x128 s75).bind fun x134 => ((idx x1 s7).bind fun x148 => ((idx x148 s75).bind fun x162 => some (x134 != x162))))).bind fun j119 => (bif j119 then some (.ret false) else some (.next (W64 (s75 + 1))))) else some (.done s75)))
def ref03_SameTimes_L0 (N : Nat) (x0 : (List (List Int))) (x1 : (List (List Int))) : Int → Option (Flow Bool Int) := fun s7 =>
 (bif (decide (s7 < (x0.length : Int))) then (((idx x0 s7).bind fun x41 => ((idx x1 s7).bind fun x55 => some ((x41.length : Int) != (x55.length : Int)))).bind fun j33 => (bif j33 then some (.ret false) else ((iter (ref03_SameTimes_L1 N x0 x1 s7 j33) N 0).bind fun o => o.k (fun r => some (.ret r)) (fun s84 => some (.next (W64 (s7 + 1))))))) else some (.done s7))
def ref03_SameTimes (N : Nat) (x0 : (List (List Int))) (x1 : (List (List Int))) : Option Bool :=
 (bif ((x0.length : Int) != (x1.length : Int)) then some false else ((iter (ref03_SameTimes_L0 N x0 x1) N 0).bind fun o => o.k (fun r => some r) (fun s15 => some true)))
theorem co_ref03_SameTimes : CallOk Try.prog 53 := fun _ _ => by kernel_rfl
set_option maxHeartbeats 4000000 in
set_option maxRecDepth 100000 in
theorem c_ref03_SameTimes (N : Nat) (w0 : World) (F0 : Mem) (hF : ∀ b o, F0 b = some o → w0.heap[b]? = some o) (x0 : (List (List Int))) (a0_0 : Option Addr) (n0_0 : Nat) (hb0_0 : LC x0.length n0_0) (hs0_0 : SlA (tSl tInt) F0 a0_0 x0) (x1 : (List (List Int))) (a1_0 : Option Addr) (n1_0 : Nat) (hb1_0 : LC x1.length n1_0) (hs1_0 : SlA (tSl tInt) F0 a1_0 x1) (r : Bool) (h : ref03_SameTimes N x0 x1 = some r) :
  Calls Try.prog 53 ([(.slice a0_0 x0.length n0_0), (.slice a1_0 x1.length n1_0)] : List Value).toArray w0 (FRet w0 F0 fun F' v => v = (.bool r)) := by
 have hs0 := HS.start hF
 refine calls_of (n := 53) (c := bodyOf Try.f53) Try.func53 (by kernel_rfl) (by kernel_rfl) (by kernel_rfl) ?_
 refine Sq (Rg [0] ?_)
 refine V 4 4 (mc (.bool false) (.bool false)) ?_
 refine Nss ?_
 refine Sq (Rg [0, 1, 2, 3, 4] ?_)
 refine V 7 71 (mv 0 (.slice a0_0 x0.length n0_0)) ?_
 refine V 8 3 (ln 7 71 a0_0 x0.length n0_0 50 1 24) ?_
 refine V 9 71 (mv 1 (.slice a1_0 x1.length n1_0)) ?_
 refine V 10 3 (ln 9 71 a1_0 x1.length n1_0 50 1 24) ?_
 refine V 11 4 (run_neq (t := 3) (t' := 3) (x := (.tmp 8)) (y := (.tmp 10)) (k := .i64) (a := (x0.length : Int)) (b := (x1.length : Int)) rfl rfl) ?_
 refine Nt ?_
 refine CWP.cond (t := ((x0.length : Int) != (x1.length : Int))) (by kernel_rfl) rfl (fun hb1 => ?_) (fun hb1 => ?_)
 ·have h2 := cond_t h hb1
  refine Sq (Rg [0] ?_)
  refine V 4 4 (mc (.bool false) (.bool false)) ?_
  refine Nt ?_
  refine CWP.ret (by kernel_rfl) ?_
  refine thenQ_ret ?_
  have hfin := some_inj h2
  subst hfin
  exact ⟨rfl, (.bool false), res_of (l := [.tmp 4]) (by kernel_rfl) (vs := [(.bool false)]) ⟨rfl, trivial⟩, (.bool false), F0, rfl, hs0.clear, rfl⟩
 ·have h3 := cond_f h hb1
  refine Sc ?_
  refine thenQ_nrm ?_
  refine Sq ?_
  refine Sq (Rg [0] ?_)
  refine V 5 3 (mc (vi 0) (vi 0)) ?_
  refine Nt ?_
  obtain ⟨o4, ho5, h6⟩ := bind_some h3
  refine CWP.cut (fun f w => ∃ (s15 : Int) (F2 : Mem), o4 = .done s15 ∧ HS w0 F0 w F2 [] ∧ Mem.le F0 F2 ∧ f.d = []) ?_ ?_
  ·refine Bk ?_
   refine CWP.loop (by kernel_rfl) (fun m f w => ∃ (s7 : Int) (F1 : Mem), iter (ref03_SameTimes_L0 N x0 x1) m s7 = some o4 ∧ HS w0 F0 w F1 [] ∧ Mem.le F0 F1 ∧ f.d = [] ∧ f 0 = (.slice a0_0 x0.length n0_0) ∧ f 1 = (.slice a1_0 x1.length n1_0) ∧ f 5 = (vi s7)) N ⟨0, F0, ho5, hs0, (Mem.le.refl _), rfl, rfl, rfl, rfl⟩ ?_
   rintro m20 f w8 ⟨s7, F1, hit21, hs9, le10, e11, e12, e13, e14⟩
   obtain ⟨m22, fl23, rfl, hb24, hnx25⟩ := iter_step hit21
   refine Sq ?_
   refine Sq (Rg [0, 1, 2, 3] ?_)
   refine V 12 3 (mv 5 (vi s7) e14) ?_
   refine V 13 71 (mv 0 (.slice a0_0 x0.length n0_0) e12) ?_
   refine V 14 3 (ln 13 71 a0_0 x0.length n0_0 50 1 24) ?_
   refine V 15 4 (run_lss (t := 3) (t' := 3) (x := (.tmp 12)) (y := (.tmp 14)) (k := .i64) (a := s7) (b := (x0.length : Int)) rfl rfl) ?_
   refine Nt ?_
   refine CWP.cond (t := (decide (s7 < (x0.length : Int)))) (by kernel_rfl) rfl (fun hb26 => ?_) (fun hb26 => ?_)
   ·have h27 := cond_t hb24 hb26
    refine Sc ?_
    refine thenQ_nrm ?_
    refine Sq ?_
    refine Bk ?_
    refine Sq ?_
    refine Sq ?_
    obtain ⟨j33, hj39, h40⟩ := bind_some h27
    refine CWP.regionD (by kernel_rfl) (by kernel_rfl) (by kernel_rfl) (by kernel_rfl) (z := 11) (F := F1) (Lc := []) (Lz := []) (l := [false, false, false, false, false, false, false, false, false, false, false]) (fuel := 11) (by kernel_rfl) (by kernel_rfl) hs9 (by simp) (by simp) (fun f w => ∃ (F3 : Mem), HS w0 F0 w F3 [] ∧ Mem.le F1 F3 ∧ f.d = [] ∧ f 0 = (.slice a0_0 x0.length n0_0) ∧ f 1 = (.slice a1_0 x1.length n1_0) ∧ f 5 = (vi s7) ∧ f 28 = (.bool j33)) (fun wd28 hw29 => ?_) ?_
    ·refine Dt 0 18 71 _ (fun _ hq => mv 0 (.slice a0_0 x0.length n0_0) e12) ?_
     refine Dt 1 19 3 _ (fun _ hq => mv 5 (vi s7) e14) ?_
     obtain ⟨x41, hx42, h44⟩ := bind_some hj39
     obtain ⟨hi43, hx42'⟩ := idx_spec hx42
     obtain ⟨b45, o46, C47, E48, fz49, rfl, hF51, hE52⟩ := SlA.open (SlA.mono hs0_0 le10) hx42'
     obtain ⟨ae53_0, ne53_0, hc54, hbe53_0, hse53_0⟩ := hE52 _ _ hx42'
     refine Dt 2 20 0 (.pointer (some ⟨b45, (o46 + (s7 : Int).toNat * 1), none⟩)) (fun _ hq => ix 71 18 19 b45 o46 50 1 24 hi43) ?_
     refine Dt 3 21 50 _ (fun _ hq => lx 50 20 0 1 false 1 (.slice ae53_0 x41.length ne53_0) (hq.1.1 _ _ hF51) hc54) ?_
     refine Dt 4 22 3 (vi (x41.length : Int)) (fun _ hq => ln 21 50 ae53_0 x41.length ne53_0 3 1 8) ?_
     refine Dt 5 23 71 _ (fun _ hq => mv 1 (.slice a1_0 x1.length n1_0) e13) ?_
     refine Dt 6 24 3 _ (fun _ hq => mv 5 (vi s7) e14) ?_
     obtain ⟨x55, hx56, h58⟩ := bind_some h44
     obtain ⟨hi57, hx56'⟩ := idx_spec hx56
     obtain ⟨b59, o60, C61, E62, fz63, rfl, hF65, hE66⟩ := SlA.open (SlA.mono hs1_0 le10) hx56'
     obtain ⟨ae67_0, ne67_0, hc68, hbe67_0, hse67_0⟩ := hE66 _ _ hx56'
     refine Dt 7 25 0 (.pointer (some ⟨b59, (o60 + (s7 : Int).toNat * 1), none⟩)) (fun _ hq => ix 71 23 24 b59 o60 50 1 24 hi57) ?_
     refine Dt 8 26 50 _ (fun _ hq => lx 50 25 0 1 false 1 (.slice ae67_0 x55.length ne67_0) (hq.1.1 _ _ hF65) hc68) ?_
     refine Dt 9 27 3 (vi (x55.length : Int)) (fun _ hq => ln 26 50 ae67_0 x55.length ne67_0 3 1 8) ?_
     refine Dt 10 28 4 (.bool ((x41.length : Int) != (x55.length : Int))) (fun _ hq => run_neq (t := 3) (t' := 3) (x := (.tmp 22)) (y := (.tmp 27)) (k := .i64) (a := (x41.length : Int)) (b := (x55.length : Int)) rfl rfl) ?_
     obtain rfl := some_inj h58
     exact DWP.done (by kernel_rfl) ⟨F1, hw29, (Mem.le.refl _), e11, e12, e13, e14, rfl⟩
    ·rintro f w30 ⟨F3, hs31, le32, e34, e35, e36, e37, e38⟩
     refine thenQ_nrm ?_
     refine CWP.cond (t := j33) (by kernel_rfl) e38 (fun hb69 => ?_) (fun hb69 => ?_)
     ·have h70 := cond_t h40 hb69
      refine Sq (Rg [0] ?_)
      refine V 4 4 (mc (.bool false) (.bool false)) ?_
      refine Nt ?_
      refine CWP.ret (by kernel_rfl) ?_
      refine thenQ_ret ?_
      refine blockQ_ret ?_
      refine thenQ_ret ?_
      refine thenQ_ret ?_
      refine blockQ_ret ?_
      have hret := iter_ret h70 hnx25
      subst hret
      refine .inr ?_
      refine thenQ_ret ?_
      have hfin := some_inj h6
      subst hfin
      exact ⟨e34, (.bool false), res_of (l := [.tmp 4]) (by kernel_rfl) (vs := [(.bool false)]) ⟨rfl, trivial⟩, (.bool false), F3, rfl, hs31.clear, rfl⟩
     ·have h71 := cond_f h40 hb69
      refine Sc ?_
      refine thenQ_nrm ?_
      refine Sq (Rg [0] ?_)
      refine V 6 3 (mc (vi 0) (vi 0)) ?_
      refine Nt ?_
      obtain ⟨o72, ho73, h74⟩ := bind_some h71
      refine CWP.cut (fun f w => ∃ (s84 : Int) (F5 : Mem), o72 = .done s84 ∧ HS w0 F0 w F5 [] ∧ Mem.le F3 F5 ∧ f.d = [] ∧ f 0 = (.slice a0_0 x0.length n0_0) ∧ f 1 = (.slice a1_0 x1.length n1_0) ∧ f 5 = (vi s7)) ?_ ?_
      ·refine Bk ?_
       refine CWP.loop (by kernel_rfl) (fun m f w => ∃ (s75 : Int) (F4 : Mem), iter (ref03_SameTimes_L1 N x0 x1 s7 j33) m s75 = some o72 ∧ HS w0 F0 w F4 [] ∧ Mem.le F3 F4 ∧ f.d = [] ∧ f 0 = (.slice a0_0 x0.length n0_0) ∧ f 1 = (.slice a1_0 x1.length n1_0) ∧ f 5 = (vi s7) ∧ f 6 = (vi s75)) N ⟨0, F3, ho73, hs31, (Mem.le.refl _), e34, e35, e36, e37, rfl⟩ ?_
       rintro m92 f w76 ⟨s75, F4, hit93, hs77, le78, e79, e80, e81, e82, e83⟩
       obtain ⟨m94, fl95, rfl, hb96, hnx97⟩ := iter_step hit93
       refine Sq ?_
       refine Sq (Rg [0, 1, 2, 3, 4, 5, 6] ?_)
       refine V 29 3 (mv 6 (vi s75) e83) ?_
       refine V 30 71 (mv 0 (.slice a0_0 x0.length n0_0) e80) ?_
       refine V 31 3 (mv 5 (vi s7) e82) ?_
       obtain ⟨x98, hx99, h101⟩ := bind_some hb96
       obtain ⟨hi100, hx99'⟩ := idx_spec hx99
       obtain ⟨b102, o103, C104, E105, fz106, rfl, hF108, hE109⟩ := SlA.open (SlA.mono hs0_0 ((le10.trans le32).trans le78)) hx99'
       obtain ⟨ae110_0, ne110_0, hc111, hbe110_0, hse110_0⟩ := hE109 _ _ hx99'
       refine V 32 0 (ix 71 30 31 b102 o103 50 1 24 hi100) ?_
       refine V 33 50 (lx 50 32 0 1 false 1 (.slice ae110_0 x98.length ne110_0) (hs77.pers _ _ hF108) hc111) ?_
       refine V 34 3 (ln 33 50 ae110_0 x98.length ne110_0 3 1 8) ?_
       refine V 35 4 (run_lss (t := 3) (t' := 3) (x := (.tmp 29)) (y := (.tmp 34)) (k := .i64) (a := s75) (b := (x98.length : Int)) rfl rfl) ?_
       refine Nt ?_
       refine CWP.cond (t := (decide (s75 < (x98.length : Int)))) (by kernel_rfl) rfl (fun hb112 => ?_) (fun hb112 => ?_)
       ·have h113 := cond_t h101 hb112
        refine Sc ?_
        refine thenQ_nrm ?_
        refine Sq ?_
        refine Bk ?_
        refine Sq ?_
        obtain ⟨j119, hj126, h127⟩ := bind_some h113
        refine CWP.regionD (by kernel_rfl) (by kernel_rfl) (by kernel_rfl) (by kernel_rfl) (z := 15) (F := F4) (Lc := []) (Lz := []) (l := [false, false, false, false, false, false, false, false, false, false, false, false, false, false, false]) (fuel := 15) (by kernel_rfl) (by kernel_rfl) hs77 (by simp) (by simp) (fun f w => ∃ (F6 : Mem), HS w0 F0 w F6 [] ∧ Mem.le F4 F6 ∧ f.d = [] ∧ f 0 = (.slice (some ⟨b102, o103, none⟩) x0.length n0_0) ∧ f 1 = (.slice a1_0 x1.length n1_0) ∧ f 5 = (vi s7) ∧ f 6 = (vi s75) ∧ f 52 = (.bool j119)) (fun wd114 hw115 => ?_) ?_
        ·refine Dt 0 38 71 _ (fun _ hq => mv 0 (.slice (some ⟨b102, o103, none⟩) x0.length n0_0) e80) ?_
         refine Dt 1 39 3 _ (fun _ hq => mv 5 (vi s7) e82) ?_
         obtain ⟨x128, hx129, h131⟩ := bind_some hj126
         obtain ⟨hi130, hx129'⟩ := idx_spec hx129
         obtain ⟨ae132_0, ne132_0, hc133, hbe132_0, hse132_0⟩ := hE109 _ _ hx129'
         refine Dt 2 40 0 (.pointer (some ⟨b102, (o103 + (s7 : Int).toNat * 1), none⟩)) (fun _ hq => ix 71 38 39 b102 o103 50 1 24 hi130) ?_
         refine Dt 3 41 50 _ (fun _ hq => lx 50 40 0 1 false 1 (.slice ae132_0 x128.length ne132_0) (hq.1.1 _ _ hF108) hc133) ?_
         refine Dt 4 42 3 _ (fun _ hq => mv 6 (vi s75) e83) ?_
         obtain ⟨x134, hx135, h137⟩ := bind_some h131
         obtain ⟨hi136, hx135'⟩ := idx_spec hx135
         obtain ⟨b138, o139, C140, E141, fz142, rfl, hF144, hE145⟩ := SlA.open hse132_0 hx135'
         have hc147 := hE145 _ _ hx135'
         refine Dt 5 43 0 (.pointer (some ⟨b138, (o139 + (s75 : Int).toNat * 1), none⟩)) (fun _ hq => ix 50 41 42 b138 o139 3 1 8 hi136) ?_
         refine Dt 6 44 3 _ (fun _ hq => lx 3 43 0 1 false 1 (vi x134) (hq.1.1 _ _ hF144) hc147) ?_
         refine Dt 7 45 71 _ (fun _ hq => mv 1 (.slice a1_0 x1.length n1_0) e81) ?_
         refine Dt 8 46 3 _ (fun _ hq => mv 5 (vi s7) e82) ?_
         obtain ⟨x148, hx149, h151⟩ := bind_some h137
         obtain ⟨hi150, hx149'⟩ := idx_spec hx149
         obtain ⟨b152, o153, C154, E155, fz156, rfl, hF158, hE159⟩ := SlA.open (SlA.mono hs1_0 ((le10.trans le32).trans le78)) hx149'
         obtain ⟨ae160_0, ne160_0, hc161, hbe160_0, hse160_0⟩ := hE159 _ _ hx149'
         refine Dt 9 47 0 (.pointer (some ⟨b152, (o153 + (s7 : Int).toNat * 1), none⟩)) (fun _ hq => ix 71 45 46 b152 o153 50 1 24 hi150) ?_
         refine Dt 10 48 50 _ (fun _ hq => lx 50 47 0 1 false 1 (.slice ae160_0 x148.length ne160_0) (hq.1.1 _ _ hF158) hc161) ?_
         refine Dt 11 49 3 _ (fun _ hq => mv 6 (vi s75) e83) ?_
         obtain ⟨x162, hx163, h165⟩ := bind_some h151
         obtain ⟨hi164, hx163'⟩ := idx_spec hx163
         obtain ⟨b166, o167, C168, E169, fz170, rfl, hF172, hE173⟩ := SlA.open hse160_0 hx163'
         have hc175 := hE173 _ _ hx163'
         refine Dt 12 50 0 (.pointer (some ⟨b166, (o167 + (s75 : Int).toNat * 1), none⟩)) (fun _ hq => ix 50 48 49 b166 o167 3 1 8 hi164) ?_
         refine Dt 13 51 3 _ (fun _ hq => lx 3 50 0 1 false 1 (vi x162) (hq.1.1 _ _ hF172) hc175) ?_
         refine Dt 14 52 4 (.bool (x134 != x162)) (fun _ hq => run_neq (t := 3) (t' := 3) (x := (.tmp 44)) (y := (.tmp 51)) (k := .i64) (a := x134) (b := x162) rfl rfl) ?_
         obtain rfl := some_inj h165
         exact DWP.done (by kernel_rfl) ⟨F4, hw115, (Mem.le.refl _), e79, e80, e81, e82, e83, rfl⟩
        ·rintro f w116 ⟨F6, hs117, le118, e120, e121, e122, e123, e124, e125⟩
         refine thenQ_nrm ?_
         refine CWP.cond (t := j119) (by kernel_rfl) e125 (fun hb176 => ?_) (fun hb176 => ?_)
         ·have h177 := cond_t h127 hb176
          refine Sq (Rg [0] ?_)
          refine V 4 4 (mc (.bool false) (.bool false)) ?_
          refine Nt ?_
          refine CWP.ret (by kernel_rfl) ?_
          refine blockQ_ret ?_
          refine thenQ_ret ?_
          refine thenQ_ret ?_
          refine blockQ_ret ?_
          have hret := iter_ret h177 hnx97
          subst hret
          refine .inr ?_
          refine blockQ_ret ?_
          refine thenQ_ret ?_
          refine thenQ_ret ?_
          refine blockQ_ret ?_
          have hret := iter_ret h74 hnx25
          subst hret
          refine .inr ?_
          refine thenQ_ret ?_
          have hfin := some_inj h6
          subst hfin
          exact ⟨e120, (.bool false), res_of (l := [.tmp 4]) (by kernel_rfl) (vs := [(.bool false)]) ⟨rfl, trivial⟩, (.bool false), F6, rfl, hs117.clear, rfl⟩
         ·have h178 := cond_f h127 hb176
          refine Sc ?_
          refine blockQ_nrm ?_
          refine thenQ_nrm ?_
          refine Rg [0, 1, 2] ?_
          refine V 36 3 (mv 6 (vi s75) e124) ?_
          refine V 37 3 (run_add (t := 3) (t' := 3) (x := (.tmp 36)) (y := (.const (vi 1))) (k := .i64) (a := s75) (b := 1) rfl rfl) ?_
          refine V 6 3 (ma 37 (vi (W64 (s75 + 1)))) ?_
          refine RWP.nil ?_
          have hn179 := iter_next h178 hnx97
          exact ⟨m94, Nat.lt_succ_self _, (W64 (s75 + 1)), F6, hn179, hs117, (le78.trans le118), e120, e121, e122, e123, rfl⟩
       ·have h180 := cond_f h101 hb112
        refine CWP.exit (by kernel_rfl) ?_
        refine thenQ_ex ?_
        refine thenQ_ex ?_
        refine blockQ_hit rfl ?_
        have ho181 := iter_done h180 hnx97
        exact .inl ⟨rfl, s75, F4, ho181, hs77, le78, e79, e80, e81, e82⟩
      ·rintro f w85 ⟨s84, F5, rfl, hs86, le87, e88, e89, e90, e91⟩
       have h182 := k_done h74
       refine blockQ_nrm ?_
       refine thenQ_nrm ?_
       refine Rg [0, 1, 2] ?_
       refine V 16 3 (mv 5 (vi s7) e91) ?_
       refine V 17 3 (run_add (t := 3) (t' := 3) (x := (.tmp 16)) (y := (.const (vi 1))) (k := .i64) (a := s7) (b := 1) rfl rfl) ?_
       refine V 5 3 (ma 17 (vi (W64 (s7 + 1)))) ?_
       refine RWP.nil ?_
       have hn183 := iter_next h182 hnx25
       exact ⟨m22, Nat.lt_succ_self _, (W64 (s7 + 1)), F5, hn183, hs86, ((le10.trans le32).trans le87), e88, e89, e90, rfl⟩
   ·have h184 := cond_f hb24 hb26
    refine CWP.exit (by kernel_rfl) ?_
    refine thenQ_ex ?_
    refine thenQ_ex ?_
    refine blockQ_hit rfl ?_
    have ho185 := iter_done h184 hnx25
    exact .inl ⟨rfl, s7, F1, ho185, hs9, le10, e11⟩
  ·rintro f w16 ⟨s15, F2, rfl, hs17, le18, e19⟩
   have h186 := k_done h6
   refine thenQ_nrm ?_
   refine Sq (Rg [0] ?_)
   refine V 4 4 (mc (.bool true) (.bool true)) ?_
   refine Nt ?_
   refine CWP.ret (by kernel_rfl) ?_
   have hfin := some_inj h186
   subst hfin
   exact ⟨e19, (.bool true), res_of (l := [.tmp 4]) (by kernel_rfl) (vs := [(.bool true)]) ⟨rfl, trivial⟩, (.bool true), F2, rfl, hs17.clear, rfl⟩
end Go.Proofs.Ythbcnabeabcmlaa
namespace Go.Proofs.Ythbcnabeabcmlaa
open BF
section
variable {N : Nat} {s : System}
abbrev IT (s : System) (k : Nat) (pre suf : List Bound) (at_ : List Int) (b : Ref → Option Bound) (ts rd : Ref → Nat) (now : Nat) : Prop :=
 Inv Bound.To Bound.From Bound.Most beg (bnds s) k pre suf (stR s at_ b) ts rd now
def FinT (s : System) (at_ : List Int) : Prop := at_.length = nAll s ∧ (∃ k pre b ts rd now, IT s k pre [] at_ b ts rd now ∧ ∀ e, e ∈ bnds s → Closed Bound.To Bound.From Bound.Most (stR s at_ b) e)
theorem back_inner (h : vCheck s = 0) (hN : 1000000 ≤ N) {p : List Int} {u : Int × List Int} {k T : Nat} (hT : T ≤ 10000000000) {at0 : List Int} (hal : at0.length = nAll s)
    (hI : ∃ b ts rd now, IT s k [] (bnds s) at0 b ts rd now) (hB : AtL at0 T) :
    ∃ o, iter (ref03_backward_L2 N s (spotS s) (bnds s) p u (true, at0)) N (false, 0, at0) = some o ∧
      ((∃ at_, o = .done (false, ((bnds s).length : Int), at_) ∧ FinT s at_) ∨
       (∃ at_, o = .done (true, ((bnds s).length : Int), at_) ∧ at_.length = nAll s ∧ AtL at_ (T + (bnds s).length) ∧
         ∃ pre b ts rd now, IT s k pre [] at_ b ts rd now ∧ (∀ e, e ∈ bnds s → e ∈ pre) ∧ ∃ z, rd z = k + 1)) := by
  have hM := bnd_most h
  have hlen := bnds_len' h
  refine iter_ex (body := ref03_backward_L2 N s (spotS s) (bnds s) p u (true, at0)) (bnds s).length
    (fun i r => r.2.1 = (i : Int) ∧ r.2.2.length = nAll s ∧ AtL r.2.2 (T + i) ∧ ∃ pre b ts rd now, IT s k pre ((bnds s).drop i) r.2.2 b ts rd now ∧ (∀ e, e ∈ (bnds s).take i → e ∈ pre) ∧
      ((r.1 = false ∧ ∀ e, e ∈ pre → Closed Bound.To Bound.From Bound.Most (stR s r.2.2 b) e) ∨ (r.1 = true ∧ ∃ z, rd z = k + 1))) _ ?_ (bnds s).length N 0 (false, 0, at0) (by omega) ?_ (by omega)
  · rintro i ⟨hot, j, at_⟩ hi ⟨hj, hal, hAt, pre, b, ts, rd, now, hInv, hpre, hcase⟩
    simp only at hj hal hAt hInv hcase
    subst hj
    unfold ref03_backward_L2
    simp only
    by_cases hlt : i < (bnds s).length
    · left
      have hmem : (bnds s)[i] ∈ bnds s := List.getElem_mem hlt
      obtain ⟨hTo, hF⟩ := bnd_ends h hmem
      have hd : (bnds s).drop i = (bnds s)[i] :: (bnds s).drop (i + 1) := List.drop_eq_getElem_cons hlt
      rw [hd] at hInv
      have htake : ∀ e, e ∈ (bnds s).take (i + 1) → e ∈ (bnds s)[i] :: pre := by
        intro e he
        rw [List.take_succ_eq_append_getElem hlt, List.mem_append, List.mem_singleton] at he
        rcases he with he | rfl
        · exact List.mem_cons_of_mem _ (hpre e he)
        · exact List.mem_cons_self ..
      have la : num s (bnds s)[i].To < at_.length := by rw [hal]; exact num_lt hF
      have lb : num s (bnds s)[i].From < at_.length := by rw [hal]; exact num_lt hTo
      rw [lt_t hlt, cond_true]
      simp only [idx_nat hlt, Option.bind_some, of_eq h hF, of_eq h hTo, idx_nat la, idx_nat lb]
      have a1 := stR_at (by_ := b) hF hal (List.getElem?_eq_getElem la)
      have a2 := stR_at (by_ := b) hTo hal (List.getElem?_eq_getElem lb)
      have hb := hM _ hmem
      have cold : BF.hot Bound.To Bound.From Bound.Most (stR s at_ b) (bnds s)[i] = false → ∃ pre' b' ts rd now, IT s k pre' ((bnds s).drop (i + 1)) at_ b' ts rd now ∧ (∀ e, e ∈ (bnds s).take (i + 1) → e ∈ pre') ∧
          ((hot = false ∧ ∀ e, e ∈ pre' → Closed Bound.To Bound.From Bound.Most (stR s at_ b') e) ∨ (hot = true ∧ ∃ z, rd z = k + 1)) := by
        intro hc
        refine ⟨(bnds s)[i] :: pre, b, ts, rd, now, hInv.cold hc, htake, ?_⟩
        rcases hcase with ⟨h0, hcl⟩ | h0
        · refine .inl ⟨h0, fun e he => ?_⟩
          rcases List.mem_cons.1 he with rfl | he
          · exact closed_of_cold hc
          · exact hcl e he
        · exact .inr h0
      by_cases hfa : at_[num s (bnds s)[i].To] < 1125899906842624
      · rw [if_pos hfa] at a1
        have hnb := hAt _ _ (List.getElem?_eq_getElem la) hfa
        have hw : W64 (at_[num s (bnds s)[i].To] + (bnds s)[i].Most) = at_[num s (bnds s)[i].To] + (bnds s)[i].Most := W64_id (by omega) (by omega)
        have e1 : decide (at_[num s (bnds s)[i].To] < 1125899906842624) = true := by simpa using hfa
        rw [e1, cond_true, hw]
        by_cases hup : at_[num s (bnds s)[i].To] + (bnds s)[i].Most < at_[num s (bnds s)[i].From]
        · have e2 : decide (at_[num s (bnds s)[i].To] + (bnds s)[i].Most < at_[num s (bnds s)[i].From]) = true := by simpa using hup
          rw [e2]
          simp only [Option.bind_some, cond_true, Int.toNat_natCast]
          rw [W64_succ (by omega)]
          have hhot : BF.hot Bound.To Bound.From Bound.Most (stR s at_ b) (bnds s)[i] = true := by
            unfold BF.hot
            rw [a1]
            simp only
            rw [a2]
            by_cases hfb : at_[num s (bnds s)[i].From] < 1125899906842624
            · rw [if_pos hfb]; simpa using hup
            · rw [if_neg hfb]
          have hnew := hInv.hot hhot
          have hput : BF.put Bound.To Bound.From Bound.Most (stR s at_ b) (bnds s)[i] = stR s (at_.set (num s (bnds s)[i].From) (at_[num s (bnds s)[i].To] + (bnds s)[i].Most)) (fun x => if x = (bnds s)[i].From then some (bnds s)[i] else b x) := by
            rw [stR_set hTo hal (by omega)]
            unfold BF.put
            rw [a1]
          rw [hput] at hnew
          refine ⟨_, rfl, ⟨rfl, by simp [hal], ?_, (bnds s)[i] :: pre, _, _, _, _, hnew, htake, .inr ⟨rfl, (bnds s)[i].From, by simp⟩⟩, hlt⟩
          intro j v hj hv
          simp only at hj
          rw [List.getElem?_set] at hj
          by_cases hjn : num s (bnds s)[i].From = j
          · rw [if_pos hjn, if_pos lb] at hj
            cases hj; omega
          · rw [if_neg hjn] at hj
            have := hAt j v hj hv; omega
        · have e2 : decide (at_[num s (bnds s)[i].To] + (bnds s)[i].Most < at_[num s (bnds s)[i].From]) = false := by simpa using hup
          rw [e2]
          simp only [Option.bind_some, cond_false]
          rw [W64_succ (by omega)]
          refine ⟨_, rfl, ⟨rfl, hal, fun j v hj hv => by have := hAt j v hj hv; omega, cold ?_⟩, hlt⟩
          unfold BF.hot
          rw [a1]
          simp only
          rw [a2]
          have hfb : at_[num s (bnds s)[i].From] < 1125899906842624 := by omega
          rw [if_pos hfb]; simpa using hup
      · rw [if_neg hfa] at a1
        have e1 : decide (at_[num s (bnds s)[i].To] < 1125899906842624) = false := by simpa using hfa
        rw [e1]
        simp only [cond_false, Option.bind_some]
        rw [W64_succ (by omega)]
        refine ⟨_, rfl, ⟨rfl, hal, fun j v hj hv => by have := hAt j v hj hv; omega, cold ?_⟩, hlt⟩
        unfold BF.hot
        rw [a1]
    · have : i = (bnds s).length := by omega
      subst this
      right
      rw [lt_f, cond_false]
      have hd : (bnds s).drop (bnds s).length = [] := by simp
      rw [hd] at hInv
      have hall : ∀ e, e ∈ bnds s → e ∈ pre := fun e he => hpre e (by simpa using he)
      rcases hcase with ⟨rfl, hcl⟩ | ⟨rfl, hz⟩
      · exact ⟨_, rfl, (fun _ h => by cases h), .inl ⟨at_, rfl, hal, k, pre, b, ts, rd, now, hInv, fun e he => hcl e (hall e he)⟩⟩
      · exact ⟨_, rfl, (fun _ h => by cases h), .inr ⟨at_, rfl, hal, hAt, pre, b, ts, rd, now, hInv, hall, hz⟩⟩
  · obtain ⟨b, ts, rd, now, h⟩ := hI
    exact ⟨rfl, hal, hB, [], b, ts, rd, now, h, (fun e he => by simp at he), .inl ⟨rfl, fun e he => by cases he⟩⟩
theorem back_ok (h : vCheck s = 0) (hf : FitS N s) (hN : 1000000 ≤ N) (hc : Cls s) : ∃ at_, ref03_backward N s = some at_ ∧ ∀ x, Nd s x → at_[num s x]? = some (dd s x beg) := by
 unfold ref03_backward
 have hn := nAll_le h
 have hn1 : 0 < nAll s := first_pos _ _
 rw [spots_eq hN h, Option.bind_some, bounds_r hf h, Option.bind_some]
 have hmk : mk0 (0 : Int) ((nAll s : Nat) : Int) = some (List.replicate (nAll s) 0) := by unfold mk0; rw [if_pos (by omega)]; simp
 simp only [hmk, Option.bind_some]
 let fl : Nat → List Int := fun i => 0 :: (List.replicate (i - 1) (1125899906842624 : Int) ++ List.replicate (nAll s - i) 0)
 obtain ⟨o, ho, rfl⟩ := iter_ex (body := ref03_backward_L0 N s (spotS s) (bnds s) (List.replicate (nAll s) 0)) (nAll s)
  (fun i q => 1 ≤ i ∧ q = ((i : Int), fl i))
  (fun o => o = .done ((nAll s : Int), 0 :: List.replicate (nAll s - 1) (1125899906842624 : Int))) (by
  rintro i q hi ⟨h1, rfl⟩
  unfold ref03_backward_L0
  simp only
  have hfl : (fl i).length = nAll s := by simp [fl]; omega
  by_cases hlt : i < nAll s
  ·left
   have key : (fl i).set i 1125899906842624 = fl (i + 1) := by
    obtain ⟨i', rfl⟩ : ∃ i', i = i' + 1 := ⟨i - 1, by omega⟩
    simp only [fl, Nat.add_sub_cancel, List.set_cons_succ]
    have e : nAll s - (i' + 1) = (nAll s - (i' + 1 + 1)) + 1 := by omega
    rw [e, List.replicate_succ, List.set_append_right _ _ (by simp)]
    simp only [List.length_replicate, Nat.sub_self, List.set_cons_zero]
    rw [List.replicate_succ', List.append_assoc]; rfl
   rw [lt_t hlt, cond_true, idx_nat (by rw [hfl]; exact hlt), Option.bind_some, W64_succ (by omega)]
   refine ⟨_, rfl, ⟨by omega, ?_⟩, hlt⟩
   simp only [Int.toNat_natCast, key]
  ·have : i = nAll s := by omega
   subst this
   right
   rw [lt_f, cond_false]
   refine ⟨_, rfl, (fun _ h => by cases h), ?_⟩
   simp [fl]) (nAll s - 1) N 1 (1, List.replicate (nAll s) 0) (by omega) (by
   refine ⟨Nat.le_refl _, ?_⟩
   simp only [fl, Nat.sub_self, List.replicate_zero, List.nil_append]
   obtain ⟨m, hm⟩ : ∃ m, nAll s = m + 1 := ⟨nAll s - 1, by omega⟩
   rw [hm, List.replicate_succ]; rfl) (by omega)
 rw [ho]
 simp only [Option.bind_some, Flow.k]
 generalize hr : (0 :: List.replicate (nAll s - 1) (1125899906842624 : Int)) = at0
 have hal0 : at0.length = nAll s := by subst hr; simp; omega
 have hinit : BF.init beg = stR s at0 (fun _ => none) := by
  subst hr
  unfold BF.init stR
  refine congrArg (fun a => (⟨a, fun _ => none⟩ : St Ref Bound)) ?_
  funext x
  by_cases hx : Nd s x
  ·rw [if_pos hx]
   by_cases he : x = beg
   ·subst he; rw [num_beg]; simp
   ·have hne : num s x ≠ 0 := fun h => he (num_inj hx (nd_beg s) (by rw [num_beg]; exact h))
    obtain ⟨m, hm⟩ : ∃ m, num s x = m + 1 := ⟨num s x - 1, by omega⟩
    have := num_lt hx
    rw [if_neg he, hm, List.getElem?_cons_succ, List.getElem?_replicate, if_pos (show m < nAll s - 1 by omega)]; simp
  ·rw [if_neg hx]
   have : x ≠ beg := fun h => hx (h ▸ nd_beg s)
   simp [this]
 obtain ⟨o, ho, at_, rfl, hfin⟩ := iter_ex (body := ref03_backward_L1 N s (spotS s) (bnds s) (List.replicate (nAll s) 0) ((nAll s : Int), at0)) (nAll s + 1)
  (fun k q => (q.1 = true ∧ k ≤ nAll s ∧ q.2.length = nAll s ∧ (∃ b ts rd now, IT s k [] (bnds s) q.2 b ts rd now) ∧ AtL q.2 (k * (bnds s).length)) ∨ (q.1 = false ∧ k ≤ nAll s + 1 ∧ FinT s q.2))
  (fun o => ∃ at_, o = .done (false, at_) ∧ FinT s at_) (by
  rintro k ⟨g, at1⟩ hk (⟨hg, hkn, hal, hI, hB⟩ | ⟨hg, _, hfin⟩)
  ·simp only at hg hal hI hB
   subst hg
   left
   have hbl' := bnds_len' h
   have hT : k * (bnds s).length ≤ 10000000000 := by
    have := Nat.mul_le_mul (show k ≤ 25601 by omega) hbl'
    omega
   obtain ⟨o, ho, hcase⟩ := back_inner h hN (p := List.replicate (nAll s) 0) (u := ((nAll s : Int), at0)) hT hal hI hB
   unfold ref03_backward_L1
   simp only [cond_true] at ho ⊢
   rw [ho]
   rcases hcase with ⟨at_, rfl, hfin⟩ | ⟨at_, rfl, hal2, hB2, pre, b, ts, rd, now, hInv, hall, z, hz⟩
   ·exact ⟨_, rfl, .inr ⟨rfl, by omega, hfin⟩, by omega⟩
   ·have hkn' : k + 1 ≤ nAll s := by
     refine Classical.byContradiction fun hno => ?_
     have := hInv.neg_of_late (nodes := nodesOf s) (fun e he => mem_nodes.2 (bnd_ends h he).1) (z := z) (by rw [nodes_all, hz]; omega)
     exact this (noNeg_turn.2 hc)
    exact ⟨_, rfl, .inl ⟨rfl, hkn', hal2, ⟨b, ts, rd, now, hInv.next hall⟩, by rw [Nat.succ_mul]; exact hB2⟩, by omega⟩
  ·simp only at hg hfin
   subst hg
   right
   exact ⟨_, rfl, (fun _ h => by cases h), at1, rfl, hfin⟩) (nAll s + 1) N 0 (true, at0) (by omega) (by
   refine .inl ⟨rfl, by omega, hal0, ⟨fun _ => none, fun _ => 0, fun _ => 0, 0, ?_⟩, ?_⟩
   ·have := Inv.init (src := Bound.To) (dst := Bound.From) (w := Bound.Most) beg (bnds s)
    rw [hinit] at this
    exact this
   ·intro i v hi hv
    simp only at hi
    subst hr
    cases i with
    | zero => simp at hi; omega
    | succ i =>
     rw [List.getElem?_cons_succ, List.getElem?_replicate] at hi
     split at hi
     ·cases hi; omega
     ·cases hi) (by omega)
 rw [ho]
 refine ⟨at_, rfl, fun x hx => ?_⟩
 obtain ⟨hl, k, pre, b, ts, rd, now, hI, hcl⟩ := hfin
 obtain ⟨n, hn⟩ := walk_any h hx (nd_beg s)
 obtain ⟨m, hm, _⟩ := walk_closed hcl hn.turn (hI.frm_zero hcl)
 have hd := dist_turn.1 ((hI.dist hcl).1 hm)
 simp only [stR, if_pos hx] at hm
 cases hv : at_[num s x]? with
 | none => rw [hv] at hm; cases hm
 | some v =>
  rw [hv] at hm
  simp only at hm
  split at hm
  ·cases hm; rw [dd_eq hd]
  ·cases hm
theorem Times_r (hN : 1000000 ≤ N) (hf : FitS N s) : ref03_Times N s = some (vTimes s) := by
 unfold ref03_Times vTimes
 rw [asked_r hN hf (l := []) ⟨by simp, by simp; omega⟩]
 simp only [Option.bind_some]
 by_cases h : vCheck s = 0
 ·rw [if_neg (by omega)]
  by_cases hc : Cls s
  ·rw [if_pos hc, ask_of h (fun r hr => by cases hr) hc]
   obtain ⟨at1, by1, h1, h2⟩ := reach_ok h hf hN hc (nd_beg s)
   obtain ⟨at2, h3, h4⟩ := back_ok h hf hN hc
   rw [num_beg] at h1
   rw [show ((0 : Nat) : Int) = (0 : Int) from rfl] at h1
   simp only [bne_self_eq_false, cond_false, spots_eq hN h, Option.bind_some, h1, h3]
   have hn := (check_ok h).1
   obtain ⟨o, ho, j, rfl⟩ := iter_ex (body := ref03_Times_L0 N s 0 (spotS s) (at1, by1, -1) at2) s.Tracks.length
    (fun i q => q = ((List.range i).map (fun i => match s.Tracks[i]? with
     | none => []
     | some t => (List.range t.Times.length).map fun j => spanAt s (li i j)), (i : Int))) (fun o => ∃ j, o = .done (eachL s (spanAt s), j)) (by
    rintro i q hi rfl
    unfold ref03_Times_L0
    simp only
    by_cases hlt : i < s.Tracks.length
    ·left
     rw [lt_t hlt, cond_true]
     have ht := List.getElem?_eq_getElem hlt
     have hl := (track_facts (track_at h ht)).2.2
     generalize hq : (List.range i).map (fun i => match s.Tracks[i]? with
      | none => []
      | some t => (List.range t.Times.length).map fun j => spanAt s (li i j)) = qq
     have hql : qq.length = i := by subst hq; simp
     obtain ⟨o, ho, rfl⟩ := iter_ex (body := ref03_Times_L1 N s 0 (spotS s) (at1, by1, -1) at2 (qq, (i : Int))) s.Tracks[i].Times.length
      (fun j q => q = ((List.range j).map (fun j => spanAt s (li i j)), (j : Int))) (fun o => o = .done ((List.range s.Tracks[i].Times.length).map (fun j => spanAt s (li i j)), (s.Tracks[i].Times.length : Int))) (by
      rintro j q hj rfl
      unfold ref03_Times_L1
      simp only [idx_nat hlt, Option.bind_some]
      by_cases hjl : j < s.Tracks[i].Times.length
      ·left
       have nr : Nd s (li i j) := .inr (has_li ht hjl)
       rw [lt_t hjl, cond_true]
       have e0 := of_eq (N := N) h nr
       simp only [li] at e0
       rw [e0, Option.bind_some]
       simp only [idx_nat']
       have e1 := h4 _ nr
       have e2 := h2 _ nr
       simp only [li] at e1 e2
       simp only [e1, e2, Option.bind_some]
       have e3 := W64_neg h hc (a := li i j) (b := beg) nr (nd_beg s)
       simp only [li] at e3
       rw [e3, apnd_ok (by simp; omega), Option.bind_some, Option.bind_some, W64_succ (by omega)]
       exact ⟨_, rfl, by simp only [List.range_succ, List.map_append, List.map_cons, List.map_nil]; rfl, hjl⟩
      ·have : j = s.Tracks[i].Times.length := by omega
       subst this
       right
       rw [lt_f, cond_false]
       exact ⟨_, rfl, (fun _ h => by cases h), rfl⟩) s.Tracks[i].Times.length N 0 ([], 0) (by omega) rfl (by omega)
     rw [ho]
     simp only [Option.bind_some, Flow.k]
     rw [apnd_ok (by rw [hql]; simp; omega), Option.bind_some, W64_succ (by omega)]
     refine ⟨_, rfl, ?_, hlt⟩
     subst hq
     simp only [List.range_succ, List.map_append, List.map_cons, List.map_nil, ht]
    ·have : i = s.Tracks.length := by omega
     subst this
     right
     rw [lt_f, cond_false]
     exact ⟨_, rfl, (fun _ h => by cases h), _, rfl⟩) s.Tracks.length N 0 ([], 0) (by omega) rfl (by omega)
   rw [ho]; rfl
  ·rw [if_neg hc]
   have : ask s [] = 31 := by unfold ask; rw [if_neg (by omega), if_neg (by simp), if_neg hc]
   rw [this]; rfl
 ·rw [if_pos h]
  have : ask s [] = vCheck s := by unfold ask; rw [if_pos h]
  rw [this]
  have e : (vCheck s != 0) = true := by simpa using h
  rw [e]; rfl
end
end Go.Proofs.Ythbcnabeabcmlaa
namespace Go.Proofs.Ythbcnabeabcmlaa
section
variable {N : Nat} {s : System}
theorem eachL_map {α β : Type} (f : Ref → α) (g : α → β) : (eachL s f).map (fun r => r.map g) = eachL s fun r => g (f r) := by
 unfold eachL
 rw [List.map_map]
 apply List.map_congr_left
 intro i _
 simp only [Function.comp]
 cases s.Tracks[i]? with
 | none => rfl
 | some t => simp
theorem eachI_eq (hN : 1000000 ≤ N) (h : vCheck s = 0) {x1 : Ref → Option Int} {f : Ref → Int} (hx : ∀ r, x1 r = some (f r)) : clocks_each_int N s x1 = some (eachL s f) := by
 have hn := (check_ok h).1
 obtain ⟨l, hl⟩ := mk0_ok (GC.raw nilv : GC Int) (n := s.Tracks.length) (by omega)
 unfold clocks_each_int
 rw [hl, Option.bind_some]
 exact eachG_eq hN h hx
theorem times_err (h : vCheck s ≠ 0) : vTimes s = ([], vCheck s) := by unfold vTimes; rw [if_pos h]
theorem times_loop (h : vCheck s = 0) (hc : ¬ Cls s) : vTimes s = ([], 31) := by unfold vTimes; rw [if_neg (by omega), if_neg hc]
theorem times_ok (h : vCheck s = 0) (hc : Cls s) : vTimes s = (eachL s (spanAt s), 0) := by unfold vTimes; rw [if_neg (by omega), if_pos hc]
theorem Earliest_c (hN : 1000000 ≤ N) (hf : FitS N s) : clocks_Earliest N s = some ((vTimes s).1.map (fun r => r.map Span.Lo), (vTimes s).2) := by
 unfold clocks_Earliest
 rcases solved_c hN hf with ⟨h, x, y, h1⟩ | ⟨h, hc, x, y, h1⟩ | ⟨h, hc, x, y, h1, h2, h3⟩
 ·rw [times_err h]
  exact solved_aux' (each := fun _ b => clocks_each_int N s (fun y0 => clocks_Earliest_1 N y0 b)) h1 h
 ·rw [times_loop h hc]
  exact solved_aux' (each := fun _ b => clocks_each_int N s (fun y0 => clocks_Earliest_1 N y0 b)) h1 (by decide)
 ·rw [times_ok h hc, eachL_map]
  refine solved_aux (each := fun _ b => clocks_each_int N s (fun y0 => clocks_Earliest_1 N y0 b)) h1 ?_
  have hx : ∀ r, (fun y0 => clocks_Earliest_1 N y0 y) r = some (W64 (0 - mgetD y.at_ r 0)) := fun r => by unfold clocks_Earliest_1; rfl
  rw [eachI_eq hN h hx]
  refine congrArg some (eachL_congr fun r hr => ?_)
  have e2 := h3.val h hc (nd_beg s) (x := r) (.inr hr)
  simp only [cond_true] at e2
  rw [e2, W64_neg h hc (a := r) (b := beg) (.inr hr) (nd_beg s)]
  rfl
theorem Latest_c (hN : 1000000 ≤ N) (hf : FitS N s) : clocks_Latest N s = some ((vTimes s).1.map (fun r => r.map Span.Hi), (vTimes s).2) := by
 unfold clocks_Latest
 rcases solved_c hN hf with ⟨h, x, y, h1⟩ | ⟨h, hc, x, y, h1⟩ | ⟨h, hc, x, y, h1, h2, h3⟩
 ·rw [times_err h]
  exact solved_aux' (each := fun a _ => clocks_each_int N s (fun y0 => clocks_Latest_1 N y0 a)) h1 h
 ·rw [times_loop h hc]
  exact solved_aux' (each := fun a _ => clocks_each_int N s (fun y0 => clocks_Latest_1 N y0 a)) h1 (by decide)
 ·rw [times_ok h hc, eachL_map]
  refine solved_aux (each := fun a _ => clocks_each_int N s (fun y0 => clocks_Latest_1 N y0 a)) h1 ?_
  have hx : ∀ r, (fun y0 => clocks_Latest_1 N y0 x) r = some (mgetD x.at_ r 0) := fun r => by unfold clocks_Latest_1; rfl
  rw [eachI_eq hN h hx]
  refine congrArg some (eachL_congr fun r hr => ?_)
  have e2 := h2.val h hc (nd_beg s) (x := r) (.inr hr)
  simp only [cond_false] at e2
  rw [e2]
  rfl
end
end Go.Proofs.Ythbcnabeabcmlaa
namespace Go.Proofs.Ythbcnabeabcmlaa
open Go.Proofs
def slices_Clone_api_Tie_api_Tie (N : Nat) (x0 : List Tie) : Option (List Tie) := apnd [] x0
theorem co_slices_Clone_api_Tie_api_Tie : CallOk Try.prog 128 := fun _ _ => by kernel_rfl
set_option maxRecDepth 100000 in
theorem c_slices_Clone_api_Tie_api_Tie (N : Nat) (w0 : World) (F0 : Mem) (hF : ∀ b o, F0 b = some o → w0.heap[b]? = some o) (x0 : List Tie) (a0_0 : Option Addr) (n0_0 : Nat) (hb0_0 : LC x0.length n0_0) (hs0_0 : SlA tTie F0 a0_0 x0) (r : List Tie) (h : slices_Clone_api_Tie_api_Tie N x0 = some r) :
  Calls Try.prog 128 ([.slice a0_0 x0.length n0_0] : List Value).toArray w0 (FRetO w0 F0 fun F' v L' => ∃ (a : Option Addr) (n : Nat) (e : Option Nat × Obj), v = .slice a r.length n ∧ L' = [e] ∧ RowR tTie 46 F' a n r e) := by
 have hs0 := HS.start hF
 obtain ⟨hlen, hr⟩ := apnd_spec h
 refine calls_of (n := 8) (c := bodyOf Try.f128) Try.func128 (by kernel_rfl) (by kernel_rfl) (by kernel_rfl) ?_
 refine CWP.seq (by kernel_rfl) ?_
 refine CWP.region (l := [0]) (by kernel_rfl) (by kernel_rfl) (by kernel_rfl) ?_
 refine RWP.val (dst := (some 2)) (ty := 23) (g := none) (by kernel_rfl) rfl (run_assign (x := (.const (.slice none 0 0))) (v := (.slice none 0 0)) rfl) ?_
 refine RWP.nil ?_
 refine thenQ_nrm ?_
 refine CWP.seq (by kernel_rfl) ?_
 refine CWP.seq (by kernel_rfl) ?_
 refine CWP.region (l := [0, 1]) (by kernel_rfl) (by kernel_rfl) (by kernel_rfl) ?_
 refine RWP.val (dst := (some 3)) (ty := 23) (g := none) (by kernel_rfl) rfl (run_move (x := (.tmp 0)) (v := (.slice a0_0 x0.length n0_0)) rfl) ?_
 refine RWP.val (dst := (some 4)) (ty := 4) (g := none) (by kernel_rfl) rfl (run_eqnil (e := 46) (t := 23) (t' := 23) (x := (.tmp 3)) (y := (.const (.slice none 0 0))) rfl rfl (by kernel_rfl)) ?_
 refine RWP.nil ?_
 refine thenQ_nrm ?_
 refine CWP.cond (t := a0_0.isNone) (by kernel_rfl) rfl (fun hc => ?_) (fun hc => ?_)
 ·have hn : a0_0 = none := by simpa using hc
  subst hn
  have hx : x0 = [] := by
   rcases hs0_0 with h | ⟨b, o, C, E, fz, ha, _⟩
   ·exact h
   ·cases ha
  subst hx
  simp at hr
  subst hr
  refine CWP.seq (by kernel_rfl) ?_
  refine CWP.region (l := [0]) (by kernel_rfl) (by kernel_rfl) (by kernel_rfl) ?_
  refine RWP.val (dst := (some 2)) (ty := 23) (g := none) (by kernel_rfl) rfl (run_assign (x := (.const (.slice none 0 0))) (v := (.slice none 0 0)) rfl) ?_
  refine RWP.nil ?_
  refine thenQ_nrm ?_
  refine CWP.ret (by kernel_rfl) ?_
  refine thenQ_ret ?_
  exact ⟨rfl, (.slice none 0 0), res_of (l := [.tmp 2]) (by kernel_rfl) (vs := [(.slice none 0 0)]) ⟨rfl, trivial⟩, (.slice none 0 0), F0, _, rfl, hs0.dummy (oc #[] 0), none, 0, _, rfl, rfl, RowR.nil _ _ _ _⟩
 ·refine CWP.skip (by kernel_rfl) ?_
  refine thenQ_nrm ?_
  refine CWP.seq (by kernel_rfl) ?_
  refine CWP.region (l := [0, 1, 2, 3]) (by kernel_rfl) (by kernel_rfl) (by kernel_rfl) ?_
  refine RWP.buildSlice (dst := (some 5)) (ty := 23) (g := none) (by kernel_rfl) rfl (t := 23) (len := 0) (parts := #[]) (vs := []) rfl (E := 46) (cs := []) (by kernel_rfl) hs0 (fun b w1 (hs1 : HS w0 F0 w1 F0 [(some b, .cells ([] : List Value).toArray 46 (0, 0))]) => ?_)
  have hr1 : RowR tTie 46 F0 (some ⟨b, 0, none⟩) 0 [] (some b, .cells ([] : List Value).toArray 46 (0, 0)) := RowR.lit rfl (by simp)
  refine RWP.val (dst := (some 6)) (ty := 23) (g := none) (by kernel_rfl) rfl (run_move (x := (.tmp 0)) (v := (.slice a0_0 x0.length n0_0)) rfl) ?_
  refine RWP.append (dst := (some 7)) (ty := 23) (g := none) (by kernel_rfl) rfl (x := (.tmp 5)) (y := (.tmp 6)) (t := 23) (t2 := 23) (by_ := 32) (z := (.agg #[(vi 0), (vi 0), (vi 0), (vi 0)])) (a2 := a0_0) (c2 := n0_0) (m := x0) (T := tTie) (E := 46) (a := (some ⟨b, 0, none⟩)) (cap := 0) (l := []) rfl rfl (by kernel_rfl) (by decide) (by kernel_rfl) (by kernel_rfl) rfl oTie hs1 (k := 0) rfl hr1 (SlA.rd hs1 hs0_0) (r := r) h (fun a2 n2 e2 w2 (hs2 : HS w0 F0 w2 F0 [e2]) hr2 => ?_)
  refine RWP.val (dst := (some 2)) (ty := 23) (g := none) (by kernel_rfl) rfl (run_assign (x := (.tmp 7)) (v := (.slice a2 r.length n2)) rfl) ?_
  refine RWP.nil ?_
  refine thenQ_nrm ?_
  refine CWP.ret (by kernel_rfl) ?_
  exact ⟨rfl, (.slice a2 r.length n2), res_of (l := [.tmp 2]) (by kernel_rfl) (vs := [(.slice a2 r.length n2)]) ⟨rfl, trivial⟩, (.slice a2 r.length n2), F0, _, rfl, hs2, a2, n2, e2, rfl, rfl, hr2⟩
end Go.Proofs.Ythbcnabeabcmlaa
namespace Go.Proofs.Ythbcnabeabcmlaa
open Go.Proofs
def clocks_added_1_L0 {σ : Type} (N : Nat) (y : (σ → (Bool × (List Bound)) → Option (Bool × σ))) (z0 : System) (z1 : (List Tie)) (s : σ) (r1 : (List Tie)) : (Int × List Tie × σ) → Option (Flow σ (Int × List Tie × σ)) := fun s20 =>
 (bif (decide (s20.1 < (z1.length : Int))) then ((idx z1 s20.1).bind fun x47 => ((apnd s20.2.1 [x47]).bind fun r71 => ((clocks_loopOf N ({ Tracks := z0.Tracks, Ties := r71, Window := z0.Window } : System)).bind fun r82 => ((y s20.2.2 ((r82.isEmpty), r82)).bind fun q93 => (bif (!q93.1) then some (.ret q93.2) else ((bif (!r82.isEmpty) then ((sub r71 0 (W64 ((r71.length : Int) - 1))).bind fun r123 => some r123) else some r71).bind fun j112 => some (.next ((W64 (s20.1 + 1)), j112, q93.2)))))))) else some (.done (s20.1, s20.2.1, s20.2.2)))
def clocks_added_1 {σ : Type} (N : Nat) (y : σ → (Bool × (List Bound)) → Option (Bool × σ)) (z0 : System) (z1 : (List Tie)) (s : σ) : Option σ :=
 ((slices_Clone_api_Tie_api_Tie N z0.Ties).bind fun r1 => ((iter (clocks_added_1_L0 N y z0 z1 s r1) N (0, r1, s)).bind fun o => o.k (fun r => some r) (fun s32 => some s32.2.2)))
theorem co_clocks_added_1 : CallOk Try.prog 127 := fun _ _ => by kernel_rfl
set_option maxHeartbeats 4000000 in
set_option maxRecDepth 100000 in
theorem c_clocks_added_1 (N : Nat) (F0 : Mem) (z0 : System) (az0_0 : Option Addr) (nz0_0 : Nat) (hbz0_0 : LC z0.Tracks.length nz0_0) (hsz0_0 : SlA tTrack F0 az0_0 z0.Tracks) (az0_1 : Option Addr) (nz0_1 : Nat) (hbz0_1 : LC z0.Ties.length nz0_1) (hsz0_1 : SlA tTie F0 az0_1 z0.Ties) (bz0 : Nat) (z1 : (List Tie)) (az1_0 : Option Addr) (nz1_0 : Nat) (hbz1_0 : LC z1.length nz1_0) (hsz1_0 : SlA tTie F0 az1_0 z1) (bz1 : Nat) (hz1 : F0 bz1 = some (oc #[(.slice az1_0 z1.length nz1_0)] 23)) :
  SeqOk Try.prog 127 [(.pointer (some ⟨bz0, 0, none⟩)), (.pointer (some ⟨bz1, 0, none⟩))] F0 [(sb bz0 (kSystem z0 az0_0 nz0_0 az0_1 nz0_1) 25)] enc155 ok155 px155 (fun {_} y s => clocks_added_1 N y z0 z1 s) := by
 intro σ wb w0 Fb F1 l y J s r Lf le01 hJm hs0 hJ hY h
 have hs0 : HS wb Fb w0 F1 ((sb bz0 (kSystem z0 az0_0 nz0_0 az0_1 nz0_1) 25) :: Lf) := hs0
 refine calls_of (n := 42) (c := bodyOf Try.f127) Try.func127 (by kernel_rfl) (by kernel_rfl) (by kernel_rfl) ?_
 refine Sq (Rg [0, 1, 2, 3, 4] ?_)
 refine V 7 0 (fa 25 1 1 1 1 bz0 0 1) ?_
 refine V 8 23 (ld 23 7 bz0 1 false 1 (.slice az0_1 z0.Ties.length nz0_1) (hs0.ownAt (k := 0) rfl)) ?_
 obtain ⟨r1, hr2, h3⟩ := bind_some h
 refine RWP.callO (dst := (some 9)) (ty := 23) (g := none) (by kernel_rfl) rfl (f0 := (.func 128)) (aos := #[(.tmp 8)]) (ats := #[23]) (fid := 128) (first := #[]) (cap := #[]) (args := [(.slice az0_1 z0.Ties.length nz0_1)]) rfl co_slices_Clone_api_Tie_api_Tie (rfl) hs0 (c_slices_Clone_api_Tie_api_Tie N w0 F1 hs0.pers (z0.Ties) az0_1 nz0_1 hbz0_1 (SlA.mono hsz0_1 le01) _ hr2) ?_
 rintro _ F2 w5 _ hs6 le7 ⟨a9, n10, e11, rfl, rfl, hr12⟩
 have hs14 : HS wb Fb w5 F2 (e11 :: (sb bz0 (kSystem z0 az0_0 nz0_0 az0_1 nz0_1) 25) :: Lf) := hs6
 refine V 10 0 (fa 25 1 1 1 1 bz0 0 1) ?_
 refine RWP.store (ty := 0) (g := none) (by kernel_rfl) rfl (x := (.tmp 10)) (y := (.tmp 9)) (t := 23) (gg := false) (s := 1) (v := (.slice a9 r1.length n10)) (b := bz0) (o := 1) (C := (kSystem z0 az0_0 nz0_0 az0_1 nz0_1)) rfl rfl (by kernel_rfl) hs14 (k := 1) rfl rfl rfl rfl (C' := #[(.slice az0_0 z0.Tracks.length nz0_0), (.slice a9 r1.length n10), (vi z0.Window)]) rfl (fun w15 (hs16 : HS wb Fb w15 F2 (e11 :: (sb bz0 #[(.slice az0_0 z0.Tracks.length nz0_0), (.slice a9 r1.length n10), (vi z0.Window)] 25) :: Lf)) => ?_)
 refine Nss (Rg [0, 1, 2] ?_)
 refine V 11 23 (ld 23 2 bz1 0 false 1 (.slice az1_0 z1.length nz1_0) (hs16.pers _ _ ((le01.trans le7) _ _ hz1))) ?_
 refine V 12 3 (ln 11 23 az1_0 z1.length nz1_0 46 4 32) ?_
 refine V 13 3 (run_move (x := (.const (vi 0))) (v := (vi 0)) rfl) ?_
 refine Nt ?_
 obtain ⟨o17, ho18, h19⟩ := bind_some h3
 refine CWP.cut (fun f w => ∃ (s32 : (Int × List Tie × σ)) (F4 : Mem) (Lf36 : Own), o17 = .done s32 ∧ HS wb Fb w F4 Lf36 ∧ Mem.le F2 F4 ∧ f.d = [] ∧ J s32.2.2 F4 Lf36) ?_ ?_
 ·refine Bk ?_
  refine CWP.loop (by kernel_rfl) (fun m f w => ∃ (s20 : (Int × List Tie × σ)) (F3 : Mem) (as20_1 : Option Addr) (ns20_1 : Nat) (es20_1 : Option Nat × Obj) (Lf24 : Own), iter (clocks_added_1_L0 N y z0 z1 s r1) m s20 = some o17 ∧ HS wb Fb w F3 (es20_1 :: (sb bz0 #[(.slice az0_0 z0.Tracks.length nz0_0), (.slice as20_1 s20.2.1.length ns20_1), (vi z0.Window)] 25) :: Lf24) ∧ Mem.le F2 F3 ∧ f.d = [] ∧ f 0 = (.func (.yield l) #[] #[]) ∧ f 1 = (.pointer (some ⟨bz0, 0, none⟩)) ∧ f 11 = (.slice az1_0 z1.length nz1_0) ∧ f 12 = (vi (z1.length : Int)) ∧ f 13 = (vi s20.1) ∧ RowR tTie 46 F3 as20_1 ns20_1 s20.2.1 es20_1 ∧ J s20.2.2 F3 Lf24) N ⟨(0, r1, s), F2, a9, n10, e11, Lf, ho18, hs16, (Mem.le.refl _), rfl, rfl, rfl, rfl, rfl, rfl, hr12, (hJm _ _ _ _ hJ le7)⟩ ?_
  rintro m39 f w21 ⟨s20, F3, as20_1, ns20_1, es20_1, Lf24, hit40, hs22, le23, e26, e27, e28, e29, e30, e31, hrs20_1, hJ25⟩
  obtain ⟨m41, fl42, rfl, hb43, hnx44⟩ := iter_step hit40
  refine Sq (Rg [0] ?_)
  refine V 14 0 (run_lss (t := 3) (t' := 3) (x := (.tmp 13)) (y := (.tmp 12)) (k := .i64) (a := s20.1) (b := (z1.length : Int)) e31 e30) ?_
  refine Nss ?_
  refine CWP.cond (t := (decide (s20.1 < (z1.length : Int)))) (by kernel_rfl) rfl (fun hb45 => ?_) (fun hb45 => ?_)
  ·have h46 := cond_t hb43 hb45
   refine Sc ?_
   refine thenQ_nrm ?_
   refine Sq ?_
   refine Bk ?_
   refine Sq (Rg [0, 1, 2, 3] ?_)
   obtain ⟨x47, hx48, h50⟩ := bind_some h46
   obtain ⟨hi49, hx48'⟩ := idx_spec hx48
   obtain ⟨b51, o52, C53, E54, fz55, rfl, hF57, hE58⟩ := SlA.open (SlA.mono hsz1_0 ((le01.trans le7).trans le23)) hx48'
   have hc60 := hE58 _ _ hx48'
   refine V 15 0 (run_index (t := 23) (x := (.tmp 11)) (y := (.tmp 13)) (b := b51) (o := o52) (E := 46) (s := 4) (by_ := 32) e29 e31 (by kernel_rfl) hi49) ?_
   refine V 16 46 (lx 46 15 0 4 true 4 (.agg (kTie x47)) (hs22.pers _ _ hF57) hc60) ?_
   refine Al 5 0 46 #[(vi 0), (vi 0), (vi 0), (vi 0)] hs22 (fun b61 w62 (hs63 : HS wb Fb w62 F3 ((sb b61 #[(vi 0), (vi 0), (vi 0), (vi 0)] 46) :: es20_1 :: (sb bz0 #[(.slice az0_0 z0.Tracks.length nz0_0), (.slice as20_1 s20.2.1.length ns20_1), (vi z0.Window)] 25) :: Lf24)) => ?_)
   refine RWP.store (ty := 0) (g := none) (by kernel_rfl) rfl (x := (.tmp 5)) (y := (.tmp 16)) (t := 46) (gg := true) (s := 4) (v := (.agg (kTie x47))) (b := b61) (o := 0) (C := #[(vi 0), (vi 0), (vi 0), (vi 0)]) rfl rfl (by kernel_rfl) hs63 (k := 0) rfl rfl rfl rfl (C' := (kTie x47)) rfl (fun w64 (hs65 : HS wb Fb w64 F3 ((sb b61 (kTie x47) 46) :: es20_1 :: (sb bz0 #[(.slice az0_0 z0.Tracks.length nz0_0), (.slice as20_1 s20.2.1.length ns20_1), (vi z0.Window)] 25) :: Lf24)) => ?_)
   refine Nss (Rg [0, 1, 2, 3, 4, 5, 6] ?_)
   refine V 17 0 (fa 25 1 1 1 1 bz0 0 1 e28) ?_
   refine V 18 23 (ld 23 17 bz0 1 false 1 (.slice as20_1 s20.2.1.length ns20_1) (hs65.ownAt (k := 2) rfl)) ?_
   refine V 19 46 (ld 46 5 b61 0 true 4 (.agg (kTie x47)) (hs65.ownAt (k := 0) rfl)) ?_
   refine RWP.buildSlice (dst := (some 20)) (ty := 23) (g := none) (by kernel_rfl) rfl (t := 23) (len := 1) (parts := #[(0, (.tmp 19))]) (vs := [(0, (.agg (kTie x47)))]) (rfl) (E := 46) (cs := [(vi x47.A.Log), (vi x47.A.Line), (vi x47.B.Log), (vi x47.B.Line)]) (by kernel_rfl) hs65 (fun b66 w67 (hs68 : HS wb Fb w67 F3 ((some b66, .cells ([(vi x47.A.Log), (vi x47.A.Line), (vi x47.B.Log), (vi x47.B.Line)] : List Value).toArray 46 (0, 0)) :: (sb b61 (kTie x47) 46) :: es20_1 :: (sb bz0 #[(.slice az0_0 z0.Tracks.length nz0_0), (.slice as20_1 s20.2.1.length ns20_1), (vi z0.Window)] 25) :: Lf24)) => ?_)
   have hr70 : RowR tTie 46 F3 (some ⟨b66, 0, none⟩) 1 [x47] (some b66, .cells ([(vi x47.A.Log), (vi x47.A.Line), (vi x47.B.Log), (vi x47.B.Line)] : List Value).toArray 46 (0, 0)) := RowR.lit ⟨rfl, rfl⟩ (by simp)
   obtain ⟨r71, hap72, h73⟩ := bind_some h50
   refine RWP.append (dst := (some 21)) (ty := 23) (g := none) (by kernel_rfl) rfl (x := (.tmp 18)) (y := (.tmp 20)) (t := 23) (t2 := 23) (by_ := 32) (z := (.agg #[(vi 0), (vi 0), (vi 0), (vi 0)])) (a2 := (some ⟨b66, 0, none⟩)) (c2 := 1) (m := [x47]) (T := tTie) (E := 46) (a := as20_1) (cap := ns20_1) (l := s20.2.1) rfl rfl (by kernel_rfl) (by decide) (by kernel_rfl) (by kernel_rfl) rfl oTie hs68 (k := 2) rfl hrs20_1 (RowR.rd hs68 (k := 0) rfl hr70) (r := r71) hap72 (fun a74 n75 e76 w77 (hs78 : HS wb Fb w77 F3 ((some b66, .cells ([(vi x47.A.Log), (vi x47.A.Line), (vi x47.B.Log), (vi x47.B.Line)] : List Value).toArray 46 (0, 0)) :: (sb b61 (kTie x47) 46) :: e76 :: (sb bz0 #[(.slice az0_0 z0.Tracks.length nz0_0), (.slice as20_1 s20.2.1.length ns20_1), (vi z0.Window)] 25) :: Lf24)) hr79 => ?_)
   refine V 22 0 (fa 25 1 1 1 1 bz0 0 1 e28) ?_
   refine RWP.store (ty := 0) (g := none) (by kernel_rfl) rfl (x := (.tmp 22)) (y := (.tmp 21)) (t := 23) (gg := false) (s := 1) (v := (.slice a74 r71.length n75)) (b := bz0) (o := 1) (C := #[(.slice az0_0 z0.Tracks.length nz0_0), (.slice as20_1 s20.2.1.length ns20_1), (vi z0.Window)]) rfl rfl (by kernel_rfl) hs78 (k := 3) rfl rfl rfl rfl (C' := #[(.slice az0_0 z0.Tracks.length nz0_0), (.slice a74 r71.length n75), (vi z0.Window)]) rfl (fun w80 (hs81 : HS wb Fb w80 F3 ((some b66, .cells ([(vi x47.A.Log), (vi x47.A.Line), (vi x47.B.Log), (vi x47.B.Line)] : List Value).toArray 46 (0, 0)) :: (sb b61 (kTie x47) 46) :: e76 :: (sb bz0 #[(.slice az0_0 z0.Tracks.length nz0_0), (.slice a74 r71.length n75), (vi z0.Window)] 25) :: Lf24)) => ?_)
   refine Nss (Rg [0, 1, 2] ?_)
   refine V 23 25 (ld 25 1 bz0 0 true 3 (.agg #[(.slice az0_0 z0.Tracks.length nz0_0), (.slice a74 r71.length n75), (vi z0.Window)]) (hs81.ownAt (k := 3) rfl) e28) ?_
   obtain ⟨r82, hr83, h84⟩ := bind_some h73
   refine RWP.callLent (q := 2) (T := tBound) (r := r82) (dst := (some 24)) (ty := 57) (g := none) (by kernel_rfl) rfl (f0 := (.func 103)) (aos := #[(.tmp 23)]) (ats := #[25]) (fid := 103) (first := #[]) (cap := #[]) (args := [(.agg #[(.slice az0_0 z0.Tracks.length nz0_0), (.slice a74 r71.length n75), (vi z0.Window)])]) rfl co_clocks_loopOf (rfl) hs81 rfl (fun _ _ _ _ h => h) (c_clocks_loopOf N w80 (addF F3 e76) (HS.lend hs81 (q := 2) rfl).2 ({ Tracks := z0.Tracks, Ties := r71, Window := z0.Window } : System) az0_0 nz0_0 hbz0_0 (SlA.mono (SlA.mono hsz0_0 ((le01.trans le7).trans le23)) (HS.lend hs81 (q := 2) rfl).1) a74 n75 (RowR.bound hr79) (RowR.freeze hr79 (HS.lend hs81 (q := 2) rfl).1) _ hr83) (fun a85 n86 F5 w87 (hs88 : HS wb Fb w87 F5 ((some b66, .cells ([(vi x47.A.Log), (vi x47.A.Line), (vi x47.B.Log), (vi x47.B.Line)] : List Value).toArray 46 (0, 0)) :: (sb b61 (kTie x47) 46) :: e76 :: (sb bz0 #[(.slice az0_0 z0.Tracks.length nz0_0), (.slice a74 r71.length n75), (vi z0.Window)] 25) :: Lf24)) le89 hb90 hl91 nf92 => ?_)
   refine V 6 57 (ma 24 (.slice a85 r82.length n86)) ?_
   refine Nss ?_
   refine Sq (Rg [0, 1, 2, 3, 4, 5] ?_)
   refine V 25 155 (mv 0 (.func (.yield l) #[] #[]) e27) ?_
   refine V 26 57 (mv 6 (.slice a85 r82.length n86)) ?_
   refine V 27 4 (run_eqnil' (e := 103) (t := 57) (t' := 57) (x := (.tmp 26)) (y := (.const (.slice none 0 0))) hl91 nf92 rfl rfl (by kernel_rfl)) ?_
   refine V 28 57 (mv 6 (.slice a85 r82.length n86)) ?_
   obtain ⟨q93, hq94, h95⟩ := bind_some h84
   refine RWP.yield (dst := (some 29)) (ty := 4) (g := none) (by kernel_rfl) rfl (f0 := (.tmp 25)) (aos := #[(.tmp 27), (.tmp 28)]) (ats := #[4, 57]) (l := l) (args := [(.bool (r82.isEmpty)), (.slice a85 r82.length n86)]) rfl (rfl) (hY s20.2.2 ((r82.isEmpty), r82, a85, n86) w87 F5 [(some b66, .cells ([(vi x47.A.Log), (vi x47.A.Line), (vi x47.B.Log), (vi x47.B.Line)] : List Value).toArray 46 (0, 0)), (sb b61 (kTie x47) 46), e76, (sb bz0 #[(.slice az0_0 z0.Tracks.length nz0_0), (.slice a74 r71.length n75), (vi z0.Window)] 25)] Lf24 q93 ((le7.trans le23).trans le89) ⟨hb90, hl91⟩ (hJm _ _ _ _ hJ25 le89) hs88 hq94) ?_
   rintro _ w96 ⟨F6, Lf100, rfl, hs97, le98, hJ99⟩
   have hs101 : HS wb Fb w96 F6 ((some b66, .cells ([(vi x47.A.Log), (vi x47.A.Line), (vi x47.B.Log), (vi x47.B.Line)] : List Value).toArray 46 (0, 0)) :: (sb b61 (kTie x47) 46) :: e76 :: (sb bz0 #[(.slice az0_0 z0.Tracks.length nz0_0), (.slice a74 r71.length n75), (vi z0.Window)] 25) :: Lf100) := hs97
   refine ⟨_, rfl, ?_⟩
   refine V 30 4 (run_not (t := 4) (x := (.tmp 29)) (a := q93.1) rfl) ?_
   refine Nt ?_
   refine CWP.cond (t := (!q93.1)) (by kernel_rfl) rfl (fun hb102 => ?_) (fun hb102 => ?_)
   ·have h103 := cond_t h95 hb102
    refine CWP.ret (by kernel_rfl) ?_
    refine thenQ_ret ?_
    refine blockQ_ret ?_
    refine thenQ_ret ?_
    refine thenQ_ret ?_
    refine blockQ_ret ?_
    have hret := iter_ret h103 hnx44
    subst hret
    refine .inr ?_
    have hs104 : HS wb Fb w96 F6 ((sb b61 (kTie x47) 46) :: e76 :: (sb bz0 #[(.slice az0_0 z0.Tracks.length nz0_0), (.slice a74 r71.length n75), (vi z0.Window)] 25) :: Lf100) := hs101.drop 0
    have hs105 : HS wb Fb w96 F6 (e76 :: (sb bz0 #[(.slice az0_0 z0.Tracks.length nz0_0), (.slice a74 r71.length n75), (vi z0.Window)] 25) :: Lf100) := hs104.drop 0
    have hs106 : HS wb Fb w96 F6 ((sb bz0 #[(.slice az0_0 z0.Tracks.length nz0_0), (.slice a74 r71.length n75), (vi z0.Window)] 25) :: Lf100) := hs105.drop 0
    have hs107 : HS wb Fb w96 F6 Lf100 := hs106.drop 0
    have hfin := some_inj h19
    subst hfin
    exact ⟨e26, .tuple #[], res_of (l := []) (by kernel_rfl) (vs := []) trivial, F6, Lf100, rfl, hs107, (((le7.trans le23).trans le89).trans le98), hJ99⟩
   ·have h108 := cond_f h95 hb102
    refine Sc ?_
    refine thenQ_nrm ?_
    refine Sq (Rg [0, 1] ?_)
    refine V 31 57 (mv 6 (.slice a85 r82.length n86)) ?_
    refine V 32 4 (run_nenil' (e := 103) (t := 57) (t' := 57) (x := (.tmp 31)) (y := (.const (.slice none 0 0))) (SlA.mono hl91 le98) nf92 rfl rfl (by kernel_rfl)) ?_
    refine Nt ?_
    obtain ⟨j112, hj119, h120⟩ := bind_some h108
    refine CWP.cut (fun f w => ∃ (F7 : Mem) (aj112_0 : Option Addr) (nj112_0 : Nat) (ej112_0 : Option Nat × Obj), HS wb Fb w F7 (ej112_0 :: (sb bz0 #[(.slice az0_0 z0.Tracks.length nz0_0), (.slice aj112_0 j112.length nj112_0), (vi z0.Window)] 25) :: Lf100) ∧ Mem.le F6 F7 ∧ f.d = [] ∧ f 0 = (.func (.yield l) #[] #[]) ∧ f 1 = (.pointer (some ⟨bz0, 0, none⟩)) ∧ f 11 = (.slice (some ⟨b51, o52, none⟩) z1.length nz1_0) ∧ f 12 = (vi (z1.length : Int)) ∧ f 13 = (vi s20.1) ∧ RowR tTie 46 F7 aj112_0 nj112_0 j112 ej112_0) ?_ ?_
    ·refine CWP.cond (t := (!r82.isEmpty)) (by kernel_rfl) rfl (fun hb121 => ?_) (fun hb121 => ?_)
     ·have h122 := cond_t hj119 hb121
      refine Rg [0, 1, 2, 3, 4, 5, 6, 7, 8] ?_
      refine V 33 0 (fa 25 1 1 1 1 bz0 0 1 e28) ?_
      refine V 34 23 (ld 23 33 bz0 1 false 1 (.slice a74 r71.length n75) (hs101.ownAt (k := 3) rfl)) ?_
      refine V 35 0 (fa 25 1 1 1 1 bz0 0 1 e28) ?_
      refine V 36 23 (ld 23 35 bz0 1 false 1 (.slice a74 r71.length n75) (hs101.ownAt (k := 3) rfl)) ?_
      refine V 37 3 (ln 36 23 a74 r71.length n75 46 4 32) ?_
      refine V 38 3 (run_sub (t := 3) (t' := 3) (x := (.tmp 37)) (y := (.const (vi 1))) (k := .i64) (a := (r71.length : Int)) (b := 1) rfl rfl) ?_
      obtain ⟨r123, hr124, h125⟩ := bind_some h122
      refine RWP.sliceRow (T := tTie) (x := (.tmp 34)) (y := (.tmp 38)) (t := 23) (E := 46) (by_ := 32) (c := n75) (a := a74) (l := r71) (r := r123) (ih := (W64 ((r71.length : Int) - 1))) (dst := (some 39)) (ty := 23) (g := none) (by kernel_rfl) rfl rfl (by kernel_rfl) (by kernel_rfl) (hr79.mono (le89.trans le98)) rfl hr124 (fun hr126 => ?_)
      refine V 40 0 (fa 25 1 1 1 1 bz0 0 1 e28) ?_
      refine RWP.store (ty := 0) (g := none) (by kernel_rfl) rfl (x := (.tmp 40)) (y := (.tmp 39)) (t := 23) (gg := false) (s := 1) (v := (.slice a74 r123.length n75)) (b := bz0) (o := 1) (C := #[(.slice az0_0 z0.Tracks.length nz0_0), (.slice a74 r71.length n75), (vi z0.Window)]) rfl rfl (by kernel_rfl) hs101 (k := 3) rfl rfl rfl rfl (C' := #[(.slice az0_0 z0.Tracks.length nz0_0), (.slice a74 r123.length n75), (vi z0.Window)]) rfl (fun w127 (hs128 : HS wb Fb w127 F6 ((some b66, .cells ([(vi x47.A.Log), (vi x47.A.Line), (vi x47.B.Log), (vi x47.B.Line)] : List Value).toArray 46 (0, 0)) :: (sb b61 (kTie x47) 46) :: e76 :: (sb bz0 #[(.slice az0_0 z0.Tracks.length nz0_0), (.slice a74 r123.length n75), (vi z0.Window)] 25) :: Lf100)) => ?_)
      refine RWP.nil ?_
      obtain rfl := some_inj h125
      have hs129 : HS wb Fb w127 F6 ((sb b61 (kTie x47) 46) :: e76 :: (sb bz0 #[(.slice az0_0 z0.Tracks.length nz0_0), (.slice a74 r123.length n75), (vi z0.Window)] 25) :: Lf100) := hs128.drop 0
      have hs130 : HS wb Fb w127 F6 (e76 :: (sb bz0 #[(.slice az0_0 z0.Tracks.length nz0_0), (.slice a74 r123.length n75), (vi z0.Window)] 25) :: Lf100) := hs129.drop 0
      exact .inl ⟨rfl, F6, a74, n75, e76, hs130, (Mem.le.refl _), e26, e27, e28, e29, e30, e31, hr126⟩
     ·have h131 := cond_f hj119 hb121
      refine Sc ?_
      obtain rfl := some_inj h131
      have hs132 : HS wb Fb w96 F6 ((sb b61 (kTie x47) 46) :: e76 :: (sb bz0 #[(.slice az0_0 z0.Tracks.length nz0_0), (.slice a74 r71.length n75), (vi z0.Window)] 25) :: Lf100) := hs101.drop 0
      have hs133 : HS wb Fb w96 F6 (e76 :: (sb bz0 #[(.slice az0_0 z0.Tracks.length nz0_0), (.slice a74 r71.length n75), (vi z0.Window)] 25) :: Lf100) := hs132.drop 0
      exact .inl ⟨rfl, F6, a74, n75, e76, hs133, (Mem.le.refl _), e26, e27, e28, e29, e30, e31, (hr79.mono (le89.trans le98))⟩
    ·rintro f w109 ⟨F7, aj112_0, nj112_0, ej112_0, hs110, le111, e113, e114, e115, e116, e117, e118, hrj112_0⟩
     refine blockQ_nrm ?_
     refine thenQ_nrm ?_
     refine Rg [0, 1] ?_
     refine V 41 3 (run_add (t := 3) (t' := 3) (x := (.tmp 13)) (y := (.const (vi 1))) (k := .i64) (a := s20.1) (b := 1) e118 rfl) ?_
     refine V 13 3 (mv 41 (vi (W64 (s20.1 + 1)))) ?_
     refine RWP.nil ?_
     have hn134 := iter_next h120 hnx44
     exact ⟨m41, Nat.lt_succ_self _, ((W64 (s20.1 + 1)), j112, q93.2), F7, aj112_0, nj112_0, ej112_0, Lf100, hn134, hs110, (((le23.trans le89).trans le98).trans le111), e113, e114, e115, e116, e117, rfl, hrj112_0, (hJm _ _ _ _ hJ99 le111)⟩
  ·have h135 := cond_f hb43 hb45
   refine CWP.exit (by kernel_rfl) ?_
   refine thenQ_ex ?_
   refine thenQ_ex ?_
   refine blockQ_hit rfl ?_
   have hs136 : HS wb Fb w21 F3 ((sb bz0 #[(.slice az0_0 z0.Tracks.length nz0_0), (.slice as20_1 s20.2.1.length ns20_1), (vi z0.Window)] 25) :: Lf24) := hs22.drop 0
   have hs137 : HS wb Fb w21 F3 Lf24 := hs136.drop 0
   have ho138 := iter_done h135 hnx44
   exact .inl ⟨rfl, (s20.1, s20.2.1, s20.2.2), F3, Lf24, ho138, hs137, le23, e26, hJ25⟩
 ·rintro f w33 ⟨s32, F4, Lf36, rfl, hs34, le35, e38, hJ37⟩
  have h139 := k_done h19
  have hfin := some_inj h139
  subst hfin
  exact ⟨e38, .tuple #[], res_of (l := []) (by kernel_rfl) (vs := []) trivial, F4, Lf36, rfl, hs34, (le7.trans le35), hJ37⟩
end Go.Proofs.Ythbcnabeabcmlaa
namespace Go.Proofs.Ythbcnabeabcmlaa
open Go.Proofs
def clocks_offered_1 (N : Nat) (x0 : Tie) (z0 : System) : Option Bool :=
 (((clocks_has N z0 x0.A).bind fun r12 => (bif (!r12) then some true else ((clocks_has N z0 x0.B).bind fun r24 => some (!r24)))).bind fun j7 => some j7)
theorem co_clocks_offered_1 : CallOk Try.prog 125 := fun _ _ => by kernel_rfl
set_option maxHeartbeats 4000000 in
set_option maxRecDepth 100000 in
theorem c_clocks_offered_1 (N : Nat) (w0 : World) (F0 : Mem) (hF : ∀ b o, F0 b = some o → w0.heap[b]? = some o) (x0 : Tie) (bz0 : Nat) (z0 : System) (az0_0 : Option Addr) (nz0_0 : Nat) (hbz0_0 : LC z0.Tracks.length nz0_0) (hsz0_0 : SlA tTrack F0 az0_0 z0.Tracks) (az0_1 : Option Addr) (nz0_1 : Nat) (hbz0_1 : LC z0.Ties.length nz0_1) (hsz0_1 : SlA tTie F0 az0_1 z0.Ties) (hz0 : F0 bz0 = some (oc (kSystem z0 az0_0 nz0_0 az0_1 nz0_1) 25)) (r : Bool) (h : clocks_offered_1 N x0 z0 = some r) :
  Calls Try.prog 125 ([(.agg (kTie x0)), (.pointer (some ⟨bz0, 0, none⟩))] : List Value).toArray w0 (FRet w0 F0 fun F' v => v = (.bool r)) := by
 have hs0 := HS.start hF
 refine calls_of (n := 16) (c := bodyOf Try.f125) Try.func125 (by kernel_rfl) (by kernel_rfl) (by kernel_rfl) ?_
 refine Sq (Rg [0, 1] ?_)
 refine Bx 2 0 0 46 (kTie x0) hs0 (fun b1 w2 (hs3 : HS w0 F0 w2 F0 [(sb b1 (kTie x0) 46)]) => ?_)
 refine V 3 4 (mc (.bool false) (.bool false)) ?_
 refine Nss (Rg [0, 1, 2, 3, 4, 5, 6, 7, 8, 9, 10, 11, 12] ?_)
 obtain ⟨j7, hj10, h11⟩ := bind_some h
 refine RWP.cut (fun f w => ∃ (F1 : Mem), HS w0 F0 w F1 [] ∧ Mem.le F0 F1 ∧ f.d = [] ∧ f 3 = (.bool j7)) ?_ ?_
 ·refine V 4 25 (ld 25 1 bz0 0 true 3 (.agg (kSystem z0 az0_0 nz0_0 az0_1 nz0_1)) (hs3.pers _ _ hz0)) ?_
  refine V 5 0 (fa 46 2 0 0 2 b1 0 0) ?_
  refine V 6 27 (ld 27 5 b1 0 true 2 (.agg (kRef x0.A)) (hs3.ownAt (k := 0) rfl)) ?_
  obtain ⟨r12, hr13, h14⟩ := bind_some hj10
  refine Cl 7 4 107 #[(.tmp 4), (.tmp 6)] #[25, 27] co_clocks_has hs3 (c_clocks_has N w2 F0 hs3.pers (z0) az0_0 nz0_0 hbz0_0 hsz0_0 az0_1 nz0_1 hbz0_1 hsz0_1 (x0.A) _ hr13) ?_
  intro v15 F2 w16 hs17 le18 hp19
  obtain rfl := hp19
  refine V 8 4 (run_not (t := 4) (x := (.tmp 7)) (a := r12) rfl) ?_
  refine V 9 4 (mv 8 (.bool (!r12))) ?_
  refine RWP.split (!r12) (fun hb20 => ?_) (fun hb20 => ?_)
  ·have h21 := cond_t h14 hb20
   refine Sk [10, 11, 12, 13, 14] 5 false 9 hb20 ?_
   refine V 15 4 (p1 9 (.const (.bool true)) (.tmp 14) (.bool true) hb20) ?_
   refine V 3 4 (ma 15 (.bool true)) ?_
   obtain rfl := some_inj h21
   have hs22 : HS w0 F0 w16 F2 [] := hs17.drop 0
   exact RWP.nil ⟨rfl, F2, hs22, le18, rfl, rfl⟩
  ·have h23 := cond_f h14 hb20
   refine Vg 10 25 5 false 9 hb20 (ld 25 1 bz0 0 true 3 (.agg (kSystem z0 az0_0 nz0_0 az0_1 nz0_1)) (hs17.pers _ _ (le18 _ _ hz0))) ?_
   refine Vg 11 0 5 false 9 hb20 (fa 46 2 1 2 2 b1 0 2) ?_
   refine Vg 12 27 5 false 9 hb20 (ld 27 11 b1 2 true 2 (.agg (kRef x0.B)) (hs17.ownAt (k := 0) rfl)) ?_
   obtain ⟨r24, hr25, h26⟩ := bind_some h23
   refine RWP.call (dst := (some 13)) (ty := 4) (g := (some (5, false))) (by kernel_rfl) (gd_y (d := 9) (by kernel_rfl) rfl hb20) (f0 := (.func 107)) (aos := #[(.tmp 10), (.tmp 12)]) (ats := #[25, 27]) (fid := 107) (first := #[]) (cap := #[]) (args := [(.agg (kSystem z0 az0_0 nz0_0 az0_1 nz0_1)), (.agg (kRef x0.B))]) rfl co_clocks_has (rfl) hs17 (c_clocks_has N w16 F2 hs17.pers (z0) az0_0 nz0_0 hbz0_0 (SlA.mono hsz0_0 le18) az0_1 nz0_1 hbz0_1 (SlA.mono hsz0_1 le18) (x0.B) _ hr25) ?_
   intro v27 F3 w28 hs29 le30 hp31
   obtain rfl := hp31
   refine Vg 14 4 5 false 9 hb20 (run_not (t := 4) (x := (.tmp 13)) (a := r24) rfl) ?_
   refine V 15 4 (p0 9 (.const (.bool true)) (.tmp 14) (.bool (!r24)) hb20) ?_
   refine V 3 4 (ma 15 (.bool (!r24))) ?_
   obtain rfl := some_inj h26
   have hs32 : HS w0 F0 w28 F3 [] := hs29.drop 0
   exact RWP.nil ⟨rfl, F3, hs32, (le18.trans le30), rfl, rfl⟩
 ·rintro f w4 ⟨F1, hs5, le6, e8, e9⟩
  refine thenQ_nrm ?_
  refine CWP.ret (by kernel_rfl) ?_
  have hfin := some_inj h11
  subst hfin
  exact ⟨e8, (.bool j7), res_of (l := [.tmp 3]) (by kernel_rfl) (vs := [(.bool j7)]) ⟨e9, trivial⟩, (.bool j7), F1, rfl, hs5.clear, rfl⟩
end Go.Proofs.Ythbcnabeabcmlaa
namespace Go.Proofs.Ythbcnabeabcmlaa
open Go.Proofs
def clocks_offered_2 (N : Nat) (x0 : Tie) (z0 : System) : Option Bool :=
 ((clocks_tied N z0 x0).bind fun r4 => some (!r4))
theorem co_clocks_offered_2 : CallOk Try.prog 126 := fun _ _ => by kernel_rfl
set_option maxHeartbeats 4000000 in
set_option maxRecDepth 100000 in
theorem c_clocks_offered_2 (N : Nat) (w0 : World) (F0 : Mem) (hF : ∀ b o, F0 b = some o → w0.heap[b]? = some o) (x0 : Tie) (bz0 : Nat) (z0 : System) (az0_0 : Option Addr) (nz0_0 : Nat) (hbz0_0 : LC z0.Tracks.length nz0_0) (hsz0_0 : SlA tTrack F0 az0_0 z0.Tracks) (az0_1 : Option Addr) (nz0_1 : Nat) (hbz0_1 : LC z0.Ties.length nz0_1) (hsz0_1 : SlA tTie F0 az0_1 z0.Ties) (hz0 : F0 bz0 = some (oc (kSystem z0 az0_0 nz0_0 az0_1 nz0_1) 25)) (r : Bool) (h : clocks_offered_2 N x0 z0 = some r) :
  Calls Try.prog 126 ([(.agg (kTie x0)), (.pointer (some ⟨bz0, 0, none⟩))] : List Value).toArray w0 (FRet w0 F0 fun F' v => v = (.bool r)) := by
 have hs0 := HS.start hF
 refine calls_of (n := 8) (c := bodyOf Try.f126) Try.func126 (by kernel_rfl) (by kernel_rfl) (by kernel_rfl) ?_
 refine Sq (Rg [0, 1] ?_)
 refine Bx 2 0 0 46 (kTie x0) hs0 (fun b1 w2 (hs3 : HS w0 F0 w2 F0 [(sb b1 (kTie x0) 46)]) => ?_)
 refine V 3 4 (mc (.bool false) (.bool false)) ?_
 refine Nss (Rg [0, 1, 2, 3, 4] ?_)
 refine V 4 25 (ld 25 1 bz0 0 true 3 (.agg (kSystem z0 az0_0 nz0_0 az0_1 nz0_1)) (hs3.pers _ _ hz0)) ?_
 refine V 5 46 (ld 46 2 b1 0 true 4 (.agg (kTie x0)) (hs3.ownAt (k := 0) rfl)) ?_
 obtain ⟨r4, hr5, h6⟩ := bind_some h
 refine Cl 6 4 70 #[(.tmp 4), (.tmp 5)] #[25, 46] co_clocks_tied hs3 (c_clocks_tied N w2 F0 hs3.pers (z0) az0_0 nz0_0 hbz0_0 hsz0_0 az0_1 nz0_1 hbz0_1 hsz0_1 (x0) _ hr5) ?_
 intro v7 F1 w8 hs9 le10 hp11
 obtain rfl := hp11
 refine V 7 4 (run_not (t := 4) (x := (.tmp 6)) (a := r4) rfl) ?_
 refine V 3 4 (ma 7 (.bool (!r4))) ?_
 refine Nt ?_
 refine CWP.ret (by kernel_rfl) ?_
 have hfin := some_inj h6
 subst hfin
 exact ⟨rfl, (.bool (!r4)), res_of (l := [.tmp 3]) (by kernel_rfl) (vs := [(.bool (!r4))]) ⟨rfl, trivial⟩, (.bool (!r4)), F1, rfl, hs9.clear, rfl⟩
end Go.Proofs.Ythbcnabeabcmlaa
namespace Go.Proofs.Ythbcnabeabcmlaa
open Go.Proofs
def clocks_offered (N : Nat) (x0 : System) (x1 : (List Tie)) (x2 : Bool) : Option Int :=
 ((clocks_Check N x0).bind fun r4 => (bif (r4 != 0) then some r4 else ((slices_ContainsFunc_api_Tie_api_Tie N x1 (fun y0 => clocks_offered_1 N y0 x0)).bind fun r18 => (bif r18 then some 3 else ((bif (!x2) then some true else ((slices_ContainsFunc_api_Tie_api_Tie N x1 (fun y0 => clocks_offered_2 N y0 x0)).bind fun r42 => some r42)).bind fun j32 => (bif j32 then some 1 else ((clocks_loopOf N x0).bind fun r53 => (bif (!r53.isEmpty) then some 31 else (bif (decide ((W64 ((x0.Ties.length : Int) + (x1.length : Int))) > 400)) then some 2 else some 0)))))))))
theorem co_clocks_offered : CallOk Try.prog 86 := fun _ _ => by kernel_rfl
set_option maxHeartbeats 4000000 in
set_option maxRecDepth 100000 in
theorem c_clocks_offered (N : Nat) (w0 : World) (F0 : Mem) (hF : ∀ b o, F0 b = some o → w0.heap[b]? = some o) (x0 : System) (a0_0 : Option Addr) (n0_0 : Nat) (hb0_0 : LC x0.Tracks.length n0_0) (hs0_0 : SlA tTrack F0 a0_0 x0.Tracks) (a0_1 : Option Addr) (n0_1 : Nat) (hb0_1 : LC x0.Ties.length n0_1) (hs0_1 : SlA tTie F0 a0_1 x0.Ties) (x1 : (List Tie)) (a1_0 : Option Addr) (n1_0 : Nat) (hb1_0 : LC x1.length n1_0) (hs1_0 : SlA tTie F0 a1_0 x1) (x2 : Bool) (r : Int) (h : clocks_offered N x0 x1 x2 = some r) :
  Calls Try.prog 86 ([(.agg (kSystem x0 a0_0 n0_0 a0_1 n0_1)), (.slice a1_0 x1.length n1_0), (.bool x2)] : List Value).toArray w0 (FRet w0 F0 fun F' v => v = (vi r)) := by
 have hs0 := HS.start hF
 refine calls_of (n := 36) (c := bodyOf Try.f86) Try.func86 (by kernel_rfl) (by kernel_rfl) (by kernel_rfl) ?_
 refine Sq (Rg [0, 1] ?_)
 refine Bx 3 0 0 25 (kSystem x0 a0_0 n0_0 a0_1 n0_1) hs0 (fun b1 w2 (hs3 : HS w0 F0 w2 F0 [(sb b1 (kSystem x0 a0_0 n0_0 a0_1 n0_1) 25)]) => ?_)
 refine V 6 30 (mc (vi 0) (vi 0)) ?_
 refine Nss ?_
 refine Sq (Rg [0, 1, 2] ?_)
 refine V 8 25 (ld 25 3 b1 0 true 3 (.agg (kSystem x0 a0_0 n0_0 a0_1 n0_1)) (hs3.ownAt (k := 0) rfl)) ?_
 obtain ⟨r4, hr5, h6⟩ := bind_some h
 refine Cl 9 30 17 #[(.tmp 8)] #[25] co_clocks_Check hs3 (c_clocks_Check N w2 F0 hs3.pers (x0) a0_0 n0_0 hb0_0 hs0_0 a0_1 n0_1 hb0_1 hs0_1 _ hr5) ?_
 intro v7 F1 w8 hs9 le10 hp11
 obtain rfl := hp11
 refine V 7 30 (ma 9 (vi r4)) ?_
 refine Nss (Rg [0, 1] ?_)
 refine V 10 30 (mv 7 (vi r4)) ?_
 refine V 11 4 (run_neq (t := 30) (t' := 30) (x := (.tmp 10)) (y := (.const (vi 0))) (k := .i64) (a := r4) (b := 0) rfl rfl) ?_
 refine Nt ?_
 refine CWP.cond (t := (r4 != 0)) (by kernel_rfl) rfl (fun hb12 => ?_) (fun hb12 => ?_)
 ·have h13 := cond_t h6 hb12
  refine Sq (Rg [0, 1] ?_)
  refine V 12 30 (mv 7 (vi r4)) ?_
  refine V 6 30 (ma 12 (vi r4)) ?_
  refine Nt ?_
  refine CWP.ret (by kernel_rfl) ?_
  refine thenQ_ret ?_
  have hfin := some_inj h13
  subst hfin
  exact ⟨rfl, (vi r4), res_of (l := [.tmp 6]) (by kernel_rfl) (vs := [(vi r4)]) ⟨rfl, trivial⟩, (vi r4), F1, rfl, hs9.clear, rfl⟩
 ·have h14 := cond_f h6 hb12
  refine Sc ?_
  refine thenQ_nrm ?_
  refine Sq ?_
  refine Sq (Rg [0, 1, 2] ?_)
  refine V 13 23 (mv 1 (.slice a1_0 x1.length n1_0)) ?_
  refine V 14 91 (run_makeFunc (fn := .func 125) (first := #[]) (cap := #[(.tmp 3)]) (fl := []) (cl := [(.pointer (some ⟨b1, 0, none⟩))]) rfl (rfl)) ?_
  obtain ⟨F2, hs15, le16, hF17⟩ : ∃ Fq, HS w0 F0 w8 Fq [] ∧ Mem.le F1 Fq ∧ Fq b1 = some (oc (kSystem x0 a0_0 n0_0 a0_1 n0_1) 25) := HS.freezeC hs9 (k := 0) rfl
  obtain ⟨r18, hr19, h20⟩ := bind_some h14
  refine Cl 15 4 68 #[(.tmp 13), (.tmp 14)] #[23, 91] co_slices_ContainsFunc_api_Tie_api_Tie hs15 (c_slices_ContainsFunc_api_Tie_api_Tie N w8 F2 hs15.pers (x1) a1_0 n1_0 hb1_0 (SlA.mono hs1_0 (le10.trans le16)) 125 [] [(.pointer (some ⟨b1, 0, none⟩))] (fun y0 => clocks_offered_1 N y0 x0) co_clocks_offered_1 (fun w1 F1 y0 r le1 pe1 hr1 => c_clocks_offered_1 N w1 F1 pe1  y0 b1 x0 a0_0 n0_0 hb0_0 (SlA.mono (SlA.mono hs0_0 (le10.trans le16)) le1) a0_1 n0_1 hb0_1 (SlA.mono (SlA.mono hs0_1 (le10.trans le16)) le1) (le1 _ _ hF17) r hr1) _ hr19) ?_
  intro v21 F3 w22 hs23 le24 hp25
  obtain rfl := hp25
  refine Nt ?_
  refine CWP.cond (t := r18) (by kernel_rfl) rfl (fun hb26 => ?_) (fun hb26 => ?_)
  ·have h27 := cond_t h20 hb26
   refine Sq (Rg [0] ?_)
   refine V 6 30 (mc (vi 3) (vi 3)) ?_
   refine Nt ?_
   refine CWP.ret (by kernel_rfl) ?_
   refine thenQ_ret ?_
   have hfin := some_inj h27
   subst hfin
   exact ⟨rfl, (vi 3), res_of (l := [.tmp 6]) (by kernel_rfl) (vs := [(vi 3)]) ⟨rfl, trivial⟩, (vi 3), F3, rfl, hs23.clear, rfl⟩
  ·have h28 := cond_f h20 hb26
   refine Sc ?_
   refine thenQ_nrm ?_
   refine Sq ?_
   refine Bk ?_
   refine Sq (Rg [0, 1, 2, 3, 4, 5, 6, 7] ?_)
   obtain ⟨j32, hj37, h38⟩ := bind_some h28
   refine RWP.cut (fun f w => ∃ (F4 : Mem), HS w0 F0 w F4 [] ∧ Mem.le F3 F4 ∧ f.d = [] ∧ f 1 = (.slice a1_0 x1.length n1_0) ∧ f 3 = (.pointer (some ⟨b1, 0, none⟩)) ∧ f 16 = (.bool j32)) ?_ ?_
   ·refine V 17 4 (mv 2 (.bool x2)) ?_
    refine V 18 4 (run_not (t := 4) (x := (.tmp 17)) (a := x2) rfl) ?_
    refine V 19 4 (mv 18 (.bool (!x2))) ?_
    refine RWP.split (!x2) (fun hb39 => ?_) (fun hb39 => ?_)
    ·have h40 := cond_t hj37 hb39
     refine Sk [20, 21, 22] 2 false 19 hb39 ?_
     refine V 23 4 (p1 19 (.const (.bool true)) (.tmp 22) (.bool true) hb39) ?_
     refine V 16 4 (ma 23 (.bool true)) ?_
     obtain rfl := some_inj h40
     exact RWP.nil ⟨rfl, F3, hs23, (Mem.le.refl _), rfl, rfl, rfl, rfl⟩
    ·have h41 := cond_f hj37 hb39
     refine Vg 20 23 2 false 19 hb39 (mv 1 (.slice a1_0 x1.length n1_0)) ?_
     refine Vg 21 91 2 false 19 hb39 (run_makeFunc (fn := .func 126) (first := #[]) (cap := #[(.tmp 3)]) (fl := []) (cl := [(.pointer (some ⟨b1, 0, none⟩))]) rfl (rfl)) ?_
     obtain ⟨r42, hr43, h44⟩ := bind_some h41
     refine RWP.call (dst := (some 22)) (ty := 4) (g := (some (2, false))) (by kernel_rfl) (gd_y (d := 19) (by kernel_rfl) rfl hb39) (f0 := (.func 68)) (aos := #[(.tmp 20), (.tmp 21)]) (ats := #[23, 91]) (fid := 68) (first := #[]) (cap := #[]) (args := [(.slice a1_0 x1.length n1_0), (.func (.func 126) #[] #[(.pointer (some ⟨b1, 0, none⟩))])]) rfl co_slices_ContainsFunc_api_Tie_api_Tie (rfl) hs23 (c_slices_ContainsFunc_api_Tie_api_Tie N w22 F3 hs23.pers (x1) a1_0 n1_0 hb1_0 (SlA.mono hs1_0 ((le10.trans le16).trans le24)) 126 [] [(.pointer (some ⟨b1, 0, none⟩))] (fun y0 => clocks_offered_2 N y0 x0) co_clocks_offered_2 (fun w1 F1 y0 r le1 pe1 hr1 => c_clocks_offered_2 N w1 F1 pe1  y0 b1 x0 a0_0 n0_0 hb0_0 (SlA.mono (SlA.mono hs0_0 ((le10.trans le16).trans le24)) le1) a0_1 n0_1 hb0_1 (SlA.mono (SlA.mono hs0_1 ((le10.trans le16).trans le24)) le1) (le1 _ _ (le24 _ _ hF17)) r hr1) _ hr43) ?_
     intro v45 F5 w46 hs47 le48 hp49
     obtain rfl := hp49
     refine V 23 4 (p0 19 (.const (.bool true)) (.tmp 22) (.bool r42) hb39) ?_
     refine V 16 4 (ma 23 (.bool r42)) ?_
     obtain rfl := some_inj h44
     exact RWP.nil ⟨rfl, F5, hs47, le48, rfl, rfl, rfl, rfl⟩
   ·rintro f w29 ⟨F4, hs30, le31, e33, e34, e35, e36⟩
    refine thenQ_nrm ?_
    refine CWP.cond (t := j32) (by kernel_rfl) e36 (fun hb50 => ?_) (fun hb50 => ?_)
    ·have h51 := cond_t h38 hb50
     refine Sq (Rg [0] ?_)
     refine V 6 30 (mc (vi 1) (vi 1)) ?_
     refine Nt ?_
     refine CWP.ret (by kernel_rfl) ?_
     refine blockQ_ret ?_
     refine thenQ_ret ?_
     have hfin := some_inj h51
     subst hfin
     exact ⟨e33, (vi 1), res_of (l := [.tmp 6]) (by kernel_rfl) (vs := [(vi 1)]) ⟨rfl, trivial⟩, (vi 1), F4, rfl, hs30.clear, rfl⟩
    ·have h52 := cond_f h38 hb50
     refine Sq (Rg [0, 1, 2, 3] ?_)
     refine V 25 25 (ld 25 3 b1 0 true 3 (.agg (kSystem x0 a0_0 n0_0 a0_1 n0_1)) (hs30.pers _ _ ((le24.trans le31) _ _ hF17)) e35) ?_
     obtain ⟨r53, hr54, h55⟩ := bind_some h52
     refine Cl 26 57 103 #[(.tmp 25)] #[25] co_clocks_loopOf hs30 (c_clocks_loopOf N w29 F4 hs30.pers (x0) a0_0 n0_0 hb0_0 (SlA.mono hs0_0 (((le10.trans le16).trans le24).trans le31)) a0_1 n0_1 hb0_1 (SlA.mono hs0_1 (((le10.trans le16).trans le24).trans le31)) _ hr54) ?_
     intro v56 F6 w57 hs58 le59 hp60
     obtain ⟨ar53_0_0, nr53_0_0, rfl, hbr53_0_0, hsr53_0_0, nf61, fr62⟩ := hp60
     refine V 27 4 (run_nenil' (e := 103) (t := 57) (t' := 57) (x := (.tmp 26)) (y := (.const (.slice none 0 0))) hsr53_0_0 nf61 rfl rfl (by kernel_rfl)) ?_
     refine V 24 4 (ma 27 (.bool (!r53.isEmpty))) ?_
     refine Nt ?_
     refine CWP.cond (t := (!r53.isEmpty)) (by kernel_rfl) rfl (fun hb63 => ?_) (fun hb63 => ?_)
     ·have h64 := cond_t h55 hb63
      refine Sq (Rg [0] ?_)
      refine V 6 30 (mc (vi 31) (vi 31)) ?_
      refine Nt ?_
      refine CWP.ret (by kernel_rfl) ?_
      refine blockQ_ret ?_
      refine thenQ_ret ?_
      have hfin := some_inj h64
      subst hfin
      exact ⟨e33, (vi 31), res_of (l := [.tmp 6]) (by kernel_rfl) (vs := [(vi 31)]) ⟨rfl, trivial⟩, (vi 31), F6, rfl, hs58.clear, rfl⟩
     ·have h65 := cond_f h55 hb63
      refine Sq (Rg [0, 1, 2, 3, 4, 5, 6, 7] ?_)
      refine V 29 0 (fa 25 3 1 1 1 b1 0 1 e35) ?_
      refine V 30 23 (ld 23 29 b1 1 false 1 (.slice a0_1 x0.Ties.length n0_1) (hs58.pers _ _ (((le24.trans le31).trans le59) _ _ hF17))) ?_
      refine V 31 3 (ln 30 23 a0_1 x0.Ties.length n0_1 46 4 32) ?_
      refine V 32 23 (mv 1 (.slice a1_0 x1.length n1_0) e34) ?_
      refine V 33 3 (ln 32 23 a1_0 x1.length n1_0 46 4 32) ?_
      refine V 34 3 (run_add (t := 3) (t' := 3) (x := (.tmp 31)) (y := (.tmp 33)) (k := .i64) (a := (x0.Ties.length : Int)) (b := (x1.length : Int)) rfl rfl) ?_
      refine V 35 4 (run_gtr (t := 3) (t' := 3) (x := (.tmp 34)) (y := (.const (vi 400))) (k := .i64) (a := (W64 ((x0.Ties.length : Int) + (x1.length : Int)))) (b := 400) rfl rfl) ?_
      refine V 28 4 (ma 35 (.bool (decide ((W64 ((x0.Ties.length : Int) + (x1.length : Int))) > 400)))) ?_
      refine Nt ?_
      refine CWP.cond (t := (decide ((W64 ((x0.Ties.length : Int) + (x1.length : Int))) > 400))) (by kernel_rfl) rfl (fun hb66 => ?_) (fun hb66 => ?_)
      ·have h67 := cond_t h65 hb66
       refine Sq (Rg [0] ?_)
       refine V 6 30 (mc (vi 2) (vi 2)) ?_
       refine Nt ?_
       refine CWP.ret (by kernel_rfl) ?_
       refine blockQ_ret ?_
       refine thenQ_ret ?_
       have hfin := some_inj h67
       subst hfin
       exact ⟨e33, (vi 2), res_of (l := [.tmp 6]) (by kernel_rfl) (vs := [(vi 2)]) ⟨rfl, trivial⟩, (vi 2), F6, rfl, hs58.clear, rfl⟩
      ·have h68 := cond_f h65 hb66
       refine Sc ?_
       refine blockQ_nrm ?_
       refine thenQ_nrm ?_
       refine Sq (Rg [0] ?_)
       refine V 6 30 (mc (vi 0) (vi 0)) ?_
       refine Nt ?_
       refine CWP.ret (by kernel_rfl) ?_
       have hfin := some_inj h68
       subst hfin
       exact ⟨e33, (vi 0), res_of (l := [.tmp 6]) (by kernel_rfl) (vs := [(vi 0)]) ⟨rfl, trivial⟩, (vi 0), F6, rfl, hs58.clear, rfl⟩
end Go.Proofs.Ythbcnabeabcmlaa
namespace Go.Proofs.Ythbcnabeabcmlaa
open Go.Proofs
theorem co_clocks_added : CallOk Try.prog 87 := fun _ _ => by kernel_rfl
set_option maxRecDepth 100000 in
theorem c_clocks_added (w0 : World) (F0 : Mem) (hF : ∀ b o, F0 b = some o → w0.heap[b]? = some o) (x0 : System) (a0_0 : Option Addr) (n0_0 : Nat) (_ : LC x0.Tracks.length n0_0) (_ : SlA tTrack F0 a0_0 x0.Tracks) (a0_1 : Option Addr) (n0_1 : Nat) (_ : LC x0.Ties.length n0_1) (_ : SlA tTie F0 a0_1 x0.Ties) (x1 : List Tie) (a1_0 : Option Addr) (n1_0 : Nat) (_ : LC x1.length n1_0) (_ : SlA tTie F0 a1_0 x1) :
  Calls Try.prog 87 ([(.agg (kSystem x0 a0_0 n0_0 a0_1 n0_1)), (.slice a1_0 x1.length n1_0)] : List Value).toArray w0 (FRetO w0 F0 fun _ v L' => ∃ (b0 b1 : Nat), v = .func (.func 127) #[] #[.pointer (some ⟨b0, 0, none⟩), .pointer (some ⟨b1, 0, none⟩)] ∧ L' = [(some b1, .cells #[(.slice a1_0 x1.length n1_0)] 23 (0, 0)), (some b0, .cells (kSystem x0 a0_0 n0_0 a0_1 n0_1) 25 (0, 0))]) := by
 have hs0 := HS.start hF
 refine calls_of (n := 6) (c := bodyOf Try.f87) Try.func87 (by kernel_rfl) (by kernel_rfl) (by kernel_rfl) ?_
 refine CWP.seq (by kernel_rfl) ?_
 refine CWP.region (l := [0, 1, 2]) (by kernel_rfl) (by kernel_rfl) (by kernel_rfl) ?_
 refine RWP.box (dst := (some 2)) (ty := 0) (g := none) (by kernel_rfl) rfl (x := (.tmp 0)) (t := 25) (v := (.agg (kSystem x0 a0_0 n0_0 a0_1 n0_1))) rfl (C := (kSystem x0 a0_0 n0_0 a0_1 n0_1)) rfl hs0 (fun b0 w1 hs1 => ?_)
 refine RWP.box (dst := (some 3)) (ty := 0) (g := none) (by kernel_rfl) rfl (x := (.tmp 1)) (t := 23) (v := (.slice a1_0 x1.length n1_0)) rfl (C := #[(.slice a1_0 x1.length n1_0)]) rfl hs1 (fun b1 w2 hs2 => ?_)
 refine RWP.val (dst := (some 4)) (ty := 120) (g := none) (by kernel_rfl) rfl (run_assign (x := (.const .nilFunc)) (v := .nilFunc) rfl) ?_
 refine RWP.nil ?_
 refine thenQ_nrm ?_
 refine CWP.seq (by kernel_rfl) ?_
 refine CWP.region (l := [0, 1]) (by kernel_rfl) (by kernel_rfl) (by kernel_rfl) ?_
 refine RWP.val (dst := some 5) (ty := 119) (g := none) (by kernel_rfl) rfl (run_makeFunc (fn := .func 127) (first := #[]) (cap := #[.tmp 2, .tmp 3]) (fl := []) (cl := [.pointer (some ⟨b0, 0, none⟩), .pointer (some ⟨b1, 0, none⟩)]) rfl rfl) ?_
 refine RWP.val (dst := (some 4)) (ty := 120) (g := none) (by kernel_rfl) rfl (run_assign (x := (.tmp 5)) (v := .func (.func 127) #[] #[.pointer (some ⟨b0, 0, none⟩), .pointer (some ⟨b1, 0, none⟩)]) rfl) ?_
 refine RWP.nil ?_
 refine thenQ_nrm ?_
 refine CWP.ret (by kernel_rfl) ?_
 exact ⟨rfl, _, res_of (l := [.tmp 4]) (by kernel_rfl) (vs := [.func (.func 127) #[] #[.pointer (some ⟨b0, 0, none⟩), .pointer (some ⟨b1, 0, none⟩)]]) ⟨rfl, trivial⟩, _, F0, _, rfl, hs2, b0, b1, rfl, rfl⟩
end Go.Proofs.Ythbcnabeabcmlaa
namespace Go.Proofs.Ythbcnabeabcmlaa
open Go.Proofs
def clocks_Accept_L0 (N : Nat) (x0 : System) (x1 : (List Tie)) (r4 : Int) : (List Bool) → (Bool × (List Bound)) → Option (List Bool) := fun s33 ⟨y55, y56⟩ =>
 ((apnd s33 [y55]).bind fun r68 => some r68)
def clocks_Accept (N : Nat) (x0 : System) (x1 : (List Tie)) : Option ((List Bool) × Int) :=
 ((clocks_offered N x0 x1 true).bind fun r4 => (bif (r4 != 0) then some (([] : List Bool), r4) else ((clocks_added_1 N (fun st x => ((clocks_Accept_L0 N x0 x1 r4) st x).map fun t => (true, t)) x0 x1 ([] : List Bool)).bind fun r41 => some (r41, 0))))
theorem co_clocks_Accept : CallOk Try.prog 42 := fun _ _ => by kernel_rfl
set_option maxHeartbeats 4000000 in
set_option maxRecDepth 100000 in
theorem c_clocks_Accept (N : Nat) (w0 : World) (F0 : Mem) (hF : ∀ b o, F0 b = some o → w0.heap[b]? = some o) (x0 : System) (a0_0 : Option Addr) (n0_0 : Nat) (hb0_0 : LC x0.Tracks.length n0_0) (hs0_0 : SlA tTrack F0 a0_0 x0.Tracks) (a0_1 : Option Addr) (n0_1 : Nat) (hb0_1 : LC x0.Ties.length n0_1) (hs0_1 : SlA tTie F0 a0_1 x0.Ties) (x1 : (List Tie)) (a1_0 : Option Addr) (n1_0 : Nat) (hb1_0 : LC x1.length n1_0) (hs1_0 : SlA tTie F0 a1_0 x1) (r : ((List Bool) × Int)) (h : clocks_Accept N x0 x1 = some r) :
  Calls Try.prog 42 ([(.agg (kSystem x0 a0_0 n0_0 a0_1 n0_1)), (.slice a1_0 x1.length n1_0)] : List Value).toArray w0 (FRet w0 F0 fun F' v => ∃ (aq0_0 : Option Addr) (nq0_0 : Nat), v = (.tuple #[(.slice aq0_0 r.1.length nq0_0), (vi r.2)]) ∧ LC r.1.length nq0_0 ∧ SlA tBool F' aq0_0 r.1) := by
 have hs0 := HS.start hF
 refine calls_ofM (n := 25) (c := bodyOf Try.f42) Try.func42 (by kernel_rfl) (by kernel_rfl) (by kernel_rfl) ?_
 refine Sq (Rg [0, 1, 2] ?_)
 refine Bx 2 0 0 25 (kSystem x0 a0_0 n0_0 a0_1 n0_1) hs0 (fun b1 w2 (hs3 : HS w0 F0 w2 F0 [(sb b1 (kSystem x0 a0_0 n0_0 a0_1 n0_1) 25)]) => ?_)
 refine V 4 64 (mc (.slice none 0 0) (.slice none ([] : List Bool).length 0)) ?_
 refine V 5 30 (mc (vi 0) (vi 0)) ?_
 refine Nss ?_
 refine Sq (Rg [0, 1, 2, 3] ?_)
 refine V 9 25 (ld 25 2 b1 0 true 3 (.agg (kSystem x0 a0_0 n0_0 a0_1 n0_1)) (hs3.ownAt (k := 0) rfl)) ?_
 refine V 10 23 (mv 1 (.slice a1_0 x1.length n1_0)) ?_
 obtain ⟨r4, hr5, h6⟩ := bind_some h
 refine Cl 11 30 86 #[(.tmp 9), (.tmp 10), (.const (.bool true))] #[25, 23, 4] co_clocks_offered hs3 (c_clocks_offered N w2 F0 hs3.pers (x0) a0_0 n0_0 hb0_0 hs0_0 a0_1 n0_1 hb0_1 hs0_1 (x1) a1_0 n1_0 hb1_0 hs1_0 (true) _ hr5) ?_
 intro v7 F1 w8 hs9 le10 hp11
 obtain rfl := hp11
 refine V 6 30 (ma 11 (vi r4)) ?_
 refine Nss (Rg [0, 1] ?_)
 refine V 12 30 (mv 6 (vi r4)) ?_
 refine V 13 4 (run_neq (t := 30) (t' := 30) (x := (.tmp 12)) (y := (.const (vi 0))) (k := .i64) (a := r4) (b := 0) rfl rfl) ?_
 refine Nt ?_
 refine CWP.cond (t := (r4 != 0)) (by kernel_rfl) rfl (fun hb12 => ?_) (fun hb12 => ?_)
 ·have h13 := cond_t h6 hb12
  refine Sq (Rg [0, 1, 2] ?_)
  refine V 14 30 (mv 6 (vi r4)) ?_
  refine V 4 64 (mc (.slice none 0 0) (.slice none ([] : List Bool).length 0)) ?_
  refine V 5 30 (ma 14 (vi r4)) ?_
  refine Nt ?_
  refine CWP.ret (by kernel_rfl) ?_
  refine thenQ_ret ?_
  have hfin := some_inj h13
  subst hfin
  exact .inl ⟨rfl, (.tuple #[(.slice none ([] : List Bool).length 0), (vi r4)]), res_of (l := [.tmp 4, .tmp 5]) (by kernel_rfl) (vs := [(.slice none ([] : List Bool).length 0), (vi r4)]) ⟨rfl, ⟨rfl, trivial⟩⟩, (.tuple #[(.slice none ([] : List Bool).length 0), (vi r4)]), F1, rfl, hs9.clear, ⟨none, 0, rfl, LC.nil, (.inl rfl)⟩⟩
 ·have h14 := cond_f h6 hb12
  refine Sc ?_
  refine thenQ_nrm ?_
  refine Sq (Rg [0] ?_)
  refine RWP.alloc (dst := (some 7)) (ty := 0) (g := none) (by kernel_rfl) rfl (t := 64) (z := (.slice none ([] : List Bool).length 0)) (by kernel_rfl) (C := #[(.slice none ([] : List Bool).length 0)]) rfl hs9 (fun b15 w16 (hs17 : HS w0 F0 w16 F1 [(sb b15 #[(.slice none ([] : List Bool).length 0)] 64), (sb b1 (kSystem x0 a0_0 n0_0 a0_1 n0_1) 25)]) => ?_)
  refine Nss ?_
  refine Sq (Rg [0, 1, 2] ?_)
  refine V 15 25 (ld 25 2 b1 0 true 3 (.agg (kSystem x0 a0_0 n0_0 a0_1 n0_1)) (hs17.ownAt (k := 1) rfl)) ?_
  refine V 16 23 (mv 1 (.slice a1_0 x1.length n1_0)) ?_
  refine RWP.callO (dst := (some 17)) (ty := 120) (g := none) (by kernel_rfl) rfl (f0 := (.func 87)) (aos := #[(.tmp 15), (.tmp 16)]) (ats := #[25, 23]) (fid := 87) (first := #[]) (cap := #[]) (args := [(.agg (kSystem x0 a0_0 n0_0 a0_1 n0_1)), (.slice a1_0 x1.length n1_0)]) rfl co_clocks_added (rfl) hs17 (c_clocks_added w16 F1 hs17.pers (x0) a0_0 n0_0 hb0_0 (SlA.mono hs0_0 le10) a0_1 n0_1 hb0_1 (SlA.mono hs0_1 le10) (x1) a1_0 n1_0 hb1_0 (SlA.mono hs1_0 le10)) ?_
  rintro _ F2 w20 _ hs21 le22 ⟨b18, b19, rfl, rfl⟩
  have hs23 : HS w0 F0 w20 F2 [(sb b19 #[(.slice a1_0 x1.length n1_0)] 23), (sb b18 (kSystem x0 a0_0 n0_0 a0_1 n0_1) 25), (sb b15 #[(.slice none ([] : List Bool).length 0)] 64), (sb b1 (kSystem x0 a0_0 n0_0 a0_1 n0_1) 25)] := hs21
  refine Nt ?_
  refine Bk ?_
  obtain ⟨F3, hs24, le25, hF26⟩ : ∃ Fq, HS w0 F0 w20 Fq [(sb b18 (kSystem x0 a0_0 n0_0 a0_1 n0_1) 25), (sb b15 #[(.slice none ([] : List Bool).length 0)] 64), (sb b1 (kSystem x0 a0_0 n0_0 a0_1 n0_1) 25)] ∧ Mem.le F2 Fq ∧ Fq b19 = some (oc #[(.slice a1_0 x1.length n1_0)] 23) := HS.freezeC hs23 (k := 0) rfl
  have hs27 : HS w0 F0 w20 F3 [(sb b18 (kSystem x0 a0_0 n0_0 a0_1 n0_1) 25), (sb b15 #[(.slice none ([] : List Bool).length 0)] 64)] := hs24.drop 2
  have hs28 : HS w0 F0 w20 F3 [(none, .cells #[] 0 (0, 0)), (sb b18 (kSystem x0 a0_0 n0_0 a0_1 n0_1) 25), (sb b15 #[(.slice none ([] : List Bool).length 0)] 64)] := hs27.dummy _
  have hs30 : HS w0 F0 w20 F3 [(sb b15 #[(.slice none ([] : List Bool).length 0)] 64), (none, .cells #[] 0 (0, 0)), (sb b18 (kSystem x0 a0_0 n0_0 a0_1 n0_1) 25)] := hs28.pick (k := 2) rfl
  have hs31 : HS w0 F0 w20 F3 [(none, .cells #[] 0 (0, 0)), (sb b15 #[(.slice none ([] : List Bool).length 0)] 64), (sb b18 (kSystem x0 a0_0 n0_0 a0_1 n0_1) 25)] := hs30.pick (k := 1) rfl
  have hs32 : HS w0 F0 w20 F3 [(sb b18 (kSystem x0 a0_0 n0_0 a0_1 n0_1) 25), (none, .cells #[] 0 (0, 0)), (sb b15 #[(.slice none ([] : List Bool).length 0)] 64)] := hs31.pick (k := 2) rfl
  obtain ⟨r41, hr42, h43⟩ := bind_some h14
  refine CWP.rangeFunc (enc := enc155) (ok := ok155) (px := px155) (m := fun {_} y s => clocks_added_1 N y x0 x1 s) (L := [(none, .cells #[] 0 (0, 0)), (sb b15 #[(.slice none ([] : List Bool).length 0)] 64)]) (B := [(sb b18 (kSystem x0 a0_0 n0_0 a0_1 n0_1) 25)]) (ps := [18, 19]) (by kernel_rfl) (gf := 127) (cap := [(.pointer (some ⟨b18, 0, none⟩)), (.pointer (some ⟨b19, 0, none⟩))]) rfl co_clocks_added_1 rfl (by kernel_rfl) (by kernel_rfl) (by rintro ⟨_, _, _, _⟩; rfl) hs32 (c_clocks_added_1 N F3 x0 a0_0 n0_0 hb0_0 (SlA.mono hs0_0 ((le10.trans le22).trans le25)) a0_1 n0_1 hb0_1 (SlA.mono hs0_1 ((le10.trans le22).trans le25)) b18 x1 a1_0 n1_0 hb1_0 (SlA.mono hs1_0 ((le10.trans le22).trans le25)) b19 hF26) (fun st x => ((clocks_Accept_L0 N x0 x1 r4) st x).map fun t => (true, t)) (fun (s33 : (List Bool)) (F4 : Mem) (Lq : Own) => ∃ (as33_0 : Option Addr) (ns33_0 : Nat) (es33_0 : Option Nat × Obj), Lq = [es33_0, (sb b15 #[(.slice as33_0 s33.length ns33_0)] 64)] ∧ RowR tBool 4 F4 as33_0 ns33_0 s33 es33_0) ?_ (s := ([] : List Bool)) (r := r41) ?_ hr42 (fun _ _ _ h => (map_true h).1) ?_ ?_
  ·rintro s F F' L ⟨as33_0, ns33_0, es33_0, rfl, hrs33_0⟩ hl
   exact ⟨as33_0, ns33_0, es33_0, rfl, (hrs33_0.mono hl)⟩
  ·exact ⟨none, 0, (none, .cells #[] 0 (0, 0)), rfl, (RowR.nil tBool 4 F3 _)⟩
  ·rintro l44 s33 ⟨y55, y56, ay56_0, ny56_0⟩ w47 F4 _ Rf49 ⟨_, q50⟩ le51 ⟨hby56_0, hsy56_0⟩ ⟨as33_0, ns33_0, es33_0, rfl, hrs33_0⟩ hs53 hy54
   have h57 := (map_true hy54).2
   have hs58 : HS w0 F0 w47 F4 (es33_0 :: (sb b15 #[(.slice as33_0 s33.length ns33_0)] 64) :: Rf49) := hs53
   refine Rg [0] ?_
   refine V 8 4 (ma 18 (.bool y55)) ?_
   refine RWP.nil ?_
   refine ⟨rfl, F4, [es33_0, (sb b15 #[(.slice as33_0 s33.length ns33_0)] 64)], hs58, fun w59 Rf60 hs61 => ?_⟩
   have hs62 : HS w0 F0 w59 F4 (es33_0 :: (sb b15 #[(.slice as33_0 s33.length ns33_0)] 64) :: Rf60) := hs61
   refine Bk ?_
   refine Rg [0, 1, 2, 3, 4] ?_
   refine V 20 64 (ld 64 7 b15 0 false 1 (.slice as33_0 s33.length ns33_0) (hs62.ownAt (k := 1) rfl)) ?_
   refine V 21 4 (mv 8 (.bool y55)) ?_
   refine RWP.buildSlice (dst := (some 22)) (ty := 64) (g := none) (by kernel_rfl) rfl (t := 64) (len := 1) (parts := #[(0, (.tmp 21))]) (vs := [(0, (.bool y55))]) (rfl) (E := 4) (cs := [(.bool y55)]) (by kernel_rfl) hs62 (fun b63 w64 (hs65 : HS w0 F0 w64 F4 ((some b63, .cells ([(.bool y55)] : List Value).toArray 4 (0, 0)) :: es33_0 :: (sb b15 #[(.slice as33_0 s33.length ns33_0)] 64) :: Rf60)) => ?_)
   have hr67 : RowR tBool 4 F4 (some ⟨b63, 0, none⟩) 1 [y55] (some b63, .cells ([(.bool y55)] : List Value).toArray 4 (0, 0)) := RowR.lit ⟨rfl, rfl⟩ (by simp)
   obtain ⟨r68, hap69, h70⟩ := bind_some h57
   refine RWP.append (dst := (some 23)) (ty := 64) (g := none) (by kernel_rfl) rfl (x := (.tmp 20)) (y := (.tmp 22)) (t := 64) (t2 := 64) (by_ := 1) (z := (.bool false)) (a2 := (some ⟨b63, 0, none⟩)) (c2 := 1) (m := [y55]) (T := tBool) (E := 4) (a := as33_0) (cap := ns33_0) (l := s33) rfl rfl (by kernel_rfl) (by decide) (by kernel_rfl) (by kernel_rfl) rfl oBool hs65 (k := 1) rfl hrs33_0 (RowR.rd hs65 (k := 0) rfl hr67) (r := r68) hap69 (fun a71 n72 e73 w74 (hs75 : HS w0 F0 w74 F4 ((some b63, .cells ([(.bool y55)] : List Value).toArray 4 (0, 0)) :: e73 :: (sb b15 #[(.slice as33_0 s33.length ns33_0)] 64) :: Rf60)) hr76 => ?_)
   refine RWP.store (ty := 0) (g := none) (by kernel_rfl) rfl (x := (.tmp 7)) (y := (.tmp 23)) (t := 64) (gg := false) (s := 1) (v := (.slice a71 r68.length n72)) (b := b15) (o := 0) (C := #[(.slice as33_0 s33.length ns33_0)]) rfl rfl (by kernel_rfl) hs75 (k := 2) rfl rfl rfl rfl (C' := #[(.slice a71 r68.length n72)]) rfl (fun w77 (hs78 : HS w0 F0 w77 F4 ((some b63, .cells ([(.bool y55)] : List Value).toArray 4 (0, 0)) :: e73 :: (sb b15 #[(.slice a71 r68.length n72)] 64) :: Rf60)) => ?_)
   refine RWP.nil ?_
   refine blockQ_nrm ?_
   have hs79 : HS w0 F0 w77 F4 (e73 :: (sb b15 #[(.slice a71 r68.length n72)] 64) :: Rf60) := hs78.drop 0
   obtain rfl := some_inj h70
   exact ⟨rfl, F4, [e73, (sb b15 #[(.slice a71 r68.length n72)] 64)], hs79, (Mem.le.refl _), ⟨a71, n72, e73, rfl, hr76⟩⟩
  ·rintro D81 w82 F5 _ hs83 le84 ⟨as37_0, ns37_0, es37_0, rfl, hrs37_0⟩
   have hs85 : HS w0 F0 w82 F5 [(some D81, (.deferred (some []))), es37_0, (sb b15 #[(.slice as37_0 r41.length ns37_0)] 64)] := hs83
   refine blockQ_nrm ?_
   refine thenQ_nrm ?_
   refine Sq (Rg [0, 1, 2] ?_)
   refine V 24 64 (ld 64 7 b15 0 false 1 (.slice as37_0 r41.length ns37_0) (hs85.ownAt (k := 2) rfl)) ?_
   refine V 4 64 (ma 24 (.slice as37_0 r41.length ns37_0)) ?_
   refine V 5 30 (mc (vi 0) (vi 0)) ?_
   refine Nt ?_
   refine CWP.ret (by kernel_rfl) ?_
   have hb89 := RowR.bound hrs37_0
   obtain ⟨F6, hs86, le87, hs88⟩ : ∃ Fq, HS w0 F0 w82 Fq [(some D81, (.deferred (some []))), (sb b15 #[(.slice as37_0 r41.length ns37_0)] 64)] ∧ Mem.le F5 Fq ∧ SlA tBool Fq as37_0 r41 := HS.freezeRow hs85 (k := 1) rfl hrs37_0
   have hs90 := hs86.put (k := 0) rfl (.deferred none)
   have hs91 : HS w0 F0 (putB w82 D81 (.deferred none)) F6 [(sb b15 #[(.slice as37_0 r41.length ns37_0)] 64)] := hs90.drop 0
   have hfin := some_inj h43
   subst hfin
   exact .inr ⟨D81, rfl, hs86.ownAt (k := 0) rfl, (.tuple #[(.slice as37_0 r41.length ns37_0), (vi 0)]), res_of (l := [.tmp 4, .tmp 5]) (by kernel_rfl) (vs := [(.slice as37_0 r41.length ns37_0), (vi 0)]) ⟨rfl, ⟨rfl, trivial⟩⟩, (.tuple #[(.slice as37_0 r41.length ns37_0), (vi 0)]), F6, rfl, hs91.clear, ⟨as37_0, ns37_0, rfl, hb89, hs88⟩⟩
end Go.Proofs.Ythbcnabeabcmlaa
namespace Go.Proofs.Ythbcnabeabcmlaa
open Go.Proofs
def law03_pair (N : Nat) (x0 : Bool) : Option System :=
 ((bif x0 then some [({ A := ({ Log := 0, Line := 0 } : Ref), B := ({ Log := 1, Line := 0 } : Ref) } : Tie)] else some ([] : List Tie)).bind fun j35 => some ({ Tracks := [({ Clock := ({ Slip := 10, Drift := 0, Jumps := ([] : List Int) } : Clock), Times := [100, 160] } : Track), ({ Clock := ({ Slip := 3, Drift := 0, Jumps := ([] : List Int) } : Clock), Times := [95, 158] } : Track)], Ties := j35, Window := 2 } : System))
theorem co_law03_pair : CallOk Try.prog 64 := fun _ _ => by kernel_rfl
set_option maxHeartbeats 4000000 in
set_option maxRecDepth 100000 in
theorem c_law03_pair (N : Nat) (w0 : World) (F0 : Mem) (hF : ∀ b o, F0 b = some o → w0.heap[b]? = some o) (x0 : Bool) (r : System) (h : law03_pair N x0 = some r) :
  Calls Try.prog 64 ([(.bool x0)] : List Value).toArray w0 (FRet w0 F0 fun F' v => ∃ (aq0_0 : Option Addr) (nq0_0 : Nat) (aq0_1 : Option Addr) (nq0_1 : Nat), v = (.agg (kSystem r aq0_0 nq0_0 aq0_1 nq0_1)) ∧ LC r.Tracks.length nq0_0 ∧ SlA tTrack F' aq0_0 r.Tracks ∧ LC r.Ties.length nq0_1 ∧ SlA tTie F' aq0_1 r.Ties) := by
 have hs0 := HS.start hF
 refine calls_of (n := 19) (c := bodyOf Try.f64) Try.func64 (by kernel_rfl) (by kernel_rfl) (by kernel_rfl) ?_
 refine Sq (Rg [0] ?_)
 refine Al 2 0 25 #[(.slice none ([] : List Track).length 0), (.slice none ([] : List Tie).length 0), (vi 0)] hs0 (fun b1 w2 (hs3 : HS w0 F0 w2 F0 [(sb b1 #[(.slice none ([] : List Track).length 0), (.slice none ([] : List Tie).length 0), (vi 0)] 25)]) => ?_)
 refine Nss (Rg [0, 1, 2, 3, 4, 5, 6, 7, 8, 9] ?_)
 refine V 4 52 (run_build2 (t := 52) (parts := #[(0, (.const (vi 10)))]) (vs := [(0, (vi 10))]) (rfl) (cs := [(vi 10), (vi 0), (.slice none ([] : List Int).length 0)]) (by kernel_rfl)) ?_
 refine RWP.buildSlice (dst := (some 5)) (ty := 50) (g := none) (by kernel_rfl) rfl (t := 50) (len := 2) (parts := #[(0, (.const (vi 100))), (1, (.const (vi 160)))]) (vs := [(0, (vi 100)), (1, (vi 160))]) (rfl) (E := 3) (cs := [(vi 100), (vi 160)]) (by kernel_rfl) hs3 (fun b4 w5 (hs6 : HS w0 F0 w5 F0 [(some b4, .cells ([(vi 100), (vi 160)] : List Value).toArray 3 (0, 0)), (sb b1 #[(.slice none ([] : List Track).length 0), (.slice none ([] : List Tie).length 0), (vi 0)] 25)]) => ?_)
 have hr8 : RowR tInt 3 F0 (some ⟨b4, 0, none⟩) 2 [100, 160] (some b4, .cells ([(vi 100), (vi 160)] : List Value).toArray 3 (0, 0)) := RowR.lit ⟨rfl, ⟨rfl, rfl⟩⟩ (by simp)
 refine V 6 54 (run_build2 (t := 54) (parts := #[(0, (.tmp 4)), (1, (.tmp 5))]) (vs := [(0, (.agg #[(vi 10), (vi 0), (.slice none ([] : List Int).length 0)])), (1, (.slice (some ⟨b4, 0, none⟩) [100, 160].length 2))]) (rfl) (cs := [(vi 10), (vi 0), (.slice none ([] : List Int).length 0), (.slice (some ⟨b4, 0, none⟩) [100, 160].length 2)]) (by kernel_rfl)) ?_
 refine V 7 52 (run_build2 (t := 52) (parts := #[(0, (.const (vi 3)))]) (vs := [(0, (vi 3))]) (rfl) (cs := [(vi 3), (vi 0), (.slice none ([] : List Int).length 0)]) (by kernel_rfl)) ?_
 refine RWP.buildSlice (dst := (some 8)) (ty := 50) (g := none) (by kernel_rfl) rfl (t := 50) (len := 2) (parts := #[(0, (.const (vi 95))), (1, (.const (vi 158)))]) (vs := [(0, (vi 95)), (1, (vi 158))]) (rfl) (E := 3) (cs := [(vi 95), (vi 158)]) (by kernel_rfl) hs6 (fun b9 w10 (hs11 : HS w0 F0 w10 F0 [(some b9, .cells ([(vi 95), (vi 158)] : List Value).toArray 3 (0, 0)), (some b4, .cells ([(vi 100), (vi 160)] : List Value).toArray 3 (0, 0)), (sb b1 #[(.slice none ([] : List Track).length 0), (.slice none ([] : List Tie).length 0), (vi 0)] 25)]) => ?_)
 have hr13 : RowR tInt 3 F0 (some ⟨b9, 0, none⟩) 2 [95, 158] (some b9, .cells ([(vi 95), (vi 158)] : List Value).toArray 3 (0, 0)) := RowR.lit ⟨rfl, ⟨rfl, rfl⟩⟩ (by simp)
 refine V 9 54 (run_build2 (t := 54) (parts := #[(0, (.tmp 7)), (1, (.tmp 8))]) (vs := [(0, (.agg #[(vi 3), (vi 0), (.slice none ([] : List Int).length 0)])), (1, (.slice (some ⟨b9, 0, none⟩) [95, 158].length 2))]) (rfl) (cs := [(vi 3), (vi 0), (.slice none ([] : List Int).length 0), (.slice (some ⟨b9, 0, none⟩) [95, 158].length 2)]) (by kernel_rfl)) ?_
 have hb17 := RowR.bound hr8
 obtain ⟨F1, hs14, le15, hs16⟩ : ∃ Fq, HS w0 F0 w10 Fq [(some b9, .cells ([(vi 95), (vi 158)] : List Value).toArray 3 (0, 0)), (sb b1 #[(.slice none ([] : List Track).length 0), (.slice none ([] : List Tie).length 0), (vi 0)] 25)] ∧ Mem.le F0 Fq ∧ SlA tInt Fq (some ⟨b4, 0, none⟩) [100, 160] := HS.freezeRow hs11 (k := 1) rfl hr8
 have hb21 := RowR.bound (hr13.mono le15)
 obtain ⟨F2, hs18, le19, hs20⟩ : ∃ Fq, HS w0 F0 w10 Fq [(sb b1 #[(.slice none ([] : List Track).length 0), (.slice none ([] : List Tie).length 0), (vi 0)] 25)] ∧ Mem.le F1 Fq ∧ SlA tInt Fq (some ⟨b9, 0, none⟩) [95, 158] := HS.freezeRow hs14 (k := 0) rfl (hr13.mono le15)
 refine RWP.buildSlice (dst := (some 10)) (ty := 22) (g := none) (by kernel_rfl) rfl (t := 22) (len := 2) (parts := #[(0, (.tmp 6)), (1, (.tmp 9))]) (vs := [(0, (.agg #[(vi 10), (vi 0), (.slice none ([] : List Int).length 0), (.slice (some ⟨b4, 0, none⟩) [100, 160].length 2)])), (1, (.agg #[(vi 3), (vi 0), (.slice none ([] : List Int).length 0), (.slice (some ⟨b9, 0, none⟩) [95, 158].length 2)]))]) (rfl) (E := 54) (cs := [(vi 10), (vi 0), (.slice none ([] : List Int).length 0), (.slice (some ⟨b4, 0, none⟩) [100, 160].length 2), (vi 3), (vi 0), (.slice none ([] : List Int).length 0), (.slice (some ⟨b9, 0, none⟩) [95, 158].length 2)]) (by kernel_rfl) hs18 (fun b22 w23 (hs24 : HS w0 F0 w23 F2 [(some b22, .cells ([(vi 10), (vi 0), (.slice none ([] : List Int).length 0), (.slice (some ⟨b4, 0, none⟩) [100, 160].length 2), (vi 3), (vi 0), (.slice none ([] : List Int).length 0), (.slice (some ⟨b9, 0, none⟩) [95, 158].length 2)] : List Value).toArray 54 (0, 0)), (sb b1 #[(.slice none ([] : List Track).length 0), (.slice none ([] : List Tie).length 0), (vi 0)] 25)]) => ?_)
 have hr26 : RowR tTrack 54 F2 (some ⟨b22, 0, none⟩) 2 [({ Clock := ({ Slip := 10, Drift := 0, Jumps := ([] : List Int) } : Clock), Times := [100, 160] } : Track), ({ Clock := ({ Slip := 3, Drift := 0, Jumps := ([] : List Int) } : Clock), Times := [95, 158] } : Track)] (some b22, .cells ([(vi 10), (vi 0), (.slice none ([] : List Int).length 0), (.slice (some ⟨b4, 0, none⟩) [100, 160].length 2), (vi 3), (vi 0), (.slice none ([] : List Int).length 0), (.slice (some ⟨b9, 0, none⟩) [95, 158].length 2)] : List Value).toArray 54 (0, 0)) := RowR.lit ⟨⟨none, 0, (some ⟨b4, 0, none⟩), 2, rfl, LC.nil, (.inl rfl), hb17, (SlA.mono hs16 le19)⟩, ⟨⟨none, 0, (some ⟨b9, 0, none⟩), 2, rfl, LC.nil, (.inl rfl), hb21, hs20⟩, rfl⟩⟩ (by simp)
 refine V 11 25 (run_build2 (t := 25) (parts := #[(0, (.tmp 10)), (2, (.const (vi 2)))]) (vs := [(0, (.slice (some ⟨b22, 0, none⟩) [({ Clock := ({ Slip := 10, Drift := 0, Jumps := ([] : List Int) } : Clock), Times := [100, 160] } : Track), ({ Clock := ({ Slip := 3, Drift := 0, Jumps := ([] : List Int) } : Clock), Times := [95, 158] } : Track)].length 2)), (2, (vi 2))]) (rfl) (cs := [(.slice (some ⟨b22, 0, none⟩) [({ Clock := ({ Slip := 10, Drift := 0, Jumps := ([] : List Int) } : Clock), Times := [100, 160] } : Track), ({ Clock := ({ Slip := 3, Drift := 0, Jumps := ([] : List Int) } : Clock), Times := [95, 158] } : Track)].length 2), (.slice none ([] : List Tie).length 0), (vi 2)]) (by kernel_rfl)) ?_
 refine Al 3 0 25 #[(.slice none ([] : List Track).length 0), (.slice none ([] : List Tie).length 0), (vi 0)] hs24 (fun b27 w28 (hs29 : HS w0 F0 w28 F2 [(sb b27 #[(.slice none ([] : List Track).length 0), (.slice none ([] : List Tie).length 0), (vi 0)] 25), (some b22, .cells ([(vi 10), (vi 0), (.slice none ([] : List Int).length 0), (.slice (some ⟨b4, 0, none⟩) [100, 160].length 2), (vi 3), (vi 0), (.slice none ([] : List Int).length 0), (.slice (some ⟨b9, 0, none⟩) [95, 158].length 2)] : List Value).toArray 54 (0, 0)), (sb b1 #[(.slice none ([] : List Track).length 0), (.slice none ([] : List Tie).length 0), (vi 0)] 25)]) => ?_)
 refine RWP.store (ty := 0) (g := none) (by kernel_rfl) rfl (x := (.tmp 3)) (y := (.tmp 11)) (t := 25) (gg := true) (s := 3) (v := (.agg #[(.slice (some ⟨b22, 0, none⟩) [({ Clock := ({ Slip := 10, Drift := 0, Jumps := ([] : List Int) } : Clock), Times := [100, 160] } : Track), ({ Clock := ({ Slip := 3, Drift := 0, Jumps := ([] : List Int) } : Clock), Times := [95, 158] } : Track)].length 2), (.slice none ([] : List Tie).length 0), (vi 2)])) (b := b27) (o := 0) (C := #[(.slice none ([] : List Track).length 0), (.slice none ([] : List Tie).length 0), (vi 0)]) rfl rfl (by kernel_rfl) hs29 (k := 0) rfl rfl rfl rfl (C' := #[(.slice (some ⟨b22, 0, none⟩) [({ Clock := ({ Slip := 10, Drift := 0, Jumps := ([] : List Int) } : Clock), Times := [100, 160] } : Track), ({ Clock := ({ Slip := 3, Drift := 0, Jumps := ([] : List Int) } : Clock), Times := [95, 158] } : Track)].length 2), (.slice none ([] : List Tie).length 0), (vi 2)]) rfl (fun w30 (hs31 : HS w0 F0 w30 F2 [(sb b27 #[(.slice (some ⟨b22, 0, none⟩) [({ Clock := ({ Slip := 10, Drift := 0, Jumps := ([] : List Int) } : Clock), Times := [100, 160] } : Track), ({ Clock := ({ Slip := 3, Drift := 0, Jumps := ([] : List Int) } : Clock), Times := [95, 158] } : Track)].length 2), (.slice none ([] : List Tie).length 0), (vi 2)] 25), (some b22, .cells ([(vi 10), (vi 0), (.slice none ([] : List Int).length 0), (.slice (some ⟨b4, 0, none⟩) [100, 160].length 2), (vi 3), (vi 0), (.slice none ([] : List Int).length 0), (.slice (some ⟨b9, 0, none⟩) [95, 158].length 2)] : List Value).toArray 54 (0, 0)), (sb b1 #[(.slice none ([] : List Track).length 0), (.slice none ([] : List Tie).length 0), (vi 0)] 25)]) => ?_)
 refine Nss ?_
 refine Sq (Rg [0] ?_)
 refine V 12 4 (mv 0 (.bool x0)) ?_
 refine Nt ?_
 obtain ⟨j35, hj39, h40⟩ := bind_some h
 refine CWP.cut (fun f w => ∃ (F3 : Mem) (aj35_0 : Option Addr) (nj35_0 : Nat), HS w0 F0 w F3 [(sb b27 #[(.slice (some ⟨b22, 0, none⟩) [({ Clock := ({ Slip := 10, Drift := 0, Jumps := ([] : List Int) } : Clock), Times := [100, 160] } : Track), ({ Clock := ({ Slip := 3, Drift := 0, Jumps := ([] : List Int) } : Clock), Times := [95, 158] } : Track)].length 2), (.slice aj35_0 j35.length nj35_0), (vi 2)] 25), (some b22, .cells ([(vi 10), (vi 0), (.slice none ([] : List Int).length 0), (.slice (some ⟨b4, 0, none⟩) [100, 160].length 2), (vi 3), (vi 0), (.slice none ([] : List Int).length 0), (.slice (some ⟨b9, 0, none⟩) [95, 158].length 2)] : List Value).toArray 54 (0, 0)), (sb b1 #[(.slice none ([] : List Track).length 0), (.slice none ([] : List Tie).length 0), (vi 0)] 25)] ∧ Mem.le F2 F3 ∧ f.d = [] ∧ f 2 = (.pointer (some ⟨b1, 0, none⟩)) ∧ f 3 = (.pointer (some ⟨b27, 0, none⟩)) ∧ LC j35.length nj35_0 ∧ SlA tTie F3 aj35_0 j35) ?_ ?_
 ·refine CWP.cond (t := x0) (by kernel_rfl) rfl (fun hb41 => ?_) (fun hb41 => ?_)
  ·have h42 := cond_t hj39 hb41
   refine Rg [0, 1, 2, 3, 4, 5] ?_
   refine V 13 27 (run_build2 (t := 27) (parts := #[(0, (.const (vi 0))), (1, (.const (vi 0)))]) (vs := [(0, (vi 0)), (1, (vi 0))]) (rfl) (cs := [(vi 0), (vi 0)]) (by kernel_rfl)) ?_
   refine V 14 27 (run_build2 (t := 27) (parts := #[(0, (.const (vi 1))), (1, (.const (vi 0)))]) (vs := [(0, (vi 1)), (1, (vi 0))]) (rfl) (cs := [(vi 1), (vi 0)]) (by kernel_rfl)) ?_
   refine V 15 46 (run_build2 (t := 46) (parts := #[(0, (.tmp 13)), (1, (.tmp 14))]) (vs := [(0, (.agg #[(vi 0), (vi 0)])), (1, (.agg #[(vi 1), (vi 0)]))]) (rfl) (cs := [(vi 0), (vi 0), (vi 1), (vi 0)]) (by kernel_rfl)) ?_
   refine RWP.buildSlice (dst := (some 16)) (ty := 23) (g := none) (by kernel_rfl) rfl (t := 23) (len := 1) (parts := #[(0, (.tmp 15))]) (vs := [(0, (.agg #[(vi 0), (vi 0), (vi 1), (vi 0)]))]) (rfl) (E := 46) (cs := [(vi 0), (vi 0), (vi 1), (vi 0)]) (by kernel_rfl) hs31 (fun b43 w44 (hs45 : HS w0 F0 w44 F2 [(some b43, .cells ([(vi 0), (vi 0), (vi 1), (vi 0)] : List Value).toArray 46 (0, 0)), (sb b27 #[(.slice (some ⟨b22, 0, none⟩) [({ Clock := ({ Slip := 10, Drift := 0, Jumps := ([] : List Int) } : Clock), Times := [100, 160] } : Track), ({ Clock := ({ Slip := 3, Drift := 0, Jumps := ([] : List Int) } : Clock), Times := [95, 158] } : Track)].length 2), (.slice none ([] : List Tie).length 0), (vi 2)] 25), (some b22, .cells ([(vi 10), (vi 0), (.slice none ([] : List Int).length 0), (.slice (some ⟨b4, 0, none⟩) [100, 160].length 2), (vi 3), (vi 0), (.slice none ([] : List Int).length 0), (.slice (some ⟨b9, 0, none⟩) [95, 158].length 2)] : List Value).toArray 54 (0, 0)), (sb b1 #[(.slice none ([] : List Track).length 0), (.slice none ([] : List Tie).length 0), (vi 0)] 25)]) => ?_)
   have hr47 : RowR tTie 46 F2 (some ⟨b43, 0, none⟩) 1 [({ A := ({ Log := 0, Line := 0 } : Ref), B := ({ Log := 1, Line := 0 } : Ref) } : Tie)] (some b43, .cells ([(vi 0), (vi 0), (vi 1), (vi 0)] : List Value).toArray 46 (0, 0)) := RowR.lit ⟨rfl, rfl⟩ (by simp)
   refine V 17 0 (fa 25 3 1 1 1 b27 0 1) ?_
   refine RWP.store (ty := 0) (g := none) (by kernel_rfl) rfl (x := (.tmp 17)) (y := (.tmp 16)) (t := 23) (gg := false) (s := 1) (v := (.slice (some ⟨b43, 0, none⟩) [({ A := ({ Log := 0, Line := 0 } : Ref), B := ({ Log := 1, Line := 0 } : Ref) } : Tie)].length 1)) (b := b27) (o := 1) (C := #[(.slice (some ⟨b22, 0, none⟩) [({ Clock := ({ Slip := 10, Drift := 0, Jumps := ([] : List Int) } : Clock), Times := [100, 160] } : Track), ({ Clock := ({ Slip := 3, Drift := 0, Jumps := ([] : List Int) } : Clock), Times := [95, 158] } : Track)].length 2), (.slice none ([] : List Tie).length 0), (vi 2)]) rfl rfl (by kernel_rfl) hs45 (k := 1) rfl rfl rfl rfl (C' := #[(.slice (some ⟨b22, 0, none⟩) [({ Clock := ({ Slip := 10, Drift := 0, Jumps := ([] : List Int) } : Clock), Times := [100, 160] } : Track), ({ Clock := ({ Slip := 3, Drift := 0, Jumps := ([] : List Int) } : Clock), Times := [95, 158] } : Track)].length 2), (.slice (some ⟨b43, 0, none⟩) [({ A := ({ Log := 0, Line := 0 } : Ref), B := ({ Log := 1, Line := 0 } : Ref) } : Tie)].length 1), (vi 2)]) rfl (fun w48 (hs49 : HS w0 F0 w48 F2 [(some b43, .cells ([(vi 0), (vi 0), (vi 1), (vi 0)] : List Value).toArray 46 (0, 0)), (sb b27 #[(.slice (some ⟨b22, 0, none⟩) [({ Clock := ({ Slip := 10, Drift := 0, Jumps := ([] : List Int) } : Clock), Times := [100, 160] } : Track), ({ Clock := ({ Slip := 3, Drift := 0, Jumps := ([] : List Int) } : Clock), Times := [95, 158] } : Track)].length 2), (.slice (some ⟨b43, 0, none⟩) [({ A := ({ Log := 0, Line := 0 } : Ref), B := ({ Log := 1, Line := 0 } : Ref) } : Tie)].length 1), (vi 2)] 25), (some b22, .cells ([(vi 10), (vi 0), (.slice none ([] : List Int).length 0), (.slice (some ⟨b4, 0, none⟩) [100, 160].length 2), (vi 3), (vi 0), (.slice none ([] : List Int).length 0), (.slice (some ⟨b9, 0, none⟩) [95, 158].length 2)] : List Value).toArray 54 (0, 0)), (sb b1 #[(.slice none ([] : List Track).length 0), (.slice none ([] : List Tie).length 0), (vi 0)] 25)]) => ?_)
   refine RWP.nil ?_
   obtain rfl := some_inj h42
   have hb53 := RowR.bound hr47
   obtain ⟨F4, hs50, le51, hs52⟩ : ∃ Fq, HS w0 F0 w48 Fq [(sb b27 #[(.slice (some ⟨b22, 0, none⟩) [({ Clock := ({ Slip := 10, Drift := 0, Jumps := ([] : List Int) } : Clock), Times := [100, 160] } : Track), ({ Clock := ({ Slip := 3, Drift := 0, Jumps := ([] : List Int) } : Clock), Times := [95, 158] } : Track)].length 2), (.slice (some ⟨b43, 0, none⟩) [({ A := ({ Log := 0, Line := 0 } : Ref), B := ({ Log := 1, Line := 0 } : Ref) } : Tie)].length 1), (vi 2)] 25), (some b22, .cells ([(vi 10), (vi 0), (.slice none ([] : List Int).length 0), (.slice (some ⟨b4, 0, none⟩) [100, 160].length 2), (vi 3), (vi 0), (.slice none ([] : List Int).length 0), (.slice (some ⟨b9, 0, none⟩) [95, 158].length 2)] : List Value).toArray 54 (0, 0)), (sb b1 #[(.slice none ([] : List Track).length 0), (.slice none ([] : List Tie).length 0), (vi 0)] 25)] ∧ Mem.le F2 Fq ∧ SlA tTie Fq (some ⟨b43, 0, none⟩) [({ A := ({ Log := 0, Line := 0 } : Ref), B := ({ Log := 1, Line := 0 } : Ref) } : Tie)] := HS.freezeRow hs49 (k := 0) rfl hr47
   exact .inl ⟨rfl, F4, (some ⟨b43, 0, none⟩), 1, hs50, le51, rfl, rfl, rfl, hb53, hs52⟩
  ·have h54 := cond_f hj39 hb41
   refine Sc ?_
   obtain rfl := some_inj h54
   exact .inl ⟨rfl, F2, none, 0, hs31, (Mem.le.refl _), rfl, rfl, rfl, LC.nil, (.inl rfl)⟩
 ·rintro f w32 ⟨F3, aj35_0, nj35_0, hs33, le34, e36, e37, e38, hbj35_0, hsj35_0⟩
  refine thenQ_nrm ?_
  refine Sq (Rg [0, 1] ?_)
  refine V 18 25 (ld 25 3 b27 0 true 3 (.agg #[(.slice (some ⟨b22, 0, none⟩) [({ Clock := ({ Slip := 10, Drift := 0, Jumps := ([] : List Int) } : Clock), Times := [100, 160] } : Track), ({ Clock := ({ Slip := 3, Drift := 0, Jumps := ([] : List Int) } : Clock), Times := [95, 158] } : Track)].length 2), (.slice aj35_0 j35.length nj35_0), (vi 2)]) (hs33.ownAt (k := 0) rfl) e38) ?_
  refine RWP.store (ty := 0) (g := none) (by kernel_rfl) rfl (x := (.tmp 2)) (y := (.tmp 18)) (t := 25) (gg := true) (s := 3) (v := (.agg #[(.slice (some ⟨b22, 0, none⟩) [({ Clock := ({ Slip := 10, Drift := 0, Jumps := ([] : List Int) } : Clock), Times := [100, 160] } : Track), ({ Clock := ({ Slip := 3, Drift := 0, Jumps := ([] : List Int) } : Clock), Times := [95, 158] } : Track)].length 2), (.slice aj35_0 j35.length nj35_0), (vi 2)])) (b := b1) (o := 0) (C := #[(.slice none ([] : List Track).length 0), (.slice none ([] : List Tie).length 0), (vi 0)]) e37 rfl (by kernel_rfl) hs33 (k := 2) rfl rfl rfl rfl (C' := #[(.slice (some ⟨b22, 0, none⟩) [({ Clock := ({ Slip := 10, Drift := 0, Jumps := ([] : List Int) } : Clock), Times := [100, 160] } : Track), ({ Clock := ({ Slip := 3, Drift := 0, Jumps := ([] : List Int) } : Clock), Times := [95, 158] } : Track)].length 2), (.slice aj35_0 j35.length nj35_0), (vi 2)]) rfl (fun w55 (hs56 : HS w0 F0 w55 F3 [(sb b27 #[(.slice (some ⟨b22, 0, none⟩) [({ Clock := ({ Slip := 10, Drift := 0, Jumps := ([] : List Int) } : Clock), Times := [100, 160] } : Track), ({ Clock := ({ Slip := 3, Drift := 0, Jumps := ([] : List Int) } : Clock), Times := [95, 158] } : Track)].length 2), (.slice aj35_0 j35.length nj35_0), (vi 2)] 25), (some b22, .cells ([(vi 10), (vi 0), (.slice none ([] : List Int).length 0), (.slice (some ⟨b4, 0, none⟩) [100, 160].length 2), (vi 3), (vi 0), (.slice none ([] : List Int).length 0), (.slice (some ⟨b9, 0, none⟩) [95, 158].length 2)] : List Value).toArray 54 (0, 0)), (sb b1 #[(.slice (some ⟨b22, 0, none⟩) [({ Clock := ({ Slip := 10, Drift := 0, Jumps := ([] : List Int) } : Clock), Times := [100, 160] } : Track), ({ Clock := ({ Slip := 3, Drift := 0, Jumps := ([] : List Int) } : Clock), Times := [95, 158] } : Track)].length 2), (.slice aj35_0 j35.length nj35_0), (vi 2)] 25)]) => ?_)
  refine Nt ?_
  refine CWP.ret (by kernel_rfl) ?_
  have hb60 := RowR.bound (hr26.mono le34)
  obtain ⟨F5, hs57, le58, hs59⟩ : ∃ Fq, HS w0 F0 w55 Fq [(sb b27 #[(.slice (some ⟨b22, 0, none⟩) [({ Clock := ({ Slip := 10, Drift := 0, Jumps := ([] : List Int) } : Clock), Times := [100, 160] } : Track), ({ Clock := ({ Slip := 3, Drift := 0, Jumps := ([] : List Int) } : Clock), Times := [95, 158] } : Track)].length 2), (.slice aj35_0 j35.length nj35_0), (vi 2)] 25), (sb b1 #[(.slice (some ⟨b22, 0, none⟩) [({ Clock := ({ Slip := 10, Drift := 0, Jumps := ([] : List Int) } : Clock), Times := [100, 160] } : Track), ({ Clock := ({ Slip := 3, Drift := 0, Jumps := ([] : List Int) } : Clock), Times := [95, 158] } : Track)].length 2), (.slice aj35_0 j35.length nj35_0), (vi 2)] 25)] ∧ Mem.le F3 Fq ∧ SlA tTrack Fq (some ⟨b22, 0, none⟩) [({ Clock := ({ Slip := 10, Drift := 0, Jumps := ([] : List Int) } : Clock), Times := [100, 160] } : Track), ({ Clock := ({ Slip := 3, Drift := 0, Jumps := ([] : List Int) } : Clock), Times := [95, 158] } : Track)] := HS.freezeRow hs56 (k := 1) rfl (hr26.mono le34)
  have hfin := some_inj h40
  subst hfin
  exact ⟨e36, (.agg #[(.slice (some ⟨b22, 0, none⟩) [({ Clock := ({ Slip := 10, Drift := 0, Jumps := ([] : List Int) } : Clock), Times := [100, 160] } : Track), ({ Clock := ({ Slip := 3, Drift := 0, Jumps := ([] : List Int) } : Clock), Times := [95, 158] } : Track)].length 2), (.slice aj35_0 j35.length nj35_0), (vi 2)]), res_of (l := [.cell 2 25]) (by kernel_rfl) (vs := [(.agg #[(.slice (some ⟨b22, 0, none⟩) [({ Clock := ({ Slip := 10, Drift := 0, Jumps := ([] : List Int) } : Clock), Times := [100, 160] } : Track), ({ Clock := ({ Slip := 3, Drift := 0, Jumps := ([] : List Int) } : Clock), Times := [95, 158] } : Track)].length 2), (.slice aj35_0 j35.length nj35_0), (vi 2)])]) ⟨b1, 0, e37, run_loadVar' (t := 25) (g := true) (s := 3) (by kernel_rfl) (hs57.ownAt (k := 1) rfl) rfl (by decide), trivial⟩, (.agg #[(.slice (some ⟨b22, 0, none⟩) [({ Clock := ({ Slip := 10, Drift := 0, Jumps := ([] : List Int) } : Clock), Times := [100, 160] } : Track), ({ Clock := ({ Slip := 3, Drift := 0, Jumps := ([] : List Int) } : Clock), Times := [95, 158] } : Track)].length 2), (.slice aj35_0 j35.length nj35_0), (vi 2)]), F5, rfl, hs57.clear, ⟨(some ⟨b22, 0, none⟩), 2, aj35_0, nj35_0, rfl, hb60, hs59, hbj35_0, (SlA.mono hsj35_0 le58)⟩⟩
end Go.Proofs.Ythbcnabeabcmlaa
