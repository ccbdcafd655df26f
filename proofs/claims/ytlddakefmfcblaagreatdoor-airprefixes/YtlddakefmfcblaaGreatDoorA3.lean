/- AirPrefixes: for every input the law returns true, and each argument reads afterwards as it read before. No condition. -/
import Derived.Test.YtlddakefmfcblaaGreatDoorA2
set_option linter.unusedVariables false
set_option linter.unusedSimpArgs false
set_option linter.unusedSectionVars false
namespace Go.Proofs.YtlddakefmfcblaaGreatDoor
open Go.Proofs
def air_Nearest_2 (N : Nat) (x0 : Band) (x1 : Band) (z0 : (Band → Option Int)) : Option Int :=
 (((z0 x0).bind fun r17 => ((z0 x1).bind fun r25 => ((cmp_Compare_int N r17 r25).bind fun r33 => some r33))).bind fun j12 => some j12)
theorem co_air_Nearest_2 : CallOk Tryz.prog 71 := fun _ _ => by kernel_rfl
set_option maxHeartbeats 4000000 in
set_option maxRecDepth 100000 in
theorem c_air_Nearest_2 (N : Nat) (w0 : World) (F0 : Mem) (hF : ∀ b o, F0 b = some o → w0.heap[b]? = some o) (x0 : Band) (x1 : Band) (bz0 : Nat) (z0 : (Band → Option Int)) (gz0_0 : FuncId) (fz0_0 : List Value) (kz0_0 : List Value) (hoz0_0 : CallOk Tryz.prog gz0_0) (hpz0_0 : Fn90 F0 gz0_0 fz0_0 kz0_0 z0) (hz0 : F0 bz0 = some (oc #[(.func (.func gz0_0) fz0_0.toArray kz0_0.toArray)] 90)) (r : Int) (h : air_Nearest_2 N x0 x1 z0 = some r) :
  Calls Tryz.prog 71 ([(.agg (kBand x0)), (.agg (kBand x1)), (.pointer (some ⟨bz0, 0, none⟩))] : List Value).toArray w0 (FRet w0 F0 fun F' v => v = (vi r)) := by
 have hs0 := HS.start hF
 refine calls_of (n := 13) (c := bodyOf Tryz.f71) Tryz.func71 (by kernel_rfl) (by kernel_rfl) (by kernel_rfl) ?_
 refine Sq (Rg [0, 1, 2] ?_)
 refine Bx 3 0 0 40 (kBand x0) hs0 (fun b1 w2 (hs3 : HS w0 F0 w2 F0 [(sb b1 (kBand x0) 40)]) => ?_)
 refine Bx 4 0 1 40 (kBand x1) hs3 (fun b4 w5 (hs6 : HS w0 F0 w5 F0 [(sb b4 (kBand x1) 40), (sb b1 (kBand x0) 40)]) => ?_)
 refine V 5 3 (mc (vi 0) (vi 0)) ?_
 refine Nss ?_
 obtain ⟨j12, hj15, h16⟩ := bind_some h
 refine CWP.regionD (by kernel_rfl) (by kernel_rfl) (by kernel_rfl) (by kernel_rfl) (z := 8) (F := F0) (Lc := [(sb b4 (kBand x1) 40), (sb b1 (kBand x0) 40)]) (Lz := []) (l := [false, false, false, false, false, false, false, false]) (fuel := 8) (by kernel_rfl) (by kernel_rfl) hs6 (by simp) (by simp) (fun f w => ∃ (F1 : Mem), HS w0 F0 w F1 [] ∧ Mem.le F0 F1 ∧ f.d = [] ∧ f 5 = (vi j12)) (fun wd7 hw8 => ?_) ?_
 ·refine Dt 0 6 90 _ (fun _ hq => ld 90 2 bz0 0 false 1 (.func (.func gz0_0) fz0_0.toArray kz0_0.toArray) (hq.1.1 _ _ hz0)) ?_
  refine Dt 1 7 40 _ (fun _ hq => ld 40 3 b1 0 true 3 (.agg (kBand x0)) (hq.1.2 1 _ _ rfl)) ?_
  refine Dt 3 9 90 _ (fun _ hq => ld 90 2 bz0 0 false 1 (.func (.func gz0_0) fz0_0.toArray kz0_0.toArray) (hq.1.1 _ _ hz0)) ?_
  refine Dt 4 10 40 _ (fun _ hq => ld 40 4 b4 0 true 3 (.agg (kBand x1)) (hq.1.2 0 _ _ rfl)) ?_
  refine DWP.one (i := 2) (by kernel_rfl) ?_
  obtain ⟨r17, hr18, h19⟩ := bind_some hj15
  refine DStep.call (l' := [true, true, true, true, true, false, false, false]) (zd := true) (by kernel_rfl) (by kernel_rfl) (by kernel_rfl) (dst := (some 8)) (ty := 3) (g := none) (by kernel_rfl) rfl (f0 := (.tmp 6)) (aos := #[(.tmp 7)]) (ats := #[40]) (fid := gz0_0) (first := fz0_0.toArray) (cap := kz0_0.toArray) (args := (fz0_0 ++ (([(.agg (kBand x0))] : List Value) ++ kz0_0))) rfl hoz0_0 (app_args2 (l := [(.agg (kBand x0))]) (fi := fz0_0) (k := kz0_0) (rfl)) hw8 (hpz0_0 wd7 F0 (x0) _ (Mem.le.refl _) hw8.pers hr18) ?_
  intro v20 F2 w21 hs22 le23 hp24
  obtain rfl := hp24
  refine DWP.one (i := 5) (by kernel_rfl) ?_
  obtain ⟨r25, hr26, h27⟩ := bind_some h19
  refine DStep.call (l' := [true, true, true, true, true, true, false, false]) (zd := true) (by kernel_rfl) (by kernel_rfl) (by kernel_rfl) (dst := (some 11)) (ty := 3) (g := none) (by kernel_rfl) rfl (f0 := (.tmp 9)) (aos := #[(.tmp 10)]) (ats := #[40]) (fid := gz0_0) (first := fz0_0.toArray) (cap := kz0_0.toArray) (args := (fz0_0 ++ (([(.agg (kBand x1))] : List Value) ++ kz0_0))) rfl hoz0_0 (app_args2 (l := [(.agg (kBand x1))]) (fi := fz0_0) (k := kz0_0) (rfl)) hs22 (hpz0_0 w21 F2 (x1) _ le23 hs22.pers hr26) ?_
  intro v28 F3 w29 hs30 le31 hp32
  obtain rfl := hp32
  refine DWP.one (i := 6) (by kernel_rfl) ?_
  obtain ⟨r33, hr34, h35⟩ := bind_some h27
  refine DStep.call (l' := [true, true, true, true, true, true, true, false]) (zd := true) (by kernel_rfl) (by kernel_rfl) (by kernel_rfl) (dst := (some 12)) (ty := 3) (g := none) (by kernel_rfl) rfl (f0 := (.func 72)) (aos := #[(.tmp 8), (.tmp 11)]) (ats := #[3, 3]) (fid := 72) (first := #[]) (cap := #[]) (args := [(vi r17), (vi r25)]) rfl co_cmp_Compare_int (rfl) hs30 (c_cmp_Compare_int N w29 F3 hs30.pers (r17) (r25) _ hr34) ?_
  intro v36 F4 w37 hs38 le39 hp40
  obtain rfl := hp40
  refine Dt 7 5 3 _ (fun _ hq => ma 12 (vi r33)) ?_
  obtain rfl := some_inj h35
  have hs41 : HS w0 F0 w37 F4 [(sb b1 (kBand x0) 40)] := hs38.drop 0
  have hs42 : HS w0 F0 w37 F4 [] := hs41.drop 0
  exact DWP.done (by kernel_rfl) ⟨F4, hs42, ((le23.trans le31).trans le39), rfl, rfl⟩
 ·rintro f w9 ⟨F1, hs10, le11, e13, e14⟩
  refine thenQ_nrm ?_
  refine CWP.ret (by kernel_rfl) ?_
  have hfin := some_inj h16
  subst hfin
  exact ⟨e13, (vi j12), res_of (l := [.tmp 5]) (by kernel_rfl) (vs := [(vi j12)]) ⟨e14, trivial⟩, (vi j12), F1, rfl, hs10.clear, rfl⟩
end Go.Proofs.YtlddakefmfcblaaGreatDoor
namespace Go.Proofs.YtlddakefmfcblaaGreatDoor
open Go.Proofs
def air_Nearest (N : Nat) (x0 : (List Band)) (x1 : Int) : Option (Int × Int × Int) :=
 ((air_wrongBands N x0 x1).bind fun r4 => (bif (r4 != 0) then some (0, 0, r4) else (bif ((x0.length : Int) == 0) then some (0, 0, 3) else ((slices_MinFunc_api_Band_api_Band N x0 (fun y0 y1 => air_Nearest_2 N y0 y1 (fun y0 => air_Nearest_1 N y0 x1))).bind fun r29 => (((air_Nearest_1 N r29 x1).bind fun r54 => some r54).bind fun j47 => some (r29.ID, j47, 0))))))
theorem co_air_Nearest : CallOk Tryz.prog 24 := fun _ _ => by kernel_rfl
set_option maxHeartbeats 4000000 in
set_option maxRecDepth 100000 in
theorem c_air_Nearest (N : Nat) (w0 : World) (F0 : Mem) (hF : ∀ b o, F0 b = some o → w0.heap[b]? = some o) (x0 : (List Band)) (a0_0 : Option Addr) (n0_0 : Nat) (hb0_0 : LC x0.length n0_0) (hs0_0 : SlA tBand F0 a0_0 x0) (x1 : Int) (r : (Int × Int × Int)) (h : air_Nearest N x0 x1 = some r) :
  Calls Tryz.prog 24 ([(.slice a0_0 x0.length n0_0), (vi x1)] : List Value).toArray w0 (FRet w0 F0 fun F' v => v = (.tuple #[(vi r.1), (vi r.2.1), (vi r.2.2)])) := by
 have hs0 := HS.start hF
 refine calls_of (n := 28) (c := bodyOf Tryz.f24) Tryz.func24 (by kernel_rfl) (by kernel_rfl) (by kernel_rfl) ?_
 refine Sq (Rg [0, 1, 2, 3] ?_)
 refine Bx 3 0 1 3 #[(vi x1)] hs0 (fun b1 w2 (hs3 : HS w0 F0 w2 F0 [(sb b1 #[(vi x1)] 3)]) => ?_)
 refine V 4 3 (mc (vi 0) (vi 0)) ?_
 refine V 5 3 (mc (vi 0) (vi 0)) ?_
 refine V 6 23 (mc (vi 0) (vi 0)) ?_
 refine Nss ?_
 refine Sq (Rg [0, 1, 2, 3] ?_)
 refine V 10 32 (mv 0 (.slice a0_0 x0.length n0_0)) ?_
 refine V 11 3 (ld 3 3 b1 0 false 1 (vi x1) (hs3.ownAt (k := 0) rfl)) ?_
 obtain ⟨r4, hr5, h6⟩ := bind_some h
 refine Cl 12 23 68 #[(.tmp 10), (.tmp 11)] #[32, 3] co_air_wrongBands hs3 (c_air_wrongBands N w2 F0 hs3.pers (x0) a0_0 n0_0 hb0_0 hs0_0 (x1) _ hr5) ?_
 intro v7 F1 w8 hs9 le10 hp11
 obtain rfl := hp11
 refine V 7 23 (ma 12 (vi r4)) ?_
 refine Nss (Rg [0, 1] ?_)
 refine V 13 23 (mv 7 (vi r4)) ?_
 refine V 14 4 (run_neq (t := 23) (t' := 23) (x := (.tmp 13)) (y := (.const (vi 0))) (k := .i64) (a := r4) (b := 0) rfl rfl) ?_
 refine Nt ?_
 refine CWP.cond (t := (r4 != 0)) (by kernel_rfl) rfl (fun hb12 => ?_) (fun hb12 => ?_)
 ·have h13 := cond_t h6 hb12
  refine Sq (Rg [0, 1, 2, 3] ?_)
  refine V 15 23 (mv 7 (vi r4)) ?_
  refine V 4 3 (mc (vi 0) (vi 0)) ?_
  refine V 5 3 (mc (vi 0) (vi 0)) ?_
  refine V 6 23 (ma 15 (vi r4)) ?_
  refine Nt ?_
  refine CWP.ret (by kernel_rfl) ?_
  refine thenQ_ret ?_
  have hfin := some_inj h13
  subst hfin
  exact ⟨rfl, (.tuple #[(vi 0), (vi 0), (vi r4)]), res_of (l := [.tmp 4, .tmp 5, .tmp 6]) (by kernel_rfl) (vs := [(vi 0), (vi 0), (vi r4)]) ⟨rfl, ⟨rfl, ⟨rfl, trivial⟩⟩⟩, (.tuple #[(vi 0), (vi 0), (vi r4)]), F1, rfl, hs9.clear, rfl⟩
 ·have h14 := cond_f h6 hb12
  refine Sc ?_
  refine thenQ_nrm ?_
  refine Sq ?_
  refine Sq (Rg [0, 1, 2] ?_)
  refine V 16 32 (mv 0 (.slice a0_0 x0.length n0_0)) ?_
  refine V 17 3 (ln 16 32 a0_0 x0.length n0_0 40 3 24) ?_
  refine V 18 4 (run_eql (t := 3) (t' := 3) (x := (.tmp 17)) (y := (.const (vi 0))) (k := .i64) (a := (x0.length : Int)) (b := 0) rfl rfl) ?_
  refine Nt ?_
  refine CWP.cond (t := ((x0.length : Int) == 0)) (by kernel_rfl) rfl (fun hb15 => ?_) (fun hb15 => ?_)
  ·have h16 := cond_t h14 hb15
   refine Sq (Rg [0, 1, 2] ?_)
   refine V 4 3 (mc (vi 0) (vi 0)) ?_
   refine V 5 3 (mc (vi 0) (vi 0)) ?_
   refine V 6 23 (mc (vi 3) (vi 3)) ?_
   refine Nt ?_
   refine CWP.ret (by kernel_rfl) ?_
   refine thenQ_ret ?_
   have hfin := some_inj h16
   subst hfin
   exact ⟨rfl, (.tuple #[(vi 0), (vi 0), (vi 3)]), res_of (l := [.tmp 4, .tmp 5, .tmp 6]) (by kernel_rfl) (vs := [(vi 0), (vi 0), (vi 3)]) ⟨rfl, ⟨rfl, ⟨rfl, trivial⟩⟩⟩, (.tuple #[(vi 0), (vi 0), (vi 3)]), F1, rfl, hs9.clear, rfl⟩
  ·have h17 := cond_f h14 hb15
   refine Sc ?_
   refine thenQ_nrm ?_
   refine Sq (Rg [0, 1, 2] ?_)
   refine V 19 90 (run_makeFunc (fn := .func 69) (first := #[]) (cap := #[(.tmp 3)]) (fl := []) (cl := [(.pointer (some ⟨b1, 0, none⟩))]) rfl (rfl)) ?_
   refine RWP.alloc (dst := (some 8)) (ty := 0) (g := none) (by kernel_rfl) rfl (t := 90) (z := .nilFunc) (by kernel_rfl) (C := #[.nilFunc]) rfl hs9 (fun b18 w19 (hs20 : HS w0 F0 w19 F1 [(sb b18 #[.nilFunc] 90), (sb b1 #[(vi x1)] 3)]) => ?_)
   refine RWP.store (ty := 0) (g := none) (by kernel_rfl) rfl (x := (.tmp 8)) (y := (.tmp 19)) (t := 90) (gg := false) (s := 1) (v := (.func (.func 69) #[] #[(.pointer (some ⟨b1, 0, none⟩))])) (b := b18) (o := 0) (C := #[.nilFunc]) rfl rfl (by kernel_rfl) hs20 (k := 0) rfl rfl rfl rfl (C' := #[(.func (.func 69) #[] #[(.pointer (some ⟨b1, 0, none⟩))])]) rfl (fun w21 (hs22 : HS w0 F0 w21 F1 [(sb b18 #[(.func (.func 69) #[] #[(.pointer (some ⟨b1, 0, none⟩))])] 90), (sb b1 #[(vi x1)] 3)]) => ?_)
   refine Nss (Rg [0, 1, 2, 3, 4] ?_)
   refine V 20 32 (mv 0 (.slice a0_0 x0.length n0_0)) ?_
   refine V 21 93 (run_makeFunc (fn := .func 71) (first := #[]) (cap := #[(.tmp 8)]) (fl := []) (cl := [(.pointer (some ⟨b18, 0, none⟩))]) rfl (rfl)) ?_
   obtain ⟨F2, hs23, le24, hF25⟩ : ∃ Fq, HS w0 F0 w21 Fq [(sb b18 #[(.func (.func 69) #[] #[(.pointer (some ⟨b1, 0, none⟩))])] 90)] ∧ Mem.le F1 Fq ∧ Fq b1 = some (oc #[(vi x1)] 3) := HS.freezeC hs22 (k := 1) rfl
   obtain ⟨F3, hs26, le27, hF28⟩ : ∃ Fq, HS w0 F0 w21 Fq [] ∧ Mem.le F2 Fq ∧ Fq b18 = some (oc #[(.func (.func 69) #[] #[(.pointer (some ⟨b1, 0, none⟩))])] 90) := HS.freezeC hs23 (k := 0) rfl
   obtain ⟨r29, hr30, h31⟩ := bind_some h17
   refine Cl 22 40 70 #[(.tmp 20), (.tmp 21)] #[32, 93] co_slices_MinFunc_api_Band_api_Band hs26 (c_slices_MinFunc_api_Band_api_Band N w21 F3 hs26.pers (x0) a0_0 n0_0 hb0_0 (SlA.mono hs0_0 ((le10.trans le24).trans le27)) 71 [] [(.pointer (some ⟨b18, 0, none⟩))] (fun y0 y1 => air_Nearest_2 N y0 y1 (fun y0 => air_Nearest_1 N y0 x1)) co_air_Nearest_2 (fun w1 F1 y0 y1 r le1 pe1 hr1 => c_air_Nearest_2 N w1 F1 pe1  y0 y1 b18 (fun y0 => air_Nearest_1 N y0 x1) 69 [] [(.pointer (some ⟨b1, 0, none⟩))] co_air_Nearest_1 (Fn90.mono (fun w1 F1 y0 r le1 pe1 hr1 => c_air_Nearest_1 N w1 F1 pe1  y0 b1 x1 (le1 _ _ (le27 _ _ hF25)) r hr1) le1) (le1 _ _ hF28) r hr1) _ hr30) ?_
   intro v32 F4 w33 hs34 le35 hp36
   obtain rfl := hp36
   refine Al 9 0 40 #[(vi 0), (vi 0), (vi 0)] hs34 (fun b37 w38 (hs39 : HS w0 F0 w38 F4 [(sb b37 #[(vi 0), (vi 0), (vi 0)] 40)]) => ?_)
   refine RWP.store (ty := 0) (g := none) (by kernel_rfl) rfl (x := (.tmp 9)) (y := (.tmp 22)) (t := 40) (gg := true) (s := 3) (v := (.agg (kBand r29))) (b := b37) (o := 0) (C := #[(vi 0), (vi 0), (vi 0)]) rfl rfl (by kernel_rfl) hs39 (k := 0) rfl rfl rfl rfl (C' := (kBand r29)) rfl (fun w40 (hs41 : HS w0 F0 w40 F4 [(sb b37 (kBand r29) 40)]) => ?_)
   refine Nss ?_
   obtain ⟨j47, hj52, h53⟩ := bind_some h31
   refine CWP.regionD (by kernel_rfl) (by kernel_rfl) (by kernel_rfl) (by kernel_rfl) (z := 8) (F := F4) (Lc := [(sb b37 (kBand r29) 40)]) (Lz := []) (l := [false, false, false, false, false, false, false, false]) (fuel := 8) (by kernel_rfl) (by kernel_rfl) hs41 (by simp) (by simp) (fun f w => ∃ (F5 : Mem), HS w0 F0 w F5 [] ∧ Mem.le F4 F5 ∧ f.d = [] ∧ f 4 = (vi r29.ID) ∧ f 5 = (vi j47) ∧ f 6 = (vi 0)) (fun wd42 hw43 => ?_) ?_
   ·refine Dt 0 23 0 (.pointer (some ⟨b37, 0, none⟩)) (fun _ hq => fa 40 9 0 0 1 b37 0 0) ?_
    refine Dt 1 24 3 _ (fun _ hq => ld 3 23 b37 0 false 1 (vi r29.ID) (hq.1.2 0 _ _ rfl)) ?_
    refine Dt 2 25 90 _ (fun _ hq => ld 90 8 b18 0 false 1 (.func (.func 69) #[] #[(.pointer (some ⟨b1, 0, none⟩))]) (hq.1.1 _ _ (le35 _ _ hF28))) ?_
    refine Dt 3 26 40 _ (fun _ hq => ld 40 9 b37 0 true 3 (.agg (kBand r29)) (hq.1.2 0 _ _ rfl)) ?_
    refine DWP.one (i := 4) (by kernel_rfl) ?_
    obtain ⟨r54, hr55, h56⟩ := bind_some hj52
    refine DStep.call (l' := [true, true, true, true, true, false, false, false]) (zd := true) (by kernel_rfl) (by kernel_rfl) (by kernel_rfl) (dst := (some 27)) (ty := 3) (g := none) (by kernel_rfl) rfl (f0 := (.tmp 25)) (aos := #[(.tmp 26)]) (ats := #[40]) (fid := 69) (first := #[]) (cap := #[(.pointer (some ⟨b1, 0, none⟩))]) (args := [(.agg (kBand r29)), (.pointer (some ⟨b1, 0, none⟩))]) rfl co_air_Nearest_1 (rfl) hw43 (c_air_Nearest_1 N wd42 F4 hw43.pers (r29) b1 x1 ((le27.trans le35) _ _ hF25) _ hr55) ?_
    intro v57 F6 w58 hs59 le60 hp61
    obtain rfl := hp61
    refine Dt 5 4 3 _ (fun _ hq => ma 24 (vi r29.ID)) ?_
    refine Dt 6 5 3 _ (fun _ hq => ma 27 (vi r54)) ?_
    refine Dt 7 6 23 _ (fun _ hq => mc (vi 0) (vi 0)) ?_
    obtain rfl := some_inj h56
    have hs62 : HS w0 F0 w58 F6 [] := hs59.drop 0
    exact DWP.done (by kernel_rfl) ⟨F6, hs62, le60, rfl, rfl, rfl, rfl⟩
   ·rintro f w44 ⟨F5, hs45, le46, e48, e49, e50, e51⟩
    refine thenQ_nrm ?_
    refine CWP.ret (by kernel_rfl) ?_
    have hfin := some_inj h53
    subst hfin
    exact ⟨e48, (.tuple #[(vi r29.ID), (vi j47), (vi 0)]), res_of (l := [.tmp 4, .tmp 5, .tmp 6]) (by kernel_rfl) (vs := [(vi r29.ID), (vi j47), (vi 0)]) ⟨e49, ⟨e50, ⟨e51, trivial⟩⟩⟩, (.tuple #[(vi r29.ID), (vi j47), (vi 0)]), F5, rfl, hs45.clear, rfl⟩
end Go.Proofs.YtlddakefmfcblaaGreatDoor
namespace Go.Proofs.YtlddakefmfcblaaGreatDoor
open Go.Proofs
end Go.Proofs.YtlddakefmfcblaaGreatDoor
namespace Go.Proofs.YtlddakefmfcblaaGreatDoor
open Go.Proofs
end Go.Proofs.YtlddakefmfcblaaGreatDoor
namespace Go.Proofs.YtlddakefmfcblaaGreatDoor
open Go.Proofs
end Go.Proofs.YtlddakefmfcblaaGreatDoor
namespace Go.Proofs.YtlddakefmfcblaaGreatDoor
open Go.Proofs
end Go.Proofs.YtlddakefmfcblaaGreatDoor
namespace Go.Proofs.YtlddakefmfcblaaGreatDoor
def bAt (l : List Band) (i : Nat) : Band := l.getD i { ID := 0, Lo := 0, Hi := 0 }
theorem idx_at {l : List Band} {i : Nat} (h : i < l.length) : idx l (i : Int) = some (bAt l i) := by
 rw [idx_nat h]; unfold bAt; rw [List.getD_eq_getElem?_getD, List.getElem?_eq_getElem h]; rfl
theorem bAt_mem {l : List Band} {i : Nat} (h : i < l.length) : bAt l i ∈ l := by
 unfold bAt; rw [List.getD_eq_getElem?_getD, List.getElem?_eq_getElem h]; exact List.getElem_mem h
theorem mem_bAt {l : List Band} {b : Band} (h : b ∈ l) : ∃ i, i < l.length ∧ b = bAt l i := by
 obtain ⟨i, hi, rfl⟩ := List.getElem_of_mem h
 exact ⟨i, hi, by unfold bAt; rw [List.getD_eq_getElem?_getD, List.getElem?_eq_getElem hi]; rfl⟩
def okBand (b : Band) : Bool := (decide (1 ≤ b.ID) && decide (b.ID ≤ 65535)) && ((decide (1 ≤ b.Lo) && decide (b.Lo ≤ b.Hi)) && decide (b.Hi ≤ 10000000))
def okNext (a b : Band) : Bool := decide (a.ID < b.ID) && decide (a.Hi < b.Lo)
def okAt (l : List Band) (i : Nat) : Bool := okBand (bAt l i) && (decide (i = 0) || okNext (bAt l (i - 1)) (bAt l i))
def vB (l : List Band) : Bool := allB l.length (okAt l) && decide (l.length ≤ 16)
theorem gt_dec (a b : Int) : decide (a > b) = !decide (a ≤ b) := by rw [← decide_not, decide_eq_decide]; omega
theorem lt_dec2 (a b : Int) : decide (a < b) = !decide (b ≤ a) := by rw [← decide_not, decide_eq_decide]; omega
theorem w64p (i : Nat) (h : i < 4611686018427387904) (h0 : 0 < i) : W64 ((i : Int) - 1) = ((i - 1 : Nat) : Int) := by
 rw [W64_id (by omega) (by omega)]; omega
section
variable {N : Nat} {l : List Band}
theorem s_ValidBands (hl : l.length < 4000000000) (hN : 4294967300 < N) : air_ValidBands N l = some (vB l) := by
 unfold air_ValidBands
 rw [iter_check' (n := l.length) (okAt l) false ?_ ?_ (by omega)]
 ·unfold vB
  have : decide ((l.length : Int) ≤ 16) = decide (l.length ≤ 16) := by rw [decide_eq_decide]; omega
  rw [this]
  cases allB l.length (okAt l) <;> rfl
 ·intro i hi
  unfold air_ValidBands_L0
  rw [lt_dec hi, cond_true, idx_at hi, Option.bind_some]
  simp only [m_within, Option.bind_some]
  unfold okAt okBand okNext
  rw [w64s i (by omega), gt_dec]
  by_cases h0 : i = 0
  ·subst h0
   rw [decide_eq_false (show ¬ (((0 : Nat) : Int) > 0) by decide), decide_eq_true (show 0 = 0 from rfl)]
   cases (decide (1 ≤ (bAt l 0).ID) && decide ((bAt l 0).ID ≤ 65535)) <;> cases (decide (1 ≤ (bAt l 0).Lo) && decide ((bAt l 0).Lo ≤ (bAt l 0).Hi)) <;> cases decide ((bAt l 0).Hi ≤ 10000000) <;> rfl
  ·rw [decide_eq_true (show (i : Int) > 0 by omega), decide_eq_false h0, w64p i (by omega) (by omega), idx_at (by omega)]
   simp only [Option.bind_some]
   rw [lt_dec2 (bAt l (i - 1)).ID, lt_dec2 (bAt l (i - 1)).Hi]
   cases (decide (1 ≤ (bAt l i).ID) && decide ((bAt l i).ID ≤ 65535)) <;> cases (decide (1 ≤ (bAt l i).Lo) && decide ((bAt l i).Lo ≤ (bAt l i).Hi)) <;> cases decide ((bAt l i).Hi ≤ 10000000) <;> cases decide ((bAt l i).ID ≤ (bAt l (i - 1)).ID) <;> cases decide ((bAt l i).Lo ≤ (bAt l (i - 1)).Hi) <;> rfl
 ·unfold air_ValidBands_L0
  rw [lt_dec', cond_false]
structure BandR (b : Band) : Prop where
 id1 : 1 ≤ b.ID
 id2 : b.ID ≤ 65535
 lo : 1 ≤ b.Lo
 le : b.Lo ≤ b.Hi
 hi : b.Hi ≤ 10000000
theorem okAt_ok {i : Nat} (h : okAt l i = true) : BandR (bAt l i) ∧ (0 < i → (bAt l (i - 1)).ID < (bAt l i).ID ∧ (bAt l (i - 1)).Hi < (bAt l i).Lo) := by
 unfold okAt okBand okNext at h
 simp only [Bool.and_eq_true, Bool.or_eq_true, decide_eq_true_eq] at h
 refine ⟨⟨h.1.1.1, h.1.1.2, h.1.2.1.1, h.1.2.1.2, h.1.2.2⟩, fun h0 => ?_⟩
 rcases h.2 with h2 | h2
 ·omega
 ·exact h2
theorem vB_ok (h : vB l = true) : l.length ≤ 16 ∧ (∀ b, b ∈ l → BandR b) ∧ ∀ j i, i < j → j < l.length → (bAt l i).ID < (bAt l j).ID ∧ (bAt l i).Hi < (bAt l j).Lo := by
 unfold vB at h
 simp only [Bool.and_eq_true, decide_eq_true_eq] at h
 have hall : ∀ i, i < l.length → BandR (bAt l i) := fun i hi => (okAt_ok (allB_t h.1 hi)).1
 refine ⟨h.2, ?_, ?_⟩
 ·intro b hb
  obtain ⟨i, hi, rfl⟩ := mem_bAt hb
  exact hall i hi
 ·intro j
  induction j with
  | zero => intro i hi; omega
  | succ j ih =>
   intro i hi hj
   have h1 := (okAt_ok (allB_t h.1 hj)).2 (by omega)
   rw [Nat.add_sub_cancel] at h1
   by_cases hij : i = j
   ·subst hij; exact h1
   ·have h2 := ih i (by omega) (by omega)
    have h3 := hall j (by omega)
    exact ⟨by omega, by have := h3.le; omega⟩
def dist (b : Band) (f : Int) : Int := max (max 0 (b.Lo - f)) (f - b.Hi)
def near (f : Int) (m b : Band) : Band := if dist b f < dist m f then b else m
def nearS (l : List Band) (f : Int) : Band := (List.range l.length).foldl (fun m i => near f m (bAt l i)) (bAt l 0)
theorem near_fold (f : Int) (l : List Band) (h0 : 0 < l.length) : ∀ n, n ≤ l.length → ((List.range n).foldl (fun m i => near f m (bAt l i)) (bAt l 0)) ∈ l ∧ ∀ i, i < n → dist ((List.range n).foldl (fun m i => near f m (bAt l i)) (bAt l 0)) f ≤ dist (bAt l i) f := by
 intro n
 induction n with
 | zero => intro _; exact ⟨bAt_mem h0, fun i hi => by omega⟩
 | succ n ih =>
  intro hn
  obtain ⟨h1, h2⟩ := ih (by omega)
  rw [List.range_succ, List.foldl_append]
  simp only [List.foldl_cons, List.foldl_nil]
  generalize (List.range n).foldl (fun m i => near f m (bAt l i)) (bAt l 0) = m at h1 h2 ⊢
  unfold near
  split
  ·rename_i hc
   refine ⟨bAt_mem (by omega), fun i hi => ?_⟩
   by_cases hin : i = n
   ·subst hin; exact Int.le_refl _
   ·have := h2 i (by omega); omega
  ·rename_i hc
   refine ⟨h1, fun i hi => ?_⟩
   by_cases hin : i = n
   ·subst hin; omega
   ·exact h2 i (by omega)
theorem nearS_mem (f : Int) (h0 : 0 < l.length) : nearS l f ∈ l := (near_fold f l h0 l.length (Nat.le_refl _)).1
theorem near_pos {f : Int} {m b : Band} (h : dist b f < dist m f) : near f m b = b := if_pos h
theorem near_neg {f : Int} {m b : Band} (h : ¬ dist b f < dist m f) : near f m b = m := if_neg h
theorem near_first (f : Int) (l : List Band) : near f (bAt l 0) (bAt l 0) = bAt l 0 := by unfold near; split <;> rfl
def wrongS (l : List Band) (f : Int) : Int := if vB l = true then (if 1 ≤ f ∧ f ≤ 10000000 then 0 else 1) else 11
theorem s_wrong (hl : l.length < 4000000000) (hN : 4294967300 < N) (f : Int) : air_wrongBands N l f = some (wrongS l f) := by
 unfold air_wrongBands wrongS
 rw [s_ValidBands hl hN, Option.bind_some, m_within]
 cases vB l with
 | false => rfl
 | true =>
  by_cases hf : 1 ≤ f ∧ f ≤ 10000000
  ·rw [if_pos rfl, if_pos hf, decide_eq_true hf.1, decide_eq_true hf.2]; rfl
  ·rw [if_pos rfl, if_neg hf]
   have : (decide (1 ≤ f) && decide (f ≤ 10000000)) = false := by rw [Bool.and_eq_false_iff, decide_eq_false_iff_not, decide_eq_false_iff_not]; omega
   rw [this]; rfl
def nearestS (l : List Band) (f : Int) : Int × Int × Int := if wrongS l f = 0 then (if l.length = 0 then (0, 0, 3) else ((nearS l f).ID, dist (nearS l f) f, 0)) else (0, 0, wrongS l f)
theorem wrong_ok {f : Int} (h : wrongS l f = 0) : vB l = true ∧ 1 ≤ f ∧ f ≤ 10000000 := by
 unfold wrongS at h
 split at h
 ·split at h
  ·exact ⟨by assumption, by omega, by omega⟩
  ·omega
 ·omega
theorem n1 {b : Band} {f : Int} (hb : BandR b) (h1 : 1 ≤ f) (h2 : f ≤ 10000000) : air_Nearest_1 N b f = some (dist b f) := by
 unfold air_Nearest_1 dist
 have := hb.lo; have := hb.le; have := hb.hi
 rw [W64_id (by omega) (by omega), W64_id (by omega) (by omega)]
theorem cmp_lt (a b : Int) : (cmp_Compare_int N a b).bind (fun r => some (decide (r < 0))) = some (decide (a < b)) := by
 unfold cmp_Compare_int cmp_isNaN_int
 rw [show (a != a) = false by simp, show (b != b) = false by simp]
 simp only [Option.bind_some, cond_false]
 by_cases h : a < b
 ·rw [decide_eq_true h]; rfl
 ·rw [decide_eq_false h, cond_false]
  cases decide (a > b) <;> rfl
theorem n2 {a b : Band} {f : Int} (ha : BandR a) (hb : BandR b) (h1 : 1 ≤ f) (h2 : f ≤ 10000000) : (air_Nearest_2 N a b (fun y0 => air_Nearest_1 N y0 f)).bind (fun r => some (decide (r < 0))) = some (decide (dist a f < dist b f)) := by
 unfold air_Nearest_2
 simp only [n1 ha h1 h2, n1 hb h1 h2, Option.bind_some]
 rw [← cmp_lt (N := N) (dist a f) (dist b f)]
 cases cmp_Compare_int N (dist a f) (dist b f) <;> rfl
theorem s_Min {f : Int} (hv : vB l = true) (h0 : 0 < l.length) (h1 : 1 ≤ f) (h2 : f ≤ 10000000) (hN : 4294967300 < N) : slices_MinFunc_api_Band_api_Band N l (fun y0 y1 => air_Nearest_2 N y0 y1 (fun y0 => air_Nearest_1 N y0 f)) = some (nearS l f) := by
 obtain ⟨h16, hR, _⟩ := vB_ok hv
 unfold slices_MinFunc_api_Band_api_Band
 rw [decide_eq_false (by omega), cond_false, show (0 : Int) = ((0 : Nat) : Int) from rfl, idx_at h0, Option.bind_some]
 let enc : Nat → Band → Int × Int × Int × Int := fun i m => ((i : Int), m.ID, m.Lo, m.Hi)
 let fo : Nat → Band := fun n => (List.range n).foldl (fun m i => near f m (bAt l i)) (bAt l 0)
 obtain ⟨o, ho, rfl⟩ := iter_ex (body := slices_MinFunc_api_Band_api_Band_L0 N l (fun y0 y1 => air_Nearest_2 N y0 y1 (fun y0 => air_Nearest_1 N y0 f)) (bAt l 0)) l.length (fun i s => 1 ≤ i ∧ s = enc i (fo i)) (fun o => o = .done (enc l.length (fo l.length))) (by
  rintro i s hi ⟨hi1, rfl⟩
  by_cases h : i < l.length
  ·refine .inl ⟨enc (i + 1) (fo (i + 1)), ?_, ⟨by omega, rfl⟩, h⟩
   have hm := (near_fold f l h0 i hi).1
   have e1 : fo (i + 1) = near f (fo i) (bAt l i) := by show (List.range (i + 1)).foldl _ _ = _; rw [List.range_succ, List.foldl_append]; rfl
   rw [e1]
   unfold slices_MinFunc_api_Band_api_Band_L0
   show (bif decide ((i : Int) < (l.length : Int)) then _ else _) = _
   rw [lt_dec h, cond_true]
   show ((idx l (i : Int)).bind _).bind _ = _
   rw [idx_at h, Option.bind_some]
   show (((air_Nearest_2 N (bAt l i) (fo i) (fun y0 => air_Nearest_1 N y0 f)).bind fun r75 => some (decide (r75 < 0))).bind _) = _
   rw [n2 (hR _ (bAt_mem h)) (hR _ hm) h1 h2, Option.bind_some]
   by_cases hd : dist (bAt l i) f < dist (fo i) f
   ·rw [decide_eq_true hd, cond_true, near_pos hd]
    show some (Flow.next (W64 ((i : Int) + 1), _, _, _)) = _
    rw [w64s i (by omega)]
   ·rw [decide_eq_false hd, cond_false, near_neg hd]
    show some (Flow.next (W64 ((i : Int) + 1), _, _, _)) = _
    rw [w64s i (by omega)]
  ·have : i = l.length := by omega
   subst this
   refine .inr ⟨_, ?_, (fun _ h => by cases h), rfl⟩
   unfold slices_MinFunc_api_Band_api_Band_L0
   show (bif decide ((l.length : Int) < (l.length : Int)) then _ else _) = _
   rw [lt_dec', cond_false]) (l.length - 1) N 1 (enc 1 (fo 1)) (by omega) ⟨Nat.le_refl _, rfl⟩ (by omega)
 have e1 : fo 1 = bAt l 0 := near_first f l
 have ho' := ho
 rw [e1] at ho'
 have : iter (slices_MinFunc_api_Band_api_Band_L0 N l (fun y0 y1 => air_Nearest_2 N y0 y1 (fun y0 => air_Nearest_1 N y0 f)) (bAt l 0)) N (1, (bAt l 0).ID, (bAt l 0).Lo, (bAt l 0).Hi) = some (.done (enc l.length (fo l.length))) := ho'
 rw [this]
 rfl
theorem s_Nearest (hl : l.length < 4000000000) (hN : 4294967300 < N) (f : Int) : air_Nearest N l f = some (nearestS l f) := by
 unfold air_Nearest nearestS
 rw [s_wrong hl hN, Option.bind_some]
 by_cases hw : wrongS l f = 0
 ·rw [if_pos hw, hw, show ((0 : Int) != 0) = false from rfl, cond_false]
  obtain ⟨hv, h1, h2⟩ := wrong_ok hw
  by_cases h0 : l.length = 0
  ·rw [if_pos h0, show ((l.length : Int) == 0) = true by simp [h0]]; rfl
  ·rw [if_neg h0, show ((l.length : Int) == 0) = false by simp; intro h; rw [h] at h0; exact h0 rfl, cond_false, s_Min hv (by omega) h1 h2 hN, Option.bind_some]
   rw [n1 ((vB_ok hv).2.1 _ (nearS_mem f (by omega))) h1 h2]
   rfl
 ·rw [if_neg hw, show (wrongS l f != 0) = true by simpa using hw, cond_true]
end
end Go.Proofs.YtlddakefmfcblaaGreatDoor
namespace Go.Proofs.YtlddakefmfcblaaGreatDoor
open Go.Proofs
def law01_awake (N : Nat)  : Option Bool :=
 ((air_Split N ([71, 51, 47, 77, 48, 65, 66, 47, 80] : List UInt8)).bind fun r1 => ((air_PrefixOf N ([87, 49, 65, 87, 47, 52] : List UInt8)).bind fun r14 => ((air_PrintTime N 1505).bind fun r22 => ((air_ParseTime N ([50, 32, 48, 49, 48, 53] : List UInt8)).bind fun r30 => ((air_Nearest N ([({ ID := 1, Lo := 1800, Hi := 2000 } : Band), ({ ID := 2, Lo := 3500, Hi := 3800 } : Band)]) 2750).bind fun r47 => ((bif (r1.2 == 0) then (bif ((r1.1.Area == ([71, 51] : List UInt8)) && ((r1.1.Prefix == ([77, 48] : List UInt8)) && ((r1.1.Suffix == ([65, 66] : List UInt8)) && ((r1.1.Stroke == ([80] : List UInt8)) && true)))) then (bif (r14.2 == 0) then (bif (r14.1 == ([87, 52] : List UInt8)) then (bif (r22.2 == 0) then (bif (r22.1 == ([50, 32, 48, 49, 48, 53] : List UInt8)) then (bif (r30.2 == 0) then (bif (r30.1 == 1505) then (bif (r47.2.2 == 0) then (bif (r47.1 == 1) then (bif (r47.2.1 == 750) then ((air_ValidCall N ([68, 76, 49, 65, 47, 87, 49, 65] : List UInt8)).bind fun r85 => some (!r85)) else some false) else some false) else some false) else some false) else some false) else some false) else some false) else some false) else some false) else some false) else some false).bind fun j58 => some j58))))))
theorem co_law01_awake : CallOk Tryz.prog 17 := fun _ _ => by kernel_rfl
set_option maxHeartbeats 4000000 in
set_option maxRecDepth 100000 in
theorem c_law01_awake (N : Nat) (w0 : World) (F0 : Mem) (hF : ∀ b o, F0 b = some o → w0.heap[b]? = some o) (hG : Glob F0)  (r : Bool) (h : law01_awake N  = some r) :
  Calls Tryz.prog 17 ([] : List Value).toArray w0 (FRet w0 F0 fun F' v => v = (.bool r)) := by
 have hs0 := HS.start hF
 refine calls_of (n := 85) (c := bodyOf Tryz.f17) Tryz.func17 (by kernel_rfl) (by kernel_rfl) (by kernel_rfl) ?_
 refine Sq (Rg [0] ?_)
 refine V 0 4 (mc (.bool false) (.bool false)) ?_
 refine Nss (Rg [0, 1, 2, 3, 4, 5, 6] ?_)
 obtain ⟨r1, hr2, h3⟩ := bind_some h
 refine Cl 14 28 19 #[(.const (.string ⟨([71, 51, 47, 77, 48, 65, 66, 47, 80] : List UInt8).toArray⟩))] #[9] co_air_Split hs0 (c_air_Split N w0 F0 hs0.pers hG (([71, 51, 47, 77, 48, 65, 66, 47, 80] : List UInt8)) _ hr2) ?_
 intro v4 F1 w5 hs6 le7 hp8
 obtain rfl := hp8
 refine V 13 28 (mv 14 (.tuple #[(.agg #[(.string ⟨(r1.1.Area).toArray⟩), (.string ⟨(r1.1.Prefix).toArray⟩), (.string ⟨(r1.1.Suffix).toArray⟩), (.string ⟨(r1.1.Stroke).toArray⟩)]), (vi r1.2)])) ?_
 refine V 15 27 (ex 13 0 (.agg #[(.string ⟨(r1.1.Area).toArray⟩), (.string ⟨(r1.1.Prefix).toArray⟩), (.string ⟨(r1.1.Suffix).toArray⟩), (.string ⟨(r1.1.Stroke).toArray⟩)]) (vs := #[(.agg #[(.string ⟨(r1.1.Area).toArray⟩), (.string ⟨(r1.1.Prefix).toArray⟩), (.string ⟨(r1.1.Suffix).toArray⟩), (.string ⟨(r1.1.Stroke).toArray⟩)]), (vi r1.2)])) ?_
 refine V 16 23 (ex 13 1 (vi r1.2) (vs := #[(.agg #[(.string ⟨(r1.1.Area).toArray⟩), (.string ⟨(r1.1.Prefix).toArray⟩), (.string ⟨(r1.1.Suffix).toArray⟩), (.string ⟨(r1.1.Stroke).toArray⟩)]), (vi r1.2)])) ?_
 refine Al 1 0 27 #[(.string ⟨(([] : List UInt8)).toArray⟩), (.string ⟨(([] : List UInt8)).toArray⟩), (.string ⟨(([] : List UInt8)).toArray⟩), (.string ⟨(([] : List UInt8)).toArray⟩)] hs6 (fun b9 w10 (hs11 : HS w0 F0 w10 F1 [(sb b9 #[(.string ⟨(([] : List UInt8)).toArray⟩), (.string ⟨(([] : List UInt8)).toArray⟩), (.string ⟨(([] : List UInt8)).toArray⟩), (.string ⟨(([] : List UInt8)).toArray⟩)] 27)]) => ?_)
 refine RWP.store (ty := 0) (g := none) (by kernel_rfl) rfl (x := (.tmp 1)) (y := (.tmp 15)) (t := 27) (gg := true) (s := 4) (v := (.agg #[(.string ⟨(r1.1.Area).toArray⟩), (.string ⟨(r1.1.Prefix).toArray⟩), (.string ⟨(r1.1.Suffix).toArray⟩), (.string ⟨(r1.1.Stroke).toArray⟩)])) (b := b9) (o := 0) (C := #[(.string ⟨(([] : List UInt8)).toArray⟩), (.string ⟨(([] : List UInt8)).toArray⟩), (.string ⟨(([] : List UInt8)).toArray⟩), (.string ⟨(([] : List UInt8)).toArray⟩)]) rfl rfl (by kernel_rfl) hs11 (k := 0) rfl rfl rfl rfl (C' := #[(.string ⟨(r1.1.Area).toArray⟩), (.string ⟨(r1.1.Prefix).toArray⟩), (.string ⟨(r1.1.Suffix).toArray⟩), (.string ⟨(r1.1.Stroke).toArray⟩)]) rfl (fun w12 (hs13 : HS w0 F0 w12 F1 [(sb b9 #[(.string ⟨(r1.1.Area).toArray⟩), (.string ⟨(r1.1.Prefix).toArray⟩), (.string ⟨(r1.1.Suffix).toArray⟩), (.string ⟨(r1.1.Stroke).toArray⟩)] 27)]) => ?_)
 refine V 2 23 (ma 16 (vi r1.2)) ?_
 refine Nss (Rg [0, 1, 2, 3, 4, 5] ?_)
 obtain ⟨r14, hr15, h16⟩ := bind_some h3
 refine Cl 18 24 18 #[(.const (.string ⟨([87, 49, 65, 87, 47, 52] : List UInt8).toArray⟩))] #[9] co_air_PrefixOf hs13 (c_air_PrefixOf N w12 F1 hs13.pers (hG.mono le7) (([87, 49, 65, 87, 47, 52] : List UInt8)) _ hr15) ?_
 intro v17 F2 w18 hs19 le20 hp21
 obtain rfl := hp21
 refine V 17 24 (mv 18 (.tuple #[(.string ⟨(r14.1).toArray⟩), (vi r14.2)])) ?_
 refine V 19 9 (ex 17 0 (.string ⟨(r14.1).toArray⟩) (vs := #[(.string ⟨(r14.1).toArray⟩), (vi r14.2)])) ?_
 refine V 20 23 (ex 17 1 (vi r14.2) (vs := #[(.string ⟨(r14.1).toArray⟩), (vi r14.2)])) ?_
 refine V 3 9 (ma 19 (.string ⟨(r14.1).toArray⟩)) ?_
 refine V 4 23 (ma 20 (vi r14.2)) ?_
 refine Nss (Rg [0, 1, 2, 3, 4, 5] ?_)
 obtain ⟨r22, hr23, h24⟩ := bind_some h16
 refine Cl 22 24 28 #[(.const (vi 1505))] #[3] co_air_PrintTime hs19 (c_air_PrintTime N w18 F2 hs19.pers (hG.mono (le7.trans le20)) (1505) _ hr23) ?_
 intro v25 F3 w26 hs27 le28 hp29
 obtain rfl := hp29
 refine V 21 24 (mv 22 (.tuple #[(.string ⟨(r22.1).toArray⟩), (vi r22.2)])) ?_
 refine V 23 9 (ex 21 0 (.string ⟨(r22.1).toArray⟩) (vs := #[(.string ⟨(r22.1).toArray⟩), (vi r22.2)])) ?_
 refine V 24 23 (ex 21 1 (vi r22.2) (vs := #[(.string ⟨(r22.1).toArray⟩), (vi r22.2)])) ?_
 refine V 5 9 (ma 23 (.string ⟨(r22.1).toArray⟩)) ?_
 refine V 6 23 (ma 24 (vi r22.2)) ?_
 refine Nss (Rg [0, 1, 2, 3, 4, 5] ?_)
 obtain ⟨r30, hr31, h32⟩ := bind_some h24
 refine Cl 26 33 30 #[(.const (.string ⟨([50, 32, 48, 49, 48, 53] : List UInt8).toArray⟩))] #[9] co_air_ParseTime hs27 (c_air_ParseTime N w26 F3 hs27.pers (hG.mono ((le7.trans le20).trans le28)) (([50, 32, 48, 49, 48, 53] : List UInt8)) _ hr31) ?_
 intro v33 F4 w34 hs35 le36 hp37
 obtain rfl := hp37
 refine V 25 33 (mv 26 (.tuple #[(vi r30.1), (vi r30.2)])) ?_
 refine V 27 3 (ex 25 0 (vi r30.1) (vs := #[(vi r30.1), (vi r30.2)])) ?_
 refine V 28 23 (ex 25 1 (vi r30.2) (vs := #[(vi r30.1), (vi r30.2)])) ?_
 refine V 7 3 (ma 27 (vi r30.1)) ?_
 refine V 8 23 (ma 28 (vi r30.2)) ?_
 refine Nss (Rg [0, 1, 2, 3] ?_)
 refine V 29 40 (run_build2 (t := 40) (parts := #[(0, (.const (vi 1))), (1, (.const (vi 1800))), (2, (.const (vi 2000)))]) (vs := [(0, (vi 1)), (1, (vi 1800)), (2, (vi 2000))]) (rfl) (cs := [(vi 1), (vi 1800), (vi 2000)]) (by kernel_rfl)) ?_
 refine V 30 40 (run_build2 (t := 40) (parts := #[(0, (.const (vi 2))), (1, (.const (vi 3500))), (2, (.const (vi 3800)))]) (vs := [(0, (vi 2)), (1, (vi 3500)), (2, (vi 3800))]) (rfl) (cs := [(vi 2), (vi 3500), (vi 3800)]) (by kernel_rfl)) ?_
 refine RWP.buildSlice (dst := (some 31)) (ty := 32) (g := none) (by kernel_rfl) rfl (t := 32) (len := 2) (parts := #[(0, (.tmp 29)), (1, (.tmp 30))]) (vs := [(0, (.agg #[(vi 1), (vi 1800), (vi 2000)])), (1, (.agg #[(vi 2), (vi 3500), (vi 3800)]))]) (rfl) (E := 40) (cs := [(vi 1), (vi 1800), (vi 2000), (vi 2), (vi 3500), (vi 3800)]) (by kernel_rfl) hs35 (fun b38 w39 (hs40 : HS w0 F0 w39 F4 [(some b38, .cells ([(vi 1), (vi 1800), (vi 2000), (vi 2), (vi 3500), (vi 3800)] : List Value).toArray 40 (0, 0)), (sb b9 #[(.string ⟨(r1.1.Area).toArray⟩), (.string ⟨(r1.1.Prefix).toArray⟩), (.string ⟨(r1.1.Suffix).toArray⟩), (.string ⟨(r1.1.Stroke).toArray⟩)] 27)]) => ?_)
 have hr42 : RowR tBand 40 F4 (some ⟨b38, 0, none⟩) 2 [({ ID := 1, Lo := 1800, Hi := 2000 } : Band), ({ ID := 2, Lo := 3500, Hi := 3800 } : Band)] (some b38, .cells ([(vi 1), (vi 1800), (vi 2000), (vi 2), (vi 3500), (vi 3800)] : List Value).toArray 40 (0, 0)) := RowR.lit ⟨rfl, ⟨rfl, rfl⟩⟩ (by simp)
 refine V 9 32 (ma 31 (.slice (some ⟨b38, 0, none⟩) [({ ID := 1, Lo := 1800, Hi := 2000 } : Band), ({ ID := 2, Lo := 3500, Hi := 3800 } : Band)].length 2)) ?_
 refine Nss (Rg [0, 1, 2, 3, 4, 5, 6, 7, 8] ?_)
 refine V 33 32 (mv 9 (.slice (some ⟨b38, 0, none⟩) [({ ID := 1, Lo := 1800, Hi := 2000 } : Band), ({ ID := 2, Lo := 3500, Hi := 3800 } : Band)].length 2)) ?_
 have hb46 := RowR.bound hr42
 obtain ⟨F5, hs43, le44, hs45⟩ : ∃ Fq, HS w0 F0 w39 Fq [(sb b9 #[(.string ⟨(r1.1.Area).toArray⟩), (.string ⟨(r1.1.Prefix).toArray⟩), (.string ⟨(r1.1.Suffix).toArray⟩), (.string ⟨(r1.1.Stroke).toArray⟩)] 27)] ∧ Mem.le F4 Fq ∧ SlA tBand Fq (some ⟨b38, 0, none⟩) [({ ID := 1, Lo := 1800, Hi := 2000 } : Band), ({ ID := 2, Lo := 3500, Hi := 3800 } : Band)] := HS.freezeRow hs40 (k := 0) rfl hr42
 obtain ⟨r47, hr48, h49⟩ := bind_some h32
 refine Cl 34 35 24 #[(.tmp 33), (.const (vi 2750))] #[32, 3] co_air_Nearest hs43 (c_air_Nearest N w39 F5 hs43.pers ([({ ID := 1, Lo := 1800, Hi := 2000 } : Band), ({ ID := 2, Lo := 3500, Hi := 3800 } : Band)]) (some ⟨b38, 0, none⟩) 2 hb46 hs45 (2750) _ hr48) ?_
 intro v50 F6 w51 hs52 le53 hp54
 obtain rfl := hp54
 refine V 32 35 (mv 34 (.tuple #[(vi r47.1), (vi r47.2.1), (vi r47.2.2)])) ?_
 refine V 35 3 (ex 32 0 (vi r47.1) (vs := #[(vi r47.1), (vi r47.2.1), (vi r47.2.2)])) ?_
 refine V 36 3 (ex 32 1 (vi r47.2.1) (vs := #[(vi r47.1), (vi r47.2.1), (vi r47.2.2)])) ?_
 refine V 37 23 (ex 32 2 (vi r47.2.2) (vs := #[(vi r47.1), (vi r47.2.1), (vi r47.2.2)])) ?_
 refine V 10 3 (ma 35 (vi r47.1)) ?_
 refine V 11 3 (ma 36 (vi r47.2.1)) ?_
 refine V 12 23 (ma 37 (vi r47.2.2)) ?_
 refine Nss (Rg [0, 1, 2, 3, 4, 5, 6, 7, 8, 9, 10, 11, 12, 13, 14, 15, 16, 17, 18, 19, 20, 21, 22, 23, 24, 25, 26, 27, 28, 29, 30, 31, 32, 33, 34, 35, 36, 37, 38, 39, 40, 41, 42, 43, 44, 45, 46, 47] ?_)
 obtain ⟨j58, hj61, h62⟩ := bind_some h49
 refine RWP.cut (fun f w => ∃ (F7 : Mem), HS w0 F0 w F7 [] ∧ Mem.le F6 F7 ∧ f.d = [] ∧ f 0 = (.bool j58)) ?_ ?_
 ·refine V 38 23 (mv 2 (vi r1.2)) ?_
  refine V 39 4 (run_eql (t := 23) (t' := 23) (x := (.tmp 38)) (y := (.const (vi 0))) (k := .i64) (a := r1.2) (b := 0) rfl rfl) ?_
  refine V 40 4 (mv 39 (.bool (r1.2 == 0))) ?_
  refine RWP.split (r1.2 == 0) (fun hb63 => ?_) (fun hb63 => ?_)
  ·have h64 := cond_t hj61 hb63
   refine Vg 41 27 2 true 40 hb63 (ld 27 1 b9 0 true 4 (.agg #[(.string ⟨(r1.1.Area).toArray⟩), (.string ⟨(r1.1.Prefix).toArray⟩), (.string ⟨(r1.1.Suffix).toArray⟩), (.string ⟨(r1.1.Stroke).toArray⟩)]) (hs52.ownAt (k := 0) rfl)) ?_
   refine Vg 42 27 2 true 40 hb63 (run_build2 (t := 27) (parts := #[(0, (.const (.string ⟨([71, 51] : List UInt8).toArray⟩))), (1, (.const (.string ⟨([77, 48] : List UInt8).toArray⟩))), (2, (.const (.string ⟨([65, 66] : List UInt8).toArray⟩))), (3, (.const (.string ⟨([80] : List UInt8).toArray⟩)))]) (vs := [(0, (.string ⟨(([71, 51] : List UInt8)).toArray⟩)), (1, (.string ⟨(([77, 48] : List UInt8)).toArray⟩)), (2, (.string ⟨(([65, 66] : List UInt8)).toArray⟩)), (3, (.string ⟨(([80] : List UInt8)).toArray⟩))]) (rfl) (cs := [(.string ⟨(([71, 51] : List UInt8)).toArray⟩), (.string ⟨(([77, 48] : List UInt8)).toArray⟩), (.string ⟨(([65, 66] : List UInt8)).toArray⟩), (.string ⟨(([80] : List UInt8)).toArray⟩)]) (by kernel_rfl)) ?_
   refine Vg 43 4 2 true 40 hb63 (run_eqs (t := 27) (t' := 27) (x := (.tmp 41)) (y := (.tmp 42)) (xs := #[(.string ⟨(r1.1.Area).toArray⟩), (.string ⟨(r1.1.Prefix).toArray⟩), (.string ⟨(r1.1.Suffix).toArray⟩), (.string ⟨(r1.1.Stroke).toArray⟩)]) (ys := #[(.string ⟨(([71, 51] : List UInt8)).toArray⟩), (.string ⟨(([77, 48] : List UInt8)).toArray⟩), (.string ⟨(([65, 66] : List UInt8)).toArray⟩), (.string ⟨(([80] : List UInt8)).toArray⟩)]) (b := ((r1.1.Area == ([71, 51] : List UInt8)) && ((r1.1.Prefix == ([77, 48] : List UInt8)) && ((r1.1.Suffix == ([65, 66] : List UInt8)) && ((r1.1.Stroke == ([80] : List UInt8)) && true))))) rfl rfl (by kernel_rfl) (by kernel_rfl)) ?_
   refine V 44 4 (p1 40 (.tmp 43) (.const (.bool false)) (.bool ((r1.1.Area == ([71, 51] : List UInt8)) && ((r1.1.Prefix == ([77, 48] : List UInt8)) && ((r1.1.Suffix == ([65, 66] : List UInt8)) && ((r1.1.Stroke == ([80] : List UInt8)) && true))))) hb63) ?_
   refine V 45 4 (mv 44 (.bool ((r1.1.Area == ([71, 51] : List UInt8)) && ((r1.1.Prefix == ([77, 48] : List UInt8)) && ((r1.1.Suffix == ([65, 66] : List UInt8)) && ((r1.1.Stroke == ([80] : List UInt8)) && true)))))) ?_
   refine RWP.split ((r1.1.Area == ([71, 51] : List UInt8)) && ((r1.1.Prefix == ([77, 48] : List UInt8)) && ((r1.1.Suffix == ([65, 66] : List UInt8)) && ((r1.1.Stroke == ([80] : List UInt8)) && true)))) (fun hb65 => ?_) (fun hb65 => ?_)
   ·have h66 := cond_t h64 hb65
    refine Vg 46 23 7 true 45 hb65 (mv 4 (vi r14.2)) ?_
    refine Vg 47 4 7 true 45 hb65 (run_eql (t := 23) (t' := 23) (x := (.tmp 46)) (y := (.const (vi 0))) (k := .i64) (a := r14.2) (b := 0) rfl rfl) ?_
    refine V 48 4 (p1 45 (.tmp 47) (.const (.bool false)) (.bool (r14.2 == 0)) hb65) ?_
    refine V 49 4 (mv 48 (.bool (r14.2 == 0))) ?_
    refine RWP.split (r14.2 == 0) (fun hb67 => ?_) (fun hb67 => ?_)
    ·have h68 := cond_t h66 hb67
     refine Vg 50 9 11 true 49 hb67 (mv 3 (.string ⟨(r14.1).toArray⟩)) ?_
     refine Vg 51 4 11 true 49 hb67 (run_scmp (t := 9) (t' := 9) (x := (.tmp 50)) (y := (.const (.string ⟨([87, 52] : List UInt8).toArray⟩))) (op := .eql) (a := r14.1) (b := ([87, 52] : List UInt8)) (v := (r14.1 == ([87, 52] : List UInt8))) rfl rfl rfl) ?_
     refine V 52 4 (p1 49 (.tmp 51) (.const (.bool false)) (.bool (r14.1 == ([87, 52] : List UInt8))) hb67) ?_
     refine V 53 4 (mv 52 (.bool (r14.1 == ([87, 52] : List UInt8)))) ?_
     refine RWP.split (r14.1 == ([87, 52] : List UInt8)) (fun hb69 => ?_) (fun hb69 => ?_)
     ·have h70 := cond_t h68 hb69
      refine Vg 54 23 15 true 53 hb69 (mv 6 (vi r22.2)) ?_
      refine Vg 55 4 15 true 53 hb69 (run_eql (t := 23) (t' := 23) (x := (.tmp 54)) (y := (.const (vi 0))) (k := .i64) (a := r22.2) (b := 0) rfl rfl) ?_
      refine V 56 4 (p1 53 (.tmp 55) (.const (.bool false)) (.bool (r22.2 == 0)) hb69) ?_
      refine V 57 4 (mv 56 (.bool (r22.2 == 0))) ?_
      refine RWP.split (r22.2 == 0) (fun hb71 => ?_) (fun hb71 => ?_)
      ·have h72 := cond_t h70 hb71
       refine Vg 58 9 19 true 57 hb71 (mv 5 (.string ⟨(r22.1).toArray⟩)) ?_
       refine Vg 59 4 19 true 57 hb71 (run_scmp (t := 9) (t' := 9) (x := (.tmp 58)) (y := (.const (.string ⟨([50, 32, 48, 49, 48, 53] : List UInt8).toArray⟩))) (op := .eql) (a := r22.1) (b := ([50, 32, 48, 49, 48, 53] : List UInt8)) (v := (r22.1 == ([50, 32, 48, 49, 48, 53] : List UInt8))) rfl rfl rfl) ?_
       refine V 60 4 (p1 57 (.tmp 59) (.const (.bool false)) (.bool (r22.1 == ([50, 32, 48, 49, 48, 53] : List UInt8))) hb71) ?_
       refine V 61 4 (mv 60 (.bool (r22.1 == ([50, 32, 48, 49, 48, 53] : List UInt8)))) ?_
       refine RWP.split (r22.1 == ([50, 32, 48, 49, 48, 53] : List UInt8)) (fun hb73 => ?_) (fun hb73 => ?_)
       ·have h74 := cond_t h72 hb73
        refine Vg 62 23 23 true 61 hb73 (mv 8 (vi r30.2)) ?_
        refine Vg 63 4 23 true 61 hb73 (run_eql (t := 23) (t' := 23) (x := (.tmp 62)) (y := (.const (vi 0))) (k := .i64) (a := r30.2) (b := 0) rfl rfl) ?_
        refine V 64 4 (p1 61 (.tmp 63) (.const (.bool false)) (.bool (r30.2 == 0)) hb73) ?_
        refine V 65 4 (mv 64 (.bool (r30.2 == 0))) ?_
        refine RWP.split (r30.2 == 0) (fun hb75 => ?_) (fun hb75 => ?_)
        ·have h76 := cond_t h74 hb75
         refine Vg 66 3 27 true 65 hb75 (mv 7 (vi r30.1)) ?_
         refine Vg 67 4 27 true 65 hb75 (run_eql (t := 3) (t' := 3) (x := (.tmp 66)) (y := (.const (vi 1505))) (k := .i64) (a := r30.1) (b := 1505) rfl rfl) ?_
         refine V 68 4 (p1 65 (.tmp 67) (.const (.bool false)) (.bool (r30.1 == 1505)) hb75) ?_
         refine V 69 4 (mv 68 (.bool (r30.1 == 1505))) ?_
         refine RWP.split (r30.1 == 1505) (fun hb77 => ?_) (fun hb77 => ?_)
         ·have h78 := cond_t h76 hb77
          refine Vg 70 23 31 true 69 hb77 (mv 12 (vi r47.2.2)) ?_
          refine Vg 71 4 31 true 69 hb77 (run_eql (t := 23) (t' := 23) (x := (.tmp 70)) (y := (.const (vi 0))) (k := .i64) (a := r47.2.2) (b := 0) rfl rfl) ?_
          refine V 72 4 (p1 69 (.tmp 71) (.const (.bool false)) (.bool (r47.2.2 == 0)) hb77) ?_
          refine V 73 4 (mv 72 (.bool (r47.2.2 == 0))) ?_
          refine RWP.split (r47.2.2 == 0) (fun hb79 => ?_) (fun hb79 => ?_)
          ·have h80 := cond_t h78 hb79
           refine Vg 74 3 35 true 73 hb79 (mv 10 (vi r47.1)) ?_
           refine Vg 75 4 35 true 73 hb79 (run_eql (t := 3) (t' := 3) (x := (.tmp 74)) (y := (.const (vi 1))) (k := .i64) (a := r47.1) (b := 1) rfl rfl) ?_
           refine V 76 4 (p1 73 (.tmp 75) (.const (.bool false)) (.bool (r47.1 == 1)) hb79) ?_
           refine V 77 4 (mv 76 (.bool (r47.1 == 1))) ?_
           refine RWP.split (r47.1 == 1) (fun hb81 => ?_) (fun hb81 => ?_)
           ·have h82 := cond_t h80 hb81
            refine Vg 78 3 39 true 77 hb81 (mv 11 (vi r47.2.1)) ?_
            refine Vg 79 4 39 true 77 hb81 (run_eql (t := 3) (t' := 3) (x := (.tmp 78)) (y := (.const (vi 750))) (k := .i64) (a := r47.2.1) (b := 750) rfl rfl) ?_
            refine V 80 4 (p1 77 (.tmp 79) (.const (.bool false)) (.bool (r47.2.1 == 750)) hb81) ?_
            refine V 81 4 (mv 80 (.bool (r47.2.1 == 750))) ?_
            refine RWP.split (r47.2.1 == 750) (fun hb83 => ?_) (fun hb83 => ?_)
            ·have h84 := cond_t h82 hb83
             obtain ⟨r85, hr86, h87⟩ := bind_some h84
             refine RWP.call (dst := (some 82)) (ty := 4) (g := (some (43, true))) (by kernel_rfl) (gd_y (d := 81) (by kernel_rfl) rfl hb83) (f0 := (.func 37)) (aos := #[(.const (.string ⟨([68, 76, 49, 65, 47, 87, 49, 65] : List UInt8).toArray⟩))]) (ats := #[9]) (fid := 37) (first := #[]) (cap := #[]) (args := [(.string ⟨(([68, 76, 49, 65, 47, 87, 49, 65] : List UInt8)).toArray⟩)]) rfl co_air_ValidCall (rfl) hs52 (c_air_ValidCall N w51 F6 hs52.pers (hG.mono (((((le7.trans le20).trans le28).trans le36).trans le44).trans le53)) (([68, 76, 49, 65, 47, 87, 49, 65] : List UInt8)) _ hr86) ?_
             intro v88 F8 w89 hs90 le91 hp92
             obtain rfl := hp92
             refine Vg 83 4 43 true 81 hb83 (run_not (t := 4) (x := (.tmp 82)) (a := r85) rfl) ?_
             refine V 84 4 (p1 81 (.tmp 83) (.const (.bool false)) (.bool (!r85)) hb83) ?_
             refine V 0 4 (ma 84 (.bool (!r85))) ?_
             obtain rfl := some_inj h87
             have hs93 : HS w0 F0 w89 F8 [] := hs90.drop 0
             exact RWP.nil ⟨rfl, F8, hs93, le91, rfl, rfl⟩
            ·have h94 := cond_f h82 hb83
             refine Sk [82, 83] 43 true 81 hb83 ?_
             refine V 84 4 (p0 81 (.tmp 83) (.const (.bool false)) (.bool false) hb83) ?_
             refine V 0 4 (ma 84 (.bool false)) ?_
             obtain rfl := some_inj h94
             have hs95 : HS w0 F0 w51 F6 [] := hs52.drop 0
             exact RWP.nil ⟨rfl, F6, hs95, (Mem.le.refl _), rfl, rfl⟩
           ·have h96 := cond_f h80 hb81
            refine Sk [78, 79] 39 true 77 hb81 ?_
            refine V 80 4 (p0 77 (.tmp 79) (.const (.bool false)) (.bool false) hb81) ?_
            refine V 81 4 (mv 80 (.bool false)) ?_
            refine Sk [82, 83] 43 true 81 rfl ?_
            refine V 84 4 (p0 81 (.tmp 83) (.const (.bool false)) (.bool false) rfl) ?_
            refine V 0 4 (ma 84 (.bool false)) ?_
            obtain rfl := some_inj h96
            have hs97 : HS w0 F0 w51 F6 [] := hs52.drop 0
            exact RWP.nil ⟨rfl, F6, hs97, (Mem.le.refl _), rfl, rfl⟩
          ·have h98 := cond_f h78 hb79
           refine Sk [74, 75] 35 true 73 hb79 ?_
           refine V 76 4 (p0 73 (.tmp 75) (.const (.bool false)) (.bool false) hb79) ?_
           refine V 77 4 (mv 76 (.bool false)) ?_
           refine Sk [78, 79] 39 true 77 rfl ?_
           refine V 80 4 (p0 77 (.tmp 79) (.const (.bool false)) (.bool false) rfl) ?_
           refine V 81 4 (mv 80 (.bool false)) ?_
           refine Sk [82, 83] 43 true 81 rfl ?_
           refine V 84 4 (p0 81 (.tmp 83) (.const (.bool false)) (.bool false) rfl) ?_
           refine V 0 4 (ma 84 (.bool false)) ?_
           obtain rfl := some_inj h98
           have hs99 : HS w0 F0 w51 F6 [] := hs52.drop 0
           exact RWP.nil ⟨rfl, F6, hs99, (Mem.le.refl _), rfl, rfl⟩
         ·have h100 := cond_f h76 hb77
          refine Sk [70, 71] 31 true 69 hb77 ?_
          refine V 72 4 (p0 69 (.tmp 71) (.const (.bool false)) (.bool false) hb77) ?_
          refine V 73 4 (mv 72 (.bool false)) ?_
          refine Sk [74, 75] 35 true 73 rfl ?_
          refine V 76 4 (p0 73 (.tmp 75) (.const (.bool false)) (.bool false) rfl) ?_
          refine V 77 4 (mv 76 (.bool false)) ?_
          refine Sk [78, 79] 39 true 77 rfl ?_
          refine V 80 4 (p0 77 (.tmp 79) (.const (.bool false)) (.bool false) rfl) ?_
          refine V 81 4 (mv 80 (.bool false)) ?_
          refine Sk [82, 83] 43 true 81 rfl ?_
          refine V 84 4 (p0 81 (.tmp 83) (.const (.bool false)) (.bool false) rfl) ?_
          refine V 0 4 (ma 84 (.bool false)) ?_
          obtain rfl := some_inj h100
          have hs101 : HS w0 F0 w51 F6 [] := hs52.drop 0
          exact RWP.nil ⟨rfl, F6, hs101, (Mem.le.refl _), rfl, rfl⟩
        ·have h102 := cond_f h74 hb75
         refine Sk [66, 67] 27 true 65 hb75 ?_
         refine V 68 4 (p0 65 (.tmp 67) (.const (.bool false)) (.bool false) hb75) ?_
         refine V 69 4 (mv 68 (.bool false)) ?_
         refine Sk [70, 71] 31 true 69 rfl ?_
         refine V 72 4 (p0 69 (.tmp 71) (.const (.bool false)) (.bool false) rfl) ?_
         refine V 73 4 (mv 72 (.bool false)) ?_
         refine Sk [74, 75] 35 true 73 rfl ?_
         refine V 76 4 (p0 73 (.tmp 75) (.const (.bool false)) (.bool false) rfl) ?_
         refine V 77 4 (mv 76 (.bool false)) ?_
         refine Sk [78, 79] 39 true 77 rfl ?_
         refine V 80 4 (p0 77 (.tmp 79) (.const (.bool false)) (.bool false) rfl) ?_
         refine V 81 4 (mv 80 (.bool false)) ?_
         refine Sk [82, 83] 43 true 81 rfl ?_
         refine V 84 4 (p0 81 (.tmp 83) (.const (.bool false)) (.bool false) rfl) ?_
         refine V 0 4 (ma 84 (.bool false)) ?_
         obtain rfl := some_inj h102
         have hs103 : HS w0 F0 w51 F6 [] := hs52.drop 0
         exact RWP.nil ⟨rfl, F6, hs103, (Mem.le.refl _), rfl, rfl⟩
       ·have h104 := cond_f h72 hb73
        refine Sk [62, 63] 23 true 61 hb73 ?_
        refine V 64 4 (p0 61 (.tmp 63) (.const (.bool false)) (.bool false) hb73) ?_
        refine V 65 4 (mv 64 (.bool false)) ?_
        refine Sk [66, 67] 27 true 65 rfl ?_
        refine V 68 4 (p0 65 (.tmp 67) (.const (.bool false)) (.bool false) rfl) ?_
        refine V 69 4 (mv 68 (.bool false)) ?_
        refine Sk [70, 71] 31 true 69 rfl ?_
        refine V 72 4 (p0 69 (.tmp 71) (.const (.bool false)) (.bool false) rfl) ?_
        refine V 73 4 (mv 72 (.bool false)) ?_
        refine Sk [74, 75] 35 true 73 rfl ?_
        refine V 76 4 (p0 73 (.tmp 75) (.const (.bool false)) (.bool false) rfl) ?_
        refine V 77 4 (mv 76 (.bool false)) ?_
        refine Sk [78, 79] 39 true 77 rfl ?_
        refine V 80 4 (p0 77 (.tmp 79) (.const (.bool false)) (.bool false) rfl) ?_
        refine V 81 4 (mv 80 (.bool false)) ?_
        refine Sk [82, 83] 43 true 81 rfl ?_
        refine V 84 4 (p0 81 (.tmp 83) (.const (.bool false)) (.bool false) rfl) ?_
        refine V 0 4 (ma 84 (.bool false)) ?_
        obtain rfl := some_inj h104
        have hs105 : HS w0 F0 w51 F6 [] := hs52.drop 0
        exact RWP.nil ⟨rfl, F6, hs105, (Mem.le.refl _), rfl, rfl⟩
      ·have h106 := cond_f h70 hb71
       refine Sk [58, 59] 19 true 57 hb71 ?_
       refine V 60 4 (p0 57 (.tmp 59) (.const (.bool false)) (.bool false) hb71) ?_
       refine V 61 4 (mv 60 (.bool false)) ?_
       refine Sk [62, 63] 23 true 61 rfl ?_
       refine V 64 4 (p0 61 (.tmp 63) (.const (.bool false)) (.bool false) rfl) ?_
       refine V 65 4 (mv 64 (.bool false)) ?_
       refine Sk [66, 67] 27 true 65 rfl ?_
       refine V 68 4 (p0 65 (.tmp 67) (.const (.bool false)) (.bool false) rfl) ?_
       refine V 69 4 (mv 68 (.bool false)) ?_
       refine Sk [70, 71] 31 true 69 rfl ?_
       refine V 72 4 (p0 69 (.tmp 71) (.const (.bool false)) (.bool false) rfl) ?_
       refine V 73 4 (mv 72 (.bool false)) ?_
       refine Sk [74, 75] 35 true 73 rfl ?_
       refine V 76 4 (p0 73 (.tmp 75) (.const (.bool false)) (.bool false) rfl) ?_
       refine V 77 4 (mv 76 (.bool false)) ?_
       refine Sk [78, 79] 39 true 77 rfl ?_
       refine V 80 4 (p0 77 (.tmp 79) (.const (.bool false)) (.bool false) rfl) ?_
       refine V 81 4 (mv 80 (.bool false)) ?_
       refine Sk [82, 83] 43 true 81 rfl ?_
       refine V 84 4 (p0 81 (.tmp 83) (.const (.bool false)) (.bool false) rfl) ?_
       refine V 0 4 (ma 84 (.bool false)) ?_
       obtain rfl := some_inj h106
       have hs107 : HS w0 F0 w51 F6 [] := hs52.drop 0
       exact RWP.nil ⟨rfl, F6, hs107, (Mem.le.refl _), rfl, rfl⟩
     ·have h108 := cond_f h68 hb69
      refine Sk [54, 55] 15 true 53 hb69 ?_
      refine V 56 4 (p0 53 (.tmp 55) (.const (.bool false)) (.bool false) hb69) ?_
      refine V 57 4 (mv 56 (.bool false)) ?_
      refine Sk [58, 59] 19 true 57 rfl ?_
      refine V 60 4 (p0 57 (.tmp 59) (.const (.bool false)) (.bool false) rfl) ?_
      refine V 61 4 (mv 60 (.bool false)) ?_
      refine Sk [62, 63] 23 true 61 rfl ?_
      refine V 64 4 (p0 61 (.tmp 63) (.const (.bool false)) (.bool false) rfl) ?_
      refine V 65 4 (mv 64 (.bool false)) ?_
      refine Sk [66, 67] 27 true 65 rfl ?_
      refine V 68 4 (p0 65 (.tmp 67) (.const (.bool false)) (.bool false) rfl) ?_
      refine V 69 4 (mv 68 (.bool false)) ?_
      refine Sk [70, 71] 31 true 69 rfl ?_
      refine V 72 4 (p0 69 (.tmp 71) (.const (.bool false)) (.bool false) rfl) ?_
      refine V 73 4 (mv 72 (.bool false)) ?_
      refine Sk [74, 75] 35 true 73 rfl ?_
      refine V 76 4 (p0 73 (.tmp 75) (.const (.bool false)) (.bool false) rfl) ?_
      refine V 77 4 (mv 76 (.bool false)) ?_
      refine Sk [78, 79] 39 true 77 rfl ?_
      refine V 80 4 (p0 77 (.tmp 79) (.const (.bool false)) (.bool false) rfl) ?_
      refine V 81 4 (mv 80 (.bool false)) ?_
      refine Sk [82, 83] 43 true 81 rfl ?_
      refine V 84 4 (p0 81 (.tmp 83) (.const (.bool false)) (.bool false) rfl) ?_
      refine V 0 4 (ma 84 (.bool false)) ?_
      obtain rfl := some_inj h108
      have hs109 : HS w0 F0 w51 F6 [] := hs52.drop 0
      exact RWP.nil ⟨rfl, F6, hs109, (Mem.le.refl _), rfl, rfl⟩
    ·have h110 := cond_f h66 hb67
     refine Sk [50, 51] 11 true 49 hb67 ?_
     refine V 52 4 (p0 49 (.tmp 51) (.const (.bool false)) (.bool false) hb67) ?_
     refine V 53 4 (mv 52 (.bool false)) ?_
     refine Sk [54, 55] 15 true 53 rfl ?_
     refine V 56 4 (p0 53 (.tmp 55) (.const (.bool false)) (.bool false) rfl) ?_
     refine V 57 4 (mv 56 (.bool false)) ?_
     refine Sk [58, 59] 19 true 57 rfl ?_
     refine V 60 4 (p0 57 (.tmp 59) (.const (.bool false)) (.bool false) rfl) ?_
     refine V 61 4 (mv 60 (.bool false)) ?_
     refine Sk [62, 63] 23 true 61 rfl ?_
     refine V 64 4 (p0 61 (.tmp 63) (.const (.bool false)) (.bool false) rfl) ?_
     refine V 65 4 (mv 64 (.bool false)) ?_
     refine Sk [66, 67] 27 true 65 rfl ?_
     refine V 68 4 (p0 65 (.tmp 67) (.const (.bool false)) (.bool false) rfl) ?_
     refine V 69 4 (mv 68 (.bool false)) ?_
     refine Sk [70, 71] 31 true 69 rfl ?_
     refine V 72 4 (p0 69 (.tmp 71) (.const (.bool false)) (.bool false) rfl) ?_
     refine V 73 4 (mv 72 (.bool false)) ?_
     refine Sk [74, 75] 35 true 73 rfl ?_
     refine V 76 4 (p0 73 (.tmp 75) (.const (.bool false)) (.bool false) rfl) ?_
     refine V 77 4 (mv 76 (.bool false)) ?_
     refine Sk [78, 79] 39 true 77 rfl ?_
     refine V 80 4 (p0 77 (.tmp 79) (.const (.bool false)) (.bool false) rfl) ?_
     refine V 81 4 (mv 80 (.bool false)) ?_
     refine Sk [82, 83] 43 true 81 rfl ?_
     refine V 84 4 (p0 81 (.tmp 83) (.const (.bool false)) (.bool false) rfl) ?_
     refine V 0 4 (ma 84 (.bool false)) ?_
     obtain rfl := some_inj h110
     have hs111 : HS w0 F0 w51 F6 [] := hs52.drop 0
     exact RWP.nil ⟨rfl, F6, hs111, (Mem.le.refl _), rfl, rfl⟩
   ·have h112 := cond_f h64 hb65
    refine Sk [46, 47] 7 true 45 hb65 ?_
    refine V 48 4 (p0 45 (.tmp 47) (.const (.bool false)) (.bool false) hb65) ?_
    refine V 49 4 (mv 48 (.bool false)) ?_
    refine Sk [50, 51] 11 true 49 rfl ?_
    refine V 52 4 (p0 49 (.tmp 51) (.const (.bool false)) (.bool false) rfl) ?_
    refine V 53 4 (mv 52 (.bool false)) ?_
    refine Sk [54, 55] 15 true 53 rfl ?_
    refine V 56 4 (p0 53 (.tmp 55) (.const (.bool false)) (.bool false) rfl) ?_
    refine V 57 4 (mv 56 (.bool false)) ?_
    refine Sk [58, 59] 19 true 57 rfl ?_
    refine V 60 4 (p0 57 (.tmp 59) (.const (.bool false)) (.bool false) rfl) ?_
    refine V 61 4 (mv 60 (.bool false)) ?_
    refine Sk [62, 63] 23 true 61 rfl ?_
    refine V 64 4 (p0 61 (.tmp 63) (.const (.bool false)) (.bool false) rfl) ?_
    refine V 65 4 (mv 64 (.bool false)) ?_
    refine Sk [66, 67] 27 true 65 rfl ?_
    refine V 68 4 (p0 65 (.tmp 67) (.const (.bool false)) (.bool false) rfl) ?_
    refine V 69 4 (mv 68 (.bool false)) ?_
    refine Sk [70, 71] 31 true 69 rfl ?_
    refine V 72 4 (p0 69 (.tmp 71) (.const (.bool false)) (.bool false) rfl) ?_
    refine V 73 4 (mv 72 (.bool false)) ?_
    refine Sk [74, 75] 35 true 73 rfl ?_
    refine V 76 4 (p0 73 (.tmp 75) (.const (.bool false)) (.bool false) rfl) ?_
    refine V 77 4 (mv 76 (.bool false)) ?_
    refine Sk [78, 79] 39 true 77 rfl ?_
    refine V 80 4 (p0 77 (.tmp 79) (.const (.bool false)) (.bool false) rfl) ?_
    refine V 81 4 (mv 80 (.bool false)) ?_
    refine Sk [82, 83] 43 true 81 rfl ?_
    refine V 84 4 (p0 81 (.tmp 83) (.const (.bool false)) (.bool false) rfl) ?_
    refine V 0 4 (ma 84 (.bool false)) ?_
    obtain rfl := some_inj h112
    have hs113 : HS w0 F0 w51 F6 [] := hs52.drop 0
    exact RWP.nil ⟨rfl, F6, hs113, (Mem.le.refl _), rfl, rfl⟩
  ·have h114 := cond_f hj61 hb63
   refine Sk [41, 42, 43] 2 true 40 hb63 ?_
   refine V 44 4 (p0 40 (.tmp 43) (.const (.bool false)) (.bool false) hb63) ?_
   refine V 45 4 (mv 44 (.bool false)) ?_
   refine Sk [46, 47] 7 true 45 rfl ?_
   refine V 48 4 (p0 45 (.tmp 47) (.const (.bool false)) (.bool false) rfl) ?_
   refine V 49 4 (mv 48 (.bool false)) ?_
   refine Sk [50, 51] 11 true 49 rfl ?_
   refine V 52 4 (p0 49 (.tmp 51) (.const (.bool false)) (.bool false) rfl) ?_
   refine V 53 4 (mv 52 (.bool false)) ?_
   refine Sk [54, 55] 15 true 53 rfl ?_
   refine V 56 4 (p0 53 (.tmp 55) (.const (.bool false)) (.bool false) rfl) ?_
   refine V 57 4 (mv 56 (.bool false)) ?_
   refine Sk [58, 59] 19 true 57 rfl ?_
   refine V 60 4 (p0 57 (.tmp 59) (.const (.bool false)) (.bool false) rfl) ?_
   refine V 61 4 (mv 60 (.bool false)) ?_
   refine Sk [62, 63] 23 true 61 rfl ?_
   refine V 64 4 (p0 61 (.tmp 63) (.const (.bool false)) (.bool false) rfl) ?_
   refine V 65 4 (mv 64 (.bool false)) ?_
   refine Sk [66, 67] 27 true 65 rfl ?_
   refine V 68 4 (p0 65 (.tmp 67) (.const (.bool false)) (.bool false) rfl) ?_
   refine V 69 4 (mv 68 (.bool false)) ?_
   refine Sk [70, 71] 31 true 69 rfl ?_
   refine V 72 4 (p0 69 (.tmp 71) (.const (.bool false)) (.bool false) rfl) ?_
   refine V 73 4 (mv 72 (.bool false)) ?_
   refine Sk [74, 75] 35 true 73 rfl ?_
   refine V 76 4 (p0 73 (.tmp 75) (.const (.bool false)) (.bool false) rfl) ?_
   refine V 77 4 (mv 76 (.bool false)) ?_
   refine Sk [78, 79] 39 true 77 rfl ?_
   refine V 80 4 (p0 77 (.tmp 79) (.const (.bool false)) (.bool false) rfl) ?_
   refine V 81 4 (mv 80 (.bool false)) ?_
   refine Sk [82, 83] 43 true 81 rfl ?_
   refine V 84 4 (p0 81 (.tmp 83) (.const (.bool false)) (.bool false) rfl) ?_
   refine V 0 4 (ma 84 (.bool false)) ?_
   obtain rfl := some_inj h114
   have hs115 : HS w0 F0 w51 F6 [] := hs52.drop 0
   exact RWP.nil ⟨rfl, F6, hs115, (Mem.le.refl _), rfl, rfl⟩
 ·rintro f w55 ⟨F7, hs56, le57, e59, e60⟩
  refine thenQ_nrm ?_
  refine CWP.ret (by kernel_rfl) ?_
  have hfin := some_inj h62
  subst hfin
  exact ⟨e59, (.bool j58), res_of (l := [.tmp 0]) (by kernel_rfl) (vs := [(.bool j58)]) ⟨e60, trivial⟩, (.bool j58), F7, rfl, hs56.clear, rfl⟩
end Go.Proofs.YtlddakefmfcblaaGreatDoor
namespace Go.Proofs.YtlddakefmfcblaaGreatDoor
open Go.Lib (decDigits)
theorem aw1 : splitS [71, 51, 47, 77, 48, 65, 66, 47, 80] = ({ Area := [71, 51], Prefix := [77, 48], Suffix := [65, 66], Stroke := [80] }, 0) := by rfl
theorem aw2 : prefixS [87, 49, 65, 87, 47, 52] = ([87, 52], 0) := by rfl
theorem aw3 : tText 1505 = [50, 32, 48, 49, 48, 53] := by
 unfold tText dP
 rw [show 1505 / 1440 + 1 = 2 from rfl, show 1505 / 60 % 24 = 1 from rfl, show 1505 % 60 = 5 from rfl, dd_small (by decide), dd_small (by decide), dd_small (by decide)]
 rfl
theorem aw4 : printT 1505 = ([50, 32, 48, 49, 48, 53], 0) := by
 unfold printT
 rw [if_pos (by decide)]
 show (tText 1505, (0 : Int)) = _
 rw [aw3]
theorem aw5 : parseT [50, 32, 48, 49, 48, 53] = (1505, 0) := by
 rw [← aw3, parse_text (by decide)]; rfl
theorem aw6 : validS [68, 76, 49, 65, 47, 87, 49, 65] = false := by rfl
theorem aw7 : nearestS [{ ID := 1, Lo := 1800, Hi := 2000 }, { ID := 2, Lo := 3500, Hi := 3800 }] 2750 = (1, 750, 0) := by decide
theorem awake_true {N : Nat} (hN : 4294967300 < N) : law01_awake N = some true := by
 unfold law01_awake
 rw [s_Split _ hN, aw1, Option.bind_some, s_PrefixOf _ hN, aw2, Option.bind_some, s_PrintTime, aw4, Option.bind_some, s_ParseTime _ (by simp) hN, aw5, Option.bind_some, s_Nearest (by simp) hN, aw7, Option.bind_some]
 simp only [s_Valid _ hN, aw6]
 rfl
end Go.Proofs.YtlddakefmfcblaaGreatDoor
namespace Go.Proofs.YtlddakefmfcblaaGreatDoor
open Go.Proofs
def law01_figure (N : Nat) (x0 : Int) : Option Bool :=
 some ((decide (48 ≤ x0)) && (decide (x0 ≤ 57)))
theorem co_law01_figure : CallOk Tryz.prog 20 := fun _ _ => by kernel_rfl
set_option maxHeartbeats 4000000 in
set_option maxRecDepth 100000 in
theorem c_law01_figure (N : Nat) (w0 : World) (F0 : Mem) (hF : ∀ b o, F0 b = some o → w0.heap[b]? = some o) (x0 : Int) (r : Bool) (h : law01_figure N x0 = some r) :
  Calls Tryz.prog 20 ([(.int .u8 x0)] : List Value).toArray w0 (FRet w0 F0 fun F' v => v = (.bool r)) := by
 have hs0 := HS.start hF
 refine calls_of (n := 9) (c := bodyOf Tryz.f20) Tryz.func20 (by kernel_rfl) (by kernel_rfl) (by kernel_rfl) ?_
 refine Sq (Rg [0] ?_)
 refine V 2 4 (mc (.bool false) (.bool false)) ?_
 refine Nss (Rg [0, 1, 2, 3, 4, 5, 6] ?_)
 refine RWP.cut (fun f w => ∃ (F1 : Mem), HS w0 F0 w F1 [] ∧ Mem.le F0 F1 ∧ f.d = [] ∧ f 2 = (.bool ((decide (48 ≤ x0)) && (decide (x0 ≤ 57))))) ?_ ?_
 ·refine V 3 5 (mv 0 (.int .u8 x0)) ?_
  refine V 4 4 (run_leq (t := 5) (t' := 5) (x := (.const (.int .u8 48))) (y := (.tmp 3)) (k := .u8) (a := 48) (b := x0) rfl rfl) ?_
  refine V 5 4 (mv 4 (.bool (decide (48 ≤ x0)))) ?_
  refine RWP.split (decide (48 ≤ x0)) (fun hb6 => ?_) (fun hb6 => ?_)
  ·refine Vg 6 5 2 true 5 hb6 (mv 0 (.int .u8 x0)) ?_
   refine Vg 7 4 2 true 5 hb6 (run_leq (t := 5) (t' := 5) (x := (.tmp 6)) (y := (.const (.int .u8 57))) (k := .u8) (a := x0) (b := 57) rfl rfl) ?_
   refine V 8 4 (p1 5 (.tmp 7) (.const (.bool false)) (.bool (decide (x0 ≤ 57))) hb6) ?_
   refine V 2 4 (ma 8 (.bool (decide (x0 ≤ 57)))) ?_
   exact RWP.nil ⟨rfl, F0, hs0, (Mem.le.refl _), rfl, (congrArg Value.bool (and_t hb6 (rfl)))⟩
  ·refine Sk [6, 7] 2 true 5 hb6 ?_
   refine V 8 4 (p0 5 (.tmp 7) (.const (.bool false)) (.bool false) hb6) ?_
   refine V 2 4 (ma 8 (.bool false)) ?_
   exact RWP.nil ⟨rfl, F0, hs0, (Mem.le.refl _), rfl, (congrArg Value.bool (and_f hb6 (rfl)))⟩
 ·rintro f w1 ⟨F1, hs2, le3, e4, e5⟩
  refine thenQ_nrm ?_
  refine CWP.ret (by kernel_rfl) ?_
  have hfin := some_inj h
  subst hfin
  exact ⟨e4, (.bool ((decide (48 ≤ x0)) && (decide (x0 ≤ 57)))), res_of (l := [.tmp 2]) (by kernel_rfl) (vs := [(.bool ((decide (48 ≤ x0)) && (decide (x0 ≤ 57))))]) ⟨e5, trivial⟩, (.bool ((decide (48 ≤ x0)) && (decide (x0 ≤ 57)))), F1, rfl, hs2.clear, rfl⟩
end Go.Proofs.YtlddakefmfcblaaGreatDoor
namespace Go.Proofs.YtlddakefmfcblaaGreatDoor
open Go.Proofs
def law01_upper (N : Nat) (x0 : Int) : Option Bool :=
 some ((decide (65 ≤ x0)) && (decide (x0 ≤ 90)))
theorem co_law01_upper : CallOk Tryz.prog 21 := fun _ _ => by kernel_rfl
set_option maxHeartbeats 4000000 in
set_option maxRecDepth 100000 in
theorem c_law01_upper (N : Nat) (w0 : World) (F0 : Mem) (hF : ∀ b o, F0 b = some o → w0.heap[b]? = some o) (x0 : Int) (r : Bool) (h : law01_upper N x0 = some r) :
  Calls Tryz.prog 21 ([(.int .u8 x0)] : List Value).toArray w0 (FRet w0 F0 fun F' v => v = (.bool r)) := by
 have hs0 := HS.start hF
 refine calls_of (n := 9) (c := bodyOf Tryz.f21) Tryz.func21 (by kernel_rfl) (by kernel_rfl) (by kernel_rfl) ?_
 refine Sq (Rg [0] ?_)
 refine V 2 4 (mc (.bool false) (.bool false)) ?_
 refine Nss (Rg [0, 1, 2, 3, 4, 5, 6] ?_)
 refine RWP.cut (fun f w => ∃ (F1 : Mem), HS w0 F0 w F1 [] ∧ Mem.le F0 F1 ∧ f.d = [] ∧ f 2 = (.bool ((decide (65 ≤ x0)) && (decide (x0 ≤ 90))))) ?_ ?_
 ·refine V 3 5 (mv 0 (.int .u8 x0)) ?_
  refine V 4 4 (run_leq (t := 5) (t' := 5) (x := (.const (.int .u8 65))) (y := (.tmp 3)) (k := .u8) (a := 65) (b := x0) rfl rfl) ?_
  refine V 5 4 (mv 4 (.bool (decide (65 ≤ x0)))) ?_
  refine RWP.split (decide (65 ≤ x0)) (fun hb6 => ?_) (fun hb6 => ?_)
  ·refine Vg 6 5 2 true 5 hb6 (mv 0 (.int .u8 x0)) ?_
   refine Vg 7 4 2 true 5 hb6 (run_leq (t := 5) (t' := 5) (x := (.tmp 6)) (y := (.const (.int .u8 90))) (k := .u8) (a := x0) (b := 90) rfl rfl) ?_
   refine V 8 4 (p1 5 (.tmp 7) (.const (.bool false)) (.bool (decide (x0 ≤ 90))) hb6) ?_
   refine V 2 4 (ma 8 (.bool (decide (x0 ≤ 90)))) ?_
   exact RWP.nil ⟨rfl, F0, hs0, (Mem.le.refl _), rfl, (congrArg Value.bool (and_t hb6 (rfl)))⟩
  ·refine Sk [6, 7] 2 true 5 hb6 ?_
   refine V 8 4 (p0 5 (.tmp 7) (.const (.bool false)) (.bool false) hb6) ?_
   refine V 2 4 (ma 8 (.bool false)) ?_
   exact RWP.nil ⟨rfl, F0, hs0, (Mem.le.refl _), rfl, (congrArg Value.bool (and_f hb6 (rfl)))⟩
 ·rintro f w1 ⟨F1, hs2, le3, e4, e5⟩
  refine thenQ_nrm ?_
  refine CWP.ret (by kernel_rfl) ?_
  have hfin := some_inj h
  subst hfin
  exact ⟨e4, (.bool ((decide (65 ≤ x0)) && (decide (x0 ≤ 90)))), res_of (l := [.tmp 2]) (by kernel_rfl) (vs := [(.bool ((decide (65 ≤ x0)) && (decide (x0 ≤ 90))))]) ⟨e5, trivial⟩, (.bool ((decide (65 ≤ x0)) && (decide (x0 ≤ 90)))), F1, rfl, hs2.clear, rfl⟩
end Go.Proofs.YtlddakefmfcblaaGreatDoor
namespace Go.Proofs.YtlddakefmfcblaaGreatDoor
open Go.Proofs
def law01_AirPrefixes_L0 (N : Nat) (x0 : (List UInt8)) (r1 : Bool) (r12 : ((List UInt8) × Int)) (r20 : (Parts × Int)) (j60 : (Bool)) : (Int × Int) → Option (Flow Bool (Int × Int)) := fun s88 =>
 (bif (decide (s88.2 < (r12.1.length : Int))) then ((sidx r12.1 s88.2).bind fun c115 => ((law01_upper N c115).bind fun r118 => (bif r118 then some (.next ((W64 (s88.1 + 1)), (W64 (s88.2 + 1)))) else ((sidx r12.1 s88.2).bind fun c130 => ((law01_figure N c130).bind fun r133 => (bif (!r133) then some (.ret false) else some (.next (s88.1, (W64 (s88.2 + 1)))))))))) else some (.done (s88.1, s88.2)))
def law01_AirPrefixes (N : Nat) (x0 : (List UInt8)) : Option Bool :=
 ((law01_awake N ).bind fun r1 => (bif (decide ((x0.length : Int) > 1000)) then some r1 else ((air_PrefixOf N x0).bind fun r12 => ((air_Split N x0).bind fun r20 => (bif ((r12.2 != 0) || (r20.2 != 0)) then some (r1 && ((r12.2 == r20.2) && (r12.1 == ([] : List UInt8)))) else ((bif (decide ((r12.1.length : Int) < 2)) then some true else ((sidx r12.1 (W64 ((r12.1.length : Int) - 1))).bind fun c71 => ((law01_figure N c71).bind fun r74 => some (!r74)))).bind fun j60 => (bif j60 then some false else ((iter (law01_AirPrefixes_L0 N x0 r1 r12 r20 j60) N (0, 0)).bind fun o => o.k (fun r => some r) (fun s98 => ((bif (r20.1.Area == ([] : List UInt8)) then (bif (r20.1.Stroke == ([] : List UInt8)) then some true else ((sidx r20.1.Stroke 0).bind fun c165 => ((law01_figure N c165).bind fun r168 => some (!r168)))) else some false).bind fun j151 => some (r1 && ((decide (s98.1 > 0)) && ((!j151) || (r12.1 == r20.1.Prefix))))))))))))))
set_option maxHeartbeats 4000000 in
set_option maxRecDepth 100000 in
theorem c_law01_AirPrefixes (N : Nat) (w0 : World) (F0 : Mem) (hF : ∀ b o, F0 b = some o → w0.heap[b]? = some o) (hG : Glob F0) (x0 : (List UInt8)) (r : Bool) (h : law01_AirPrefixes N x0 = some r) :
  Calls Tryz.prog 3 ([(.string ⟨(x0).toArray⟩)] : List Value).toArray w0 (FRet w0 F0 fun F' v => v = (.bool r)) := by
 have hs0 := HS.start hF
 refine calls_of (n := 101) (c := bodyOf Tryz.f3) Tryz.func3 (by kernel_rfl) (by kernel_rfl) (by kernel_rfl) ?_
 refine Sq (Rg [0] ?_)
 refine V 2 4 (mc (.bool false) (.bool false)) ?_
 refine Nss (Rg [0, 1] ?_)
 obtain ⟨r1, hr2, h3⟩ := bind_some h
 refine Cl 11 4 17 #[] #[] co_law01_awake hs0 (c_law01_awake N w0 F0 hs0.pers hG  _ hr2) ?_
 intro v4 F1 w5 hs6 le7 hp8
 obtain rfl := hp8
 refine V 3 4 (ma 11 (.bool r1)) ?_
 refine Nss ?_
 refine Sq (Rg [0, 1, 2] ?_)
 refine V 12 9 (mv 0 (.string ⟨(x0).toArray⟩)) ?_
 refine V 13 3 (run_slen (x := (.tmp 12)) (ats := #[9]) (t := 9) (a := x0) rfl rfl (by kernel_rfl)) ?_
 refine V 14 4 (run_gtr (t := 3) (t' := 3) (x := (.tmp 13)) (y := (.const (vi 1000))) (k := .i64) (a := (x0.length : Int)) (b := 1000) rfl rfl) ?_
 refine Nt ?_
 refine CWP.cond (t := (decide ((x0.length : Int) > 1000))) (by kernel_rfl) rfl (fun hb9 => ?_) (fun hb9 => ?_)
 ·have h10 := cond_t h3 hb9
  refine Sq (Rg [0, 1] ?_)
  refine V 15 4 (mv 3 (.bool r1)) ?_
  refine V 2 4 (ma 15 (.bool r1)) ?_
  refine Nt ?_
  refine CWP.ret (by kernel_rfl) ?_
  refine thenQ_ret ?_
  have hfin := some_inj h10
  subst hfin
  exact ⟨rfl, (.bool r1), res_of (l := [.tmp 2]) (by kernel_rfl) (vs := [(.bool r1)]) ⟨rfl, trivial⟩, (.bool r1), F1, rfl, hs6.clear, rfl⟩
 ·have h11 := cond_f h3 hb9
  refine Sc ?_
  refine thenQ_nrm ?_
  refine Sq (Rg [0, 1, 2, 3, 4, 5, 6] ?_)
  refine V 17 9 (mv 0 (.string ⟨(x0).toArray⟩)) ?_
  obtain ⟨r12, hr13, h14⟩ := bind_some h11
  refine Cl 18 24 18 #[(.tmp 17)] #[9] co_air_PrefixOf hs6 (c_air_PrefixOf N w5 F1 hs6.pers (hG.mono le7) (x0) _ hr13) ?_
  intro v15 F2 w16 hs17 le18 hp19
  obtain rfl := hp19
  refine V 16 24 (mv 18 (.tuple #[(.string ⟨(r12.1).toArray⟩), (vi r12.2)])) ?_
  refine V 19 9 (ex 16 0 (.string ⟨(r12.1).toArray⟩) (vs := #[(.string ⟨(r12.1).toArray⟩), (vi r12.2)])) ?_
  refine V 20 23 (ex 16 1 (vi r12.2) (vs := #[(.string ⟨(r12.1).toArray⟩), (vi r12.2)])) ?_
  refine V 4 9 (ma 19 (.string ⟨(r12.1).toArray⟩)) ?_
  refine V 5 23 (ma 20 (vi r12.2)) ?_
  refine Nss (Rg [0, 1, 2, 3, 4, 5, 6, 7] ?_)
  refine V 22 9 (mv 0 (.string ⟨(x0).toArray⟩)) ?_
  obtain ⟨r20, hr21, h22⟩ := bind_some h14
  refine Cl 23 28 19 #[(.tmp 22)] #[9] co_air_Split hs17 (c_air_Split N w16 F2 hs17.pers (hG.mono (le7.trans le18)) (x0) _ hr21) ?_
  intro v23 F3 w24 hs25 le26 hp27
  obtain rfl := hp27
  refine V 21 28 (mv 23 (.tuple #[(.agg #[(.string ⟨(r20.1.Area).toArray⟩), (.string ⟨(r20.1.Prefix).toArray⟩), (.string ⟨(r20.1.Suffix).toArray⟩), (.string ⟨(r20.1.Stroke).toArray⟩)]), (vi r20.2)])) ?_
  refine V 24 27 (ex 21 0 (.agg #[(.string ⟨(r20.1.Area).toArray⟩), (.string ⟨(r20.1.Prefix).toArray⟩), (.string ⟨(r20.1.Suffix).toArray⟩), (.string ⟨(r20.1.Stroke).toArray⟩)]) (vs := #[(.agg #[(.string ⟨(r20.1.Area).toArray⟩), (.string ⟨(r20.1.Prefix).toArray⟩), (.string ⟨(r20.1.Suffix).toArray⟩), (.string ⟨(r20.1.Stroke).toArray⟩)]), (vi r20.2)])) ?_
  refine V 25 23 (ex 21 1 (vi r20.2) (vs := #[(.agg #[(.string ⟨(r20.1.Area).toArray⟩), (.string ⟨(r20.1.Prefix).toArray⟩), (.string ⟨(r20.1.Suffix).toArray⟩), (.string ⟨(r20.1.Stroke).toArray⟩)]), (vi r20.2)])) ?_
  refine Al 6 0 27 #[(.string ⟨(([] : List UInt8)).toArray⟩), (.string ⟨(([] : List UInt8)).toArray⟩), (.string ⟨(([] : List UInt8)).toArray⟩), (.string ⟨(([] : List UInt8)).toArray⟩)] hs25 (fun b28 w29 (hs30 : HS w0 F0 w29 F3 [(sb b28 #[(.string ⟨(([] : List UInt8)).toArray⟩), (.string ⟨(([] : List UInt8)).toArray⟩), (.string ⟨(([] : List UInt8)).toArray⟩), (.string ⟨(([] : List UInt8)).toArray⟩)] 27)]) => ?_)
  refine RWP.store (ty := 0) (g := none) (by kernel_rfl) rfl (x := (.tmp 6)) (y := (.tmp 24)) (t := 27) (gg := true) (s := 4) (v := (.agg #[(.string ⟨(r20.1.Area).toArray⟩), (.string ⟨(r20.1.Prefix).toArray⟩), (.string ⟨(r20.1.Suffix).toArray⟩), (.string ⟨(r20.1.Stroke).toArray⟩)])) (b := b28) (o := 0) (C := #[(.string ⟨(([] : List UInt8)).toArray⟩), (.string ⟨(([] : List UInt8)).toArray⟩), (.string ⟨(([] : List UInt8)).toArray⟩), (.string ⟨(([] : List UInt8)).toArray⟩)]) rfl rfl (by kernel_rfl) hs30 (k := 0) rfl rfl rfl rfl (C' := #[(.string ⟨(r20.1.Area).toArray⟩), (.string ⟨(r20.1.Prefix).toArray⟩), (.string ⟨(r20.1.Suffix).toArray⟩), (.string ⟨(r20.1.Stroke).toArray⟩)]) rfl (fun w31 (hs32 : HS w0 F0 w31 F3 [(sb b28 #[(.string ⟨(r20.1.Area).toArray⟩), (.string ⟨(r20.1.Prefix).toArray⟩), (.string ⟨(r20.1.Suffix).toArray⟩), (.string ⟨(r20.1.Stroke).toArray⟩)] 27)]) => ?_)
  refine V 7 23 (ma 25 (vi r20.2)) ?_
  refine Nss ?_
  refine Sq (Rg [0, 1, 2, 3, 4, 5] ?_)
  refine RWP.cut (fun f w => ∃ (F4 : Mem), HS w0 F0 w F4 [(sb b28 #[(.string ⟨(r20.1.Area).toArray⟩), (.string ⟨(r20.1.Prefix).toArray⟩), (.string ⟨(r20.1.Suffix).toArray⟩), (.string ⟨(r20.1.Stroke).toArray⟩)] 27)] ∧ Mem.le F3 F4 ∧ f.d = [] ∧ f 3 = (.bool r1) ∧ f 4 = (.string ⟨(r12.1).toArray⟩) ∧ f 5 = (vi r12.2) ∧ f 6 = (.pointer (some ⟨b28, 0, none⟩)) ∧ f 7 = (vi r20.2) ∧ f 31 = (.bool ((r12.2 != 0) || (r20.2 != 0)))) ?_ ?_
  ·refine V 26 23 (mv 5 (vi r12.2)) ?_
   refine V 27 4 (run_neq (t := 23) (t' := 23) (x := (.tmp 26)) (y := (.const (vi 0))) (k := .i64) (a := r12.2) (b := 0) rfl rfl) ?_
   refine V 28 4 (mv 27 (.bool (r12.2 != 0))) ?_
   refine RWP.split (r12.2 != 0) (fun hb43 => ?_) (fun hb43 => ?_)
   ·refine Sk [29, 30] 2 false 28 hb43 ?_
    refine V 31 4 (p1 28 (.const (.bool true)) (.tmp 30) (.bool true) hb43) ?_
    exact RWP.nil ⟨rfl, F3, hs32, (Mem.le.refl _), rfl, rfl, rfl, rfl, rfl, rfl, (congrArg Value.bool (or_t hb43 (rfl)))⟩
   ·refine Vg 29 23 2 false 28 hb43 (mv 7 (vi r20.2)) ?_
    refine Vg 30 4 2 false 28 hb43 (run_neq (t := 23) (t' := 23) (x := (.tmp 29)) (y := (.const (vi 0))) (k := .i64) (a := r20.2) (b := 0) rfl rfl) ?_
    refine V 31 4 (p0 28 (.const (.bool true)) (.tmp 30) (.bool (r20.2 != 0)) hb43) ?_
    exact RWP.nil ⟨rfl, F3, hs32, (Mem.le.refl _), rfl, rfl, rfl, rfl, rfl, rfl, (congrArg Value.bool (or_f hb43 (rfl)))⟩
  ·rintro f w33 ⟨F4, hs34, le35, e36, e37, e38, e39, e40, e41, e42⟩
   refine thenQ_nrm ?_
   refine CWP.cond (t := ((r12.2 != 0) || (r20.2 != 0))) (by kernel_rfl) e42 (fun hb44 => ?_) (fun hb44 => ?_)
   ·have h45 := cond_t h22 hb44
    refine Sq (Rg [0, 1, 2, 3, 4, 5, 6, 7, 8, 9, 10] ?_)
    refine RWP.cut (fun f w => ∃ (F5 : Mem), HS w0 F0 w F5 [] ∧ Mem.le F4 F5 ∧ f.d = [] ∧ f 2 = (.bool (r1 && ((r12.2 == r20.2) && (r12.1 == ([] : List UInt8)))))) ?_ ?_
    ·refine V 32 4 (mv 3 (.bool r1) e37) ?_
     refine V 33 4 (mv 32 (.bool r1)) ?_
     refine RWP.split r1 (fun hb51 => ?_) (fun hb51 => ?_)
     ·refine Vg 34 23 1 true 33 hb51 (mv 5 (vi r12.2) e39) ?_
      refine Vg 35 23 1 true 33 hb51 (mv 7 (vi r20.2) e41) ?_
      refine Vg 36 4 1 true 33 hb51 (run_eql (t := 23) (t' := 23) (x := (.tmp 34)) (y := (.tmp 35)) (k := .i64) (a := r12.2) (b := r20.2) rfl rfl) ?_
      refine V 37 4 (p1 33 (.tmp 36) (.const (.bool false)) (.bool (r12.2 == r20.2)) hb51) ?_
      refine V 38 4 (mv 37 (.bool (r12.2 == r20.2))) ?_
      refine RWP.split (r12.2 == r20.2) (fun hb52 => ?_) (fun hb52 => ?_)
      ·refine Vg 39 9 6 true 38 hb52 (mv 4 (.string ⟨(r12.1).toArray⟩) e38) ?_
       refine Vg 40 4 6 true 38 hb52 (run_scmp (t := 9) (t' := 9) (x := (.tmp 39)) (y := (.const (.string ⟨([] : List UInt8).toArray⟩))) (op := .eql) (a := r12.1) (b := ([] : List UInt8)) (v := (r12.1 == ([] : List UInt8))) rfl rfl rfl) ?_
       refine V 41 4 (p1 38 (.tmp 40) (.const (.bool false)) (.bool (r12.1 == ([] : List UInt8))) hb52) ?_
       refine V 2 4 (ma 41 (.bool (r12.1 == ([] : List UInt8)))) ?_
       have hs53 : HS w0 F0 w33 F4 [] := hs34.drop 0
       exact RWP.nil ⟨rfl, F4, hs53, (Mem.le.refl _), e36, (congrArg Value.bool (and_t hb51 (and_t hb52 (rfl))))⟩
      ·refine Sk [39, 40] 6 true 38 hb52 ?_
       refine V 41 4 (p0 38 (.tmp 40) (.const (.bool false)) (.bool false) hb52) ?_
       refine V 2 4 (ma 41 (.bool false)) ?_
       have hs54 : HS w0 F0 w33 F4 [] := hs34.drop 0
       exact RWP.nil ⟨rfl, F4, hs54, (Mem.le.refl _), e36, (congrArg Value.bool (and_t hb51 (and_f hb52 (rfl))))⟩
     ·refine Sk [34, 35, 36] 1 true 33 hb51 ?_
      refine V 37 4 (p0 33 (.tmp 36) (.const (.bool false)) (.bool false) hb51) ?_
      refine V 38 4 (mv 37 (.bool false)) ?_
      refine Sk [39, 40] 6 true 38 rfl ?_
      refine V 41 4 (p0 38 (.tmp 40) (.const (.bool false)) (.bool false) rfl) ?_
      refine V 2 4 (ma 41 (.bool false)) ?_
      have hs55 : HS w0 F0 w33 F4 [] := hs34.drop 0
      exact RWP.nil ⟨rfl, F4, hs55, (Mem.le.refl _), e36, (congrArg Value.bool (and_f hb51 (rfl)))⟩
    ·rintro f w46 ⟨F5, hs47, le48, e49, e50⟩
     refine thenQ_nrm ?_
     refine CWP.ret (by kernel_rfl) ?_
     refine thenQ_ret ?_
     have hfin := some_inj h45
     subst hfin
     exact ⟨e49, (.bool (r1 && ((r12.2 == r20.2) && (r12.1 == ([] : List UInt8))))), res_of (l := [.tmp 2]) (by kernel_rfl) (vs := [(.bool (r1 && ((r12.2 == r20.2) && (r12.1 == ([] : List UInt8)))))]) ⟨e50, trivial⟩, (.bool (r1 && ((r12.2 == r20.2) && (r12.1 == ([] : List UInt8))))), F5, rfl, hs47.clear, rfl⟩
   ·have h56 := cond_f h22 hb44
    refine Sc ?_
    refine thenQ_nrm ?_
    refine Sq ?_
    refine Sq (Rg [0, 1, 2, 3, 4, 5, 6, 7, 8, 9, 10, 11] ?_)
    obtain ⟨j60, hj66, h67⟩ := bind_some h56
    refine RWP.cut (fun f w => ∃ (F6 : Mem), HS w0 F0 w F6 [(sb b28 #[(.string ⟨(r20.1.Area).toArray⟩), (.string ⟨(r20.1.Prefix).toArray⟩), (.string ⟨(r20.1.Suffix).toArray⟩), (.string ⟨(r20.1.Stroke).toArray⟩)] 27)] ∧ Mem.le F4 F6 ∧ f.d = [] ∧ f 3 = (.bool r1) ∧ f 4 = (.string ⟨(r12.1).toArray⟩) ∧ f 6 = (.pointer (some ⟨b28, 0, none⟩)) ∧ f 53 = (.bool j60)) ?_ ?_
    ·refine V 42 9 (mv 4 (.string ⟨(r12.1).toArray⟩) e38) ?_
     refine V 43 3 (run_slen (x := (.tmp 42)) (ats := #[9]) (t := 9) (a := r12.1) rfl rfl (by kernel_rfl)) ?_
     refine V 44 4 (run_lss (t := 3) (t' := 3) (x := (.tmp 43)) (y := (.const (vi 2))) (k := .i64) (a := (r12.1.length : Int)) (b := 2) rfl rfl) ?_
     refine V 45 4 (mv 44 (.bool (decide ((r12.1.length : Int) < 2)))) ?_
     refine RWP.split (decide ((r12.1.length : Int) < 2)) (fun hb68 => ?_) (fun hb68 => ?_)
     ·have h69 := cond_t hj66 hb68
      refine Sk [46, 47, 48, 49, 50, 51, 52] 3 false 45 hb68 ?_
      refine V 53 4 (p1 45 (.const (.bool true)) (.tmp 52) (.bool true) hb68) ?_
      obtain rfl := some_inj h69
      exact RWP.nil ⟨rfl, F4, hs34, (Mem.le.refl _), e36, e37, e38, e40, rfl⟩
     ·have h70 := cond_f hj66 hb68
      refine Vg 46 9 3 false 45 hb68 (mv 4 (.string ⟨(r12.1).toArray⟩) e38) ?_
      refine Vg 47 9 3 false 45 hb68 (mv 4 (.string ⟨(r12.1).toArray⟩) e38) ?_
      refine Vg 48 3 3 false 45 hb68 (run_slen (x := (.tmp 47)) (ats := #[9]) (t := 9) (a := r12.1) rfl rfl (by kernel_rfl)) ?_
      refine Vg 49 3 3 false 45 hb68 (run_sub (t := 3) (t' := 3) (x := (.tmp 48)) (y := (.const (vi 1))) (k := .i64) (a := (r12.1.length : Int)) (b := 1) rfl rfl) ?_
      obtain ⟨c71, hr72, h73⟩ := bind_some h70
      refine Vg 50 5 3 false 45 hb68 (run_sidx (t := 9) (x := (.tmp 46)) (y := (.tmp 49)) (a := r12.1) (k := .i64) (i := (W64 ((r12.1.length : Int) - 1))) (v := c71) rfl rfl (by kernel_rfl) hr72) ?_
      obtain ⟨r74, hr75, h76⟩ := bind_some h73
      refine RWP.call (dst := (some 51)) (ty := 4) (g := (some (3, false))) (by kernel_rfl) (gd_y (d := 45) (by kernel_rfl) rfl hb68) (f0 := (.func 20)) (aos := #[(.tmp 50)]) (ats := #[5]) (fid := 20) (first := #[]) (cap := #[]) (args := [(.int .u8 c71)]) rfl co_law01_figure (rfl) hs34 (c_law01_figure N w33 F4 hs34.pers (c71) _ hr75) ?_
      intro v77 F7 w78 hs79 le80 hp81
      obtain rfl := hp81
      refine Vg 52 4 3 false 45 hb68 (run_not (t := 4) (x := (.tmp 51)) (a := r74) rfl) ?_
      refine V 53 4 (p0 45 (.const (.bool true)) (.tmp 52) (.bool (!r74)) hb68) ?_
      obtain rfl := some_inj h76
      exact RWP.nil ⟨rfl, F7, hs79, le80, e36, e37, e38, e40, rfl⟩
    ·rintro f w57 ⟨F6, hs58, le59, e61, e62, e63, e64, e65⟩
     refine thenQ_nrm ?_
     refine CWP.cond (t := j60) (by kernel_rfl) e65 (fun hb82 => ?_) (fun hb82 => ?_)
     ·have h83 := cond_t h67 hb82
      refine Sq (Rg [0] ?_)
      refine V 2 4 (mc (.bool false) (.bool false)) ?_
      refine Nt ?_
      refine CWP.ret (by kernel_rfl) ?_
      refine thenQ_ret ?_
      have hfin := some_inj h83
      subst hfin
      exact ⟨e61, (.bool false), res_of (l := [.tmp 2]) (by kernel_rfl) (vs := [(.bool false)]) ⟨rfl, trivial⟩, (.bool false), F6, rfl, hs58.clear, rfl⟩
     ·have h84 := cond_f h67 hb82
      refine Sc ?_
      refine thenQ_nrm ?_
      refine Sq (Rg [0] ?_)
      refine V 8 3 (mc (vi 0) (vi 0)) ?_
      refine Nss ?_
      refine Sq (Rg [0] ?_)
      refine V 9 3 (mc (vi 0) (vi 0)) ?_
      refine Nt ?_
      obtain ⟨o85, ho86, h87⟩ := bind_some h84
      refine CWP.cut (fun f w => ∃ (s98 : (Int × Int)) (F9 : Mem), o85 = .done s98 ∧ HS w0 F0 w F9 [(sb b28 #[(.string ⟨(r20.1.Area).toArray⟩), (.string ⟨(r20.1.Prefix).toArray⟩), (.string ⟨(r20.1.Suffix).toArray⟩), (.string ⟨(r20.1.Stroke).toArray⟩)] 27)] ∧ Mem.le F6 F9 ∧ f.d = [] ∧ f 3 = (.bool r1) ∧ f 4 = (.string ⟨(r12.1).toArray⟩) ∧ f 6 = (.pointer (some ⟨b28, 0, none⟩)) ∧ f 8 = (vi s98.1)) ?_ ?_
      ·refine Bk ?_
       refine CWP.loop (by kernel_rfl) (fun m f w => ∃ (s88 : (Int × Int)) (F8 : Mem), iter (law01_AirPrefixes_L0 N x0 r1 r12 r20 j60) m s88 = some o85 ∧ HS w0 F0 w F8 [(sb b28 #[(.string ⟨(r20.1.Area).toArray⟩), (.string ⟨(r20.1.Prefix).toArray⟩), (.string ⟨(r20.1.Suffix).toArray⟩), (.string ⟨(r20.1.Stroke).toArray⟩)] 27)] ∧ Mem.le F6 F8 ∧ f.d = [] ∧ f 3 = (.bool r1) ∧ f 4 = (.string ⟨(r12.1).toArray⟩) ∧ f 6 = (.pointer (some ⟨b28, 0, none⟩)) ∧ f 8 = (vi s88.1) ∧ f 9 = (vi s88.2)) N ⟨(0, 0), F6, ho86, hs58, (Mem.le.refl _), e61, e62, e63, e64, rfl, rfl⟩ ?_
       rintro m107 f w89 ⟨s88, F8, hit108, hs90, le91, e92, e93, e94, e95, e96, e97⟩
       obtain ⟨m109, fl110, rfl, hb111, hnx112⟩ := iter_step hit108
       refine Sq ?_
       refine Sq (Rg [0, 1, 2, 3] ?_)
       refine V 54 3 (mv 9 (vi s88.2) e97) ?_
       refine V 55 9 (mv 4 (.string ⟨(r12.1).toArray⟩) e94) ?_
       refine V 56 3 (run_slen (x := (.tmp 55)) (ats := #[9]) (t := 9) (a := r12.1) rfl rfl (by kernel_rfl)) ?_
       refine V 57 4 (run_lss (t := 3) (t' := 3) (x := (.tmp 54)) (y := (.tmp 56)) (k := .i64) (a := s88.2) (b := (r12.1.length : Int)) rfl rfl) ?_
       refine Nt ?_
       refine CWP.cond (t := (decide (s88.2 < (r12.1.length : Int)))) (by kernel_rfl) rfl (fun hb113 => ?_) (fun hb113 => ?_)
       ·have h114 := cond_t hb111 hb113
        refine Sc ?_
        refine thenQ_nrm ?_
        refine Sq ?_
        refine Bk ?_
        refine Sq (Rg [0, 1, 2, 3] ?_)
        refine V 60 9 (mv 4 (.string ⟨(r12.1).toArray⟩) e94) ?_
        refine V 61 3 (mv 9 (vi s88.2) e97) ?_
        obtain ⟨c115, hr116, h117⟩ := bind_some h114
        refine V 62 5 (run_sidx (t := 9) (x := (.tmp 60)) (y := (.tmp 61)) (a := r12.1) (k := .i64) (i := s88.2) (v := c115) rfl rfl (by kernel_rfl) hr116) ?_
        obtain ⟨r118, hr119, h120⟩ := bind_some h117
        refine Cl 63 4 21 #[(.tmp 62)] #[5] co_law01_upper hs90 (c_law01_upper N w89 F8 hs90.pers (c115) _ hr119) ?_
        intro v121 F10 w122 hs123 le124 hp125
        obtain rfl := hp125
        refine Nt ?_
        refine CWP.cond (t := r118) (by kernel_rfl) rfl (fun hb126 => ?_) (fun hb126 => ?_)
        ·have h127 := cond_t h120 hb126
         refine Rg [0, 1, 2] ?_
         refine V 64 3 (mv 8 (vi s88.1) e96) ?_
         refine V 65 3 (run_add (t := 3) (t' := 3) (x := (.tmp 64)) (y := (.const (vi 1))) (k := .i64) (a := s88.1) (b := 1) rfl rfl) ?_
         refine V 8 3 (ma 65 (vi (W64 (s88.1 + 1)))) ?_
         refine RWP.nil ?_
         refine blockQ_nrm ?_
         refine thenQ_nrm ?_
         refine Rg [0, 1, 2] ?_
         refine V 58 3 (mv 9 (vi s88.2) e97) ?_
         refine V 59 3 (run_add (t := 3) (t' := 3) (x := (.tmp 58)) (y := (.const (vi 1))) (k := .i64) (a := s88.2) (b := 1) rfl rfl) ?_
         refine V 9 3 (ma 59 (vi (W64 (s88.2 + 1)))) ?_
         refine RWP.nil ?_
         have hn128 := iter_next h127 hnx112
         exact ⟨m109, Nat.lt_succ_self _, ((W64 (s88.1 + 1)), (W64 (s88.2 + 1))), F10, hn128, hs123, (le91.trans le124), e92, e93, e94, e95, rfl, rfl⟩
        ·have h129 := cond_f h120 hb126
         refine Sq (Rg [0, 1, 2, 3, 4] ?_)
         refine V 66 9 (mv 4 (.string ⟨(r12.1).toArray⟩) e94) ?_
         refine V 67 3 (mv 9 (vi s88.2) e97) ?_
         obtain ⟨c130, hr131, h132⟩ := bind_some h129
         refine V 68 5 (run_sidx (t := 9) (x := (.tmp 66)) (y := (.tmp 67)) (a := r12.1) (k := .i64) (i := s88.2) (v := c130) rfl rfl (by kernel_rfl) hr131) ?_
         obtain ⟨r133, hr134, h135⟩ := bind_some h132
         refine Cl 69 4 20 #[(.tmp 68)] #[5] co_law01_figure hs123 (c_law01_figure N w122 F10 hs123.pers (c130) _ hr134) ?_
         intro v136 F11 w137 hs138 le139 hp140
         obtain rfl := hp140
         refine V 70 4 (run_not (t := 4) (x := (.tmp 69)) (a := r133) rfl) ?_
         refine Nt ?_
         refine CWP.cond (t := (!r133)) (by kernel_rfl) rfl (fun hb141 => ?_) (fun hb141 => ?_)
         ·have h142 := cond_t h135 hb141
          refine Sq (Rg [0] ?_)
          refine V 2 4 (mc (.bool false) (.bool false)) ?_
          refine Nt ?_
          refine CWP.ret (by kernel_rfl) ?_
          refine blockQ_ret ?_
          refine thenQ_ret ?_
          refine thenQ_ret ?_
          refine blockQ_ret ?_
          have hret := iter_ret h142 hnx112
          subst hret
          refine .inr ?_
          refine thenQ_ret ?_
          have hfin := some_inj h87
          subst hfin
          exact ⟨e92, (.bool false), res_of (l := [.tmp 2]) (by kernel_rfl) (vs := [(.bool false)]) ⟨rfl, trivial⟩, (.bool false), F11, rfl, hs138.clear, rfl⟩
         ·have h143 := cond_f h135 hb141
          refine Sc ?_
          refine blockQ_nrm ?_
          refine thenQ_nrm ?_
          refine Rg [0, 1, 2] ?_
          refine V 58 3 (mv 9 (vi s88.2) e97) ?_
          refine V 59 3 (run_add (t := 3) (t' := 3) (x := (.tmp 58)) (y := (.const (vi 1))) (k := .i64) (a := s88.2) (b := 1) rfl rfl) ?_
          refine V 9 3 (ma 59 (vi (W64 (s88.2 + 1)))) ?_
          refine RWP.nil ?_
          have hn144 := iter_next h143 hnx112
          exact ⟨m109, Nat.lt_succ_self _, (s88.1, (W64 (s88.2 + 1))), F11, hn144, hs138, ((le91.trans le124).trans le139), e92, e93, e94, e95, e96, rfl⟩
       ·have h145 := cond_f hb111 hb113
        refine CWP.exit (by kernel_rfl) ?_
        refine thenQ_ex ?_
        refine thenQ_ex ?_
        refine blockQ_hit rfl ?_
        have ho146 := iter_done h145 hnx112
        exact .inl ⟨rfl, (s88.1, s88.2), F8, ho146, hs90, le91, e92, e93, e94, e95, e96⟩
      ·rintro f w99 ⟨s98, F9, rfl, hs100, le101, e102, e103, e104, e105, e106⟩
       have h147 := k_done h87
       refine thenQ_nrm ?_
       refine Sq (Rg [0, 1, 2, 3, 4, 5, 6, 7, 8, 9, 10, 11, 12, 13, 14, 15] ?_)
       obtain ⟨j151, hj158, h159⟩ := bind_some h147
       refine RWP.cut (fun f w => ∃ (F12 : Mem), HS w0 F0 w F12 [(sb b28 #[(.string ⟨(r20.1.Area).toArray⟩), (.string ⟨(r20.1.Prefix).toArray⟩), (.string ⟨(r20.1.Suffix).toArray⟩), (.string ⟨(r20.1.Stroke).toArray⟩)] 27)] ∧ Mem.le F9 F12 ∧ f.d = [] ∧ f 3 = (.bool r1) ∧ f 4 = (.string ⟨(r12.1).toArray⟩) ∧ f 6 = (.pointer (some ⟨b28, 0, none⟩)) ∧ f 8 = (vi s98.1) ∧ f 10 = (.bool j151)) ?_ ?_
       ·refine V 71 0 (fa 27 6 0 0 1 b28 0 0 e105) ?_
        refine V 72 9 (ld 9 71 b28 0 false 1 (.string ⟨(r20.1.Area).toArray⟩) (hs100.ownAt (k := 0) rfl)) ?_
        refine V 73 4 (run_scmp (t := 9) (t' := 9) (x := (.tmp 72)) (y := (.const (.string ⟨([] : List UInt8).toArray⟩))) (op := .eql) (a := r20.1.Area) (b := ([] : List UInt8)) (v := (r20.1.Area == ([] : List UInt8))) rfl rfl rfl) ?_
        refine V 74 4 (mv 73 (.bool (r20.1.Area == ([] : List UInt8)))) ?_
        refine RWP.split (r20.1.Area == ([] : List UInt8)) (fun hb160 => ?_) (fun hb160 => ?_)
        ·have h161 := cond_t hj158 hb160
         refine Vg 75 0 3 true 74 hb160 (fa 27 6 3 3 1 b28 0 3 e105) ?_
         refine Vg 76 9 3 true 74 hb160 (ld 9 75 b28 3 false 1 (.string ⟨(r20.1.Stroke).toArray⟩) (hs100.ownAt (k := 0) rfl)) ?_
         refine Vg 77 4 3 true 74 hb160 (run_scmp (t := 9) (t' := 9) (x := (.tmp 76)) (y := (.const (.string ⟨([] : List UInt8).toArray⟩))) (op := .eql) (a := r20.1.Stroke) (b := ([] : List UInt8)) (v := (r20.1.Stroke == ([] : List UInt8))) rfl rfl rfl) ?_
         refine Vg 78 4 3 true 74 hb160 (mv 77 (.bool (r20.1.Stroke == ([] : List UInt8)))) ?_
         refine RWP.split (r20.1.Stroke == ([] : List UInt8)) (fun hb162 => ?_) (fun hb162 => ?_)
         ·have h163 := cond_t h161 hb162
          refine Sk [79, 80, 81, 82, 83] 7 false 78 hb162 ?_
          refine Vg 84 4 3 true 74 hb160 (p1 78 (.const (.bool true)) (.tmp 83) (.bool true) hb162) ?_
          refine V 85 4 (p1 74 (.tmp 84) (.const (.bool false)) (.bool true) hb160) ?_
          refine V 10 4 (ma 85 (.bool true)) ?_
          obtain rfl := some_inj h163
          exact RWP.nil ⟨rfl, F9, hs100, (Mem.le.refl _), e102, e103, e104, e105, e106, rfl⟩
         ·have h164 := cond_f h161 hb162
          refine Vg 79 0 7 false 78 hb162 (fa 27 6 3 3 1 b28 0 3 e105) ?_
          refine Vg 80 9 7 false 78 hb162 (ld 9 79 b28 3 false 1 (.string ⟨(r20.1.Stroke).toArray⟩) (hs100.ownAt (k := 0) rfl)) ?_
          obtain ⟨c165, hr166, h167⟩ := bind_some h164
          refine Vg 81 5 7 false 78 hb162 (run_sidx (t := 9) (x := (.tmp 80)) (y := (.const (vi 0))) (a := r20.1.Stroke) (k := .i64) (i := 0) (v := c165) rfl rfl (by kernel_rfl) hr166) ?_
          obtain ⟨r168, hr169, h170⟩ := bind_some h167
          refine RWP.call (dst := (some 82)) (ty := 4) (g := (some (7, false))) (by kernel_rfl) (gd_y (d := 78) (by kernel_rfl) rfl hb162) (f0 := (.func 20)) (aos := #[(.tmp 81)]) (ats := #[5]) (fid := 20) (first := #[]) (cap := #[]) (args := [(.int .u8 c165)]) rfl co_law01_figure (rfl) hs100 (c_law01_figure N w99 F9 hs100.pers (c165) _ hr169) ?_
          intro v171 F13 w172 hs173 le174 hp175
          obtain rfl := hp175
          refine Vg 83 4 7 false 78 hb162 (run_not (t := 4) (x := (.tmp 82)) (a := r168) rfl) ?_
          refine Vg 84 4 3 true 74 hb160 (p0 78 (.const (.bool true)) (.tmp 83) (.bool (!r168)) hb162) ?_
          refine V 85 4 (p1 74 (.tmp 84) (.const (.bool false)) (.bool (!r168)) hb160) ?_
          refine V 10 4 (ma 85 (.bool (!r168))) ?_
          obtain rfl := some_inj h170
          exact RWP.nil ⟨rfl, F13, hs173, le174, e102, e103, e104, e105, e106, rfl⟩
        ·have h176 := cond_f hj158 hb160
         refine Sk [75, 76, 77, 78] 3 true 74 hb160 ?_
         refine Su [79, 80, 81, 82, 83] 7 false 78 ?_
         refine Sk [84] 3 true 74 hb160 ?_
         refine V 85 4 (p0 74 (.tmp 84) (.const (.bool false)) (.bool false) hb160) ?_
         refine V 10 4 (ma 85 (.bool false)) ?_
         obtain rfl := some_inj h176
         exact RWP.nil ⟨rfl, F9, hs100, (Mem.le.refl _), e102, e103, e104, e105, e106, rfl⟩
       ·rintro f w148 ⟨F12, hs149, le150, e152, e153, e154, e155, e156, e157⟩
        refine thenQ_nrm ?_
        refine Sq (Rg [0, 1, 2, 3, 4, 5, 6, 7, 8, 9, 10, 11, 12, 13, 14, 15] ?_)
        refine RWP.cut (fun f w => ∃ (F14 : Mem), HS w0 F0 w F14 [] ∧ Mem.le F12 F14 ∧ f.d = [] ∧ f 2 = (.bool (r1 && ((decide (s98.1 > 0)) && ((!j151) || (r12.1 == r20.1.Prefix)))))) ?_ ?_
        ·refine V 86 4 (mv 3 (.bool r1) e153) ?_
         refine V 87 4 (mv 86 (.bool r1)) ?_
         refine RWP.split r1 (fun hb182 => ?_) (fun hb182 => ?_)
         ·refine Vg 88 3 1 true 87 hb182 (mv 8 (vi s98.1) e156) ?_
          refine Vg 89 4 1 true 87 hb182 (run_gtr (t := 3) (t' := 3) (x := (.tmp 88)) (y := (.const (vi 0))) (k := .i64) (a := s98.1) (b := 0) rfl rfl) ?_
          refine V 90 4 (p1 87 (.tmp 89) (.const (.bool false)) (.bool (decide (s98.1 > 0))) hb182) ?_
          refine V 91 4 (mv 90 (.bool (decide (s98.1 > 0)))) ?_
          refine RWP.split (decide (s98.1 > 0)) (fun hb183 => ?_) (fun hb183 => ?_)
          ·refine Vg 92 4 5 true 91 hb183 (mv 10 (.bool j151) e157) ?_
           refine Vg 93 4 5 true 91 hb183 (run_not (t := 4) (x := (.tmp 92)) (a := j151) rfl) ?_
           refine Vg 94 4 5 true 91 hb183 (mv 93 (.bool (!j151))) ?_
           refine RWP.split (!j151) (fun hb184 => ?_) (fun hb184 => ?_)
           ·refine Sk [95, 96, 97, 98] 8 false 94 hb184 ?_
            refine Vg 99 4 5 true 91 hb183 (p1 94 (.const (.bool true)) (.tmp 98) (.bool true) hb184) ?_
            refine V 100 4 (p1 91 (.tmp 99) (.const (.bool false)) (.bool true) hb183) ?_
            refine V 2 4 (ma 100 (.bool true)) ?_
            have hs185 : HS w0 F0 w148 F12 [] := hs149.drop 0
            exact RWP.nil ⟨rfl, F12, hs185, (Mem.le.refl _), e152, (congrArg Value.bool (and_t hb182 (and_t hb183 (or_t hb184 (rfl)))))⟩
           ·refine Vg 95 9 8 false 94 hb184 (mv 4 (.string ⟨(r12.1).toArray⟩) e154) ?_
            refine Vg 96 0 8 false 94 hb184 (fa 27 6 1 1 1 b28 0 1 e155) ?_
            refine Vg 97 9 8 false 94 hb184 (ld 9 96 b28 1 false 1 (.string ⟨(r20.1.Prefix).toArray⟩) (hs149.ownAt (k := 0) rfl)) ?_
            refine Vg 98 4 8 false 94 hb184 (run_scmp (t := 9) (t' := 9) (x := (.tmp 95)) (y := (.tmp 97)) (op := .eql) (a := r12.1) (b := r20.1.Prefix) (v := (r12.1 == r20.1.Prefix)) rfl rfl rfl) ?_
            refine Vg 99 4 5 true 91 hb183 (p0 94 (.const (.bool true)) (.tmp 98) (.bool (r12.1 == r20.1.Prefix)) hb184) ?_
            refine V 100 4 (p1 91 (.tmp 99) (.const (.bool false)) (.bool (r12.1 == r20.1.Prefix)) hb183) ?_
            refine V 2 4 (ma 100 (.bool (r12.1 == r20.1.Prefix))) ?_
            have hs186 : HS w0 F0 w148 F12 [] := hs149.drop 0
            exact RWP.nil ⟨rfl, F12, hs186, (Mem.le.refl _), e152, (congrArg Value.bool (and_t hb182 (and_t hb183 (or_f hb184 (rfl)))))⟩
          ·refine Sk [92, 93, 94] 5 true 91 hb183 ?_
           refine Su [95, 96, 97, 98] 8 false 94 ?_
           refine Sk [99] 5 true 91 hb183 ?_
           refine V 100 4 (p0 91 (.tmp 99) (.const (.bool false)) (.bool false) hb183) ?_
           refine V 2 4 (ma 100 (.bool false)) ?_
           have hs187 : HS w0 F0 w148 F12 [] := hs149.drop 0
           exact RWP.nil ⟨rfl, F12, hs187, (Mem.le.refl _), e152, (congrArg Value.bool (and_t hb182 (and_f hb183 (rfl))))⟩
         ·refine Sk [88, 89] 1 true 87 hb182 ?_
          refine V 90 4 (p0 87 (.tmp 89) (.const (.bool false)) (.bool false) hb182) ?_
          refine V 91 4 (mv 90 (.bool false)) ?_
          refine Sk [92, 93, 94] 5 true 91 rfl ?_
          refine Su [95, 96, 97, 98] 8 false 94 ?_
          refine Sk [99] 5 true 91 rfl ?_
          refine V 100 4 (p0 91 (.tmp 99) (.const (.bool false)) (.bool false) rfl) ?_
          refine V 2 4 (ma 100 (.bool false)) ?_
          have hs188 : HS w0 F0 w148 F12 [] := hs149.drop 0
          exact RWP.nil ⟨rfl, F12, hs188, (Mem.le.refl _), e152, (congrArg Value.bool (and_f hb182 (rfl)))⟩
        ·rintro f w177 ⟨F14, hs178, le179, e180, e181⟩
         refine thenQ_nrm ?_
         refine CWP.ret (by kernel_rfl) ?_
         have hfin := some_inj h159
         subst hfin
         exact ⟨e180, (.bool (r1 && ((decide (s98.1 > 0)) && ((!j151) || (r12.1 == r20.1.Prefix))))), res_of (l := [.tmp 2]) (by kernel_rfl) (vs := [(.bool (r1 && ((decide (s98.1 > 0)) && ((!j151) || (r12.1 == r20.1.Prefix)))))]) ⟨e181, trivial⟩, (.bool (r1 && ((decide (s98.1 > 0)) && ((!j151) || (r12.1 == r20.1.Prefix))))), F14, rfl, hs178.clear, rfl⟩
end Go.Proofs.YtlddakefmfcblaaGreatDoor
namespace Go.Proofs.YtlddakefmfcblaaGreatDoor
open Go.Proofs
end Go.Proofs.YtlddakefmfcblaaGreatDoor
namespace Go.Proofs.YtlddakefmfcblaaGreatDoor
open Go.Proofs
end Go.Proofs.YtlddakefmfcblaaGreatDoor
namespace Go.Proofs.YtlddakefmfcblaaGreatDoor
open Go.Proofs
end Go.Proofs.YtlddakefmfcblaaGreatDoor
namespace Go.Proofs.YtlddakefmfcblaaGreatDoor
section
variable {N : Nat}
theorem m_upper (b : UInt8) : law01_upper N (b.toNat : Int) = some (isL b) := m_rletter N b
theorem m_figure (b : UInt8) : law01_figure N (b.toNat : Int) = some (isD b) := m_rdigit N b
structure GoodP (p : List UInt8) : Prop where
 all : p.all isE = true
 letter : p.any isL = true
 last : lastD p = true
theorem GoodP.len {p : List UInt8} (h : GoodP p) : 2 ≤ p.length := by
 match p, h with
 | [], h => have := h.letter; cases this
 | [b], h =>
  have h1 := h.letter
  have h2 := h.last
  simp at h1
  have h3 : lastD [b] = isD b := rfl
  rw [h3, isLD h1] at h2; cases h2
 | _ :: _ :: _, _ => simp
theorem lastD_snoc (l : List UInt8) (b : UInt8) : lastD (l ++ [b]) = isD b := by
 unfold lastD; simp
theorem take_cut {s : List UInt8} (h : 0 < cutK s) : ∃ b, s.take (cutK s) = s.take (cutK s - 1) ++ [b] ∧ isD b = true := by
 obtain ⟨b, h1, h2⟩ := cutK_at s h
 refine ⟨b, ?_, h2⟩
 have : s.take (cutK s - 1 + 1) = s.take (cutK s - 1) ++ [b] := by rw [List.take_add_one, h1]; rfl
 rwa [show cutK s - 1 + 1 = cutK s by omega] at this
theorem pref_good {t : Tri} (h : okT t = true) : GoodP (prefS t) := by
 have hl := ok_len h
 have h' := h
 unfold okT at h'
 simp only [Bool.and_eq_true, Bool.or_eq_true, Bool.not_eq_true', decide_eq_true_eq, decide_eq_false_iff_not] at h'
 obtain ⟨⟨⟨⟨h1, h2⟩, h3⟩, h4⟩, h5⟩ := h'
 unfold prefS
 by_cases ha : t.1 = []
 ·rw [if_pos ha]
  have hE := all_take (cutK t.2.1) (baseB_E h2)
  obtain ⟨b, hb, hD⟩ := take_cut (s := t.2.1) (by omega)
  have hany : (t.2.1.take (cutK t.2.1 - 1)).any isL = true := by
   unfold baseB at h2
   simp only [Bool.and_eq_true] at h2
   have := h2.1.2
   rw [hb, List.any_append] at this
   have hbL : isL b = false := by
    cases hh : isL b with
    | false => rfl
    | true => rw [isLD hh] at hD; cases hD
   simpa [hbL] using this
  by_cases hk : (t.2.2.length == 1 && t.2.2.all isD) = true
  ·rw [if_pos hk]
   simp only [Bool.and_eq_true, beq_iff_eq] at hk
   have et : (t.2.1.take (cutK t.2.1)).take (cutK t.2.1 - 1) = t.2.1.take (cutK t.2.1 - 1) := by rw [List.take_take]; congr 1; omega
   rw [et]
   match hs : t.2.2, hk with
   | [c], hk =>
    simp at hk
    refine ⟨?_, ?_, by rw [lastD_snoc]; exact hk⟩
    ·rw [List.all_append, all_take _ (baseB_E h2)]; simp [isE, hk]
    ·rw [List.any_append, hany]; rfl
  ·rw [if_neg hk]
   refine ⟨hE, ?_, by rw [hb, lastD_snoc]; exact hD⟩
   rw [hb, List.any_append, hany]; rfl
 ·rw [if_neg ha]
  have hA := h1.resolve_left ha
  have hany : t.1.any isL = true := by unfold areaB at hA; simp only [Bool.and_eq_true] at hA; exact hA.2
  by_cases hd : lastD t.1 = true
  ·rw [if_pos hd]; exact ⟨areaB_E hA, hany, hd⟩
  ·rw [if_neg hd]
   refine ⟨?_, ?_, by rw [lastD_snoc]; decide⟩
   ·rw [List.all_append, areaB_E hA]; decide
   ·rw [List.any_append, hany]; rfl
theorem count_loop {α : Type} {p : List UInt8} (x0 : List UInt8) (r1 : Bool) (r12 : List UInt8 × Int) (r20 : Parts × Int) (j60 : Bool) (hp : r12.1 = p) (hE : p.all isE = true) (hl : p.length < 4000000000) (hN : 4294967300 < N) (fr : Bool → Option α) (fd : Int × Int → Option α) :
  ((iter (law01_AirPrefixes_L0 N x0 r1 r12 r20 j60) N (0, 0)).bind fun o => o.k fr fd) = fd ((p.countP isL : Int), (p.length : Int)) := by
 obtain ⟨o, ho, rfl⟩ := iter_ex (body := law01_AirPrefixes_L0 N x0 r1 r12 r20 j60) p.length (fun i st => st = (((p.take i).countP isL : Int), (i : Int))) (fun o => o = .done ((p.countP isL : Int), (p.length : Int))) (by
  rintro i st hi rfl
  by_cases h : i < p.length
  ·refine .inl ⟨_, ?_, rfl, h⟩
   unfold law01_AirPrefixes_L0
   simp only [hp, lt_dec h, cond_true, sidx_nat h, Option.bind_some, m_upper, m_figure]
   have htake : p.take (i + 1) = p.take i ++ [p[i]] := by rw [List.take_add_one, List.getElem?_eq_getElem h]; rfl
   have hle : (p.take i).countP isL ≤ (p.take i).length := List.countP_le_length
   rw [List.length_take] at hle
   rw [htake, List.countP_append, w64s i (by omega)]
   cases hL : isL p[i] with
   | true =>
    rw [cond_true, w64s _ (by omega)]
    simp [hL]
   | false =>
    have : isD p[i] = true := by
     have := List.all_eq_true.1 hE _ (List.getElem_mem h)
     unfold isE at this
     rw [hL] at this; simpa using this
    rw [this]
    simp [hL]
  ·have : i = p.length := by omega
   subst this
   refine .inr ⟨_, ?_, (fun _ h => by cases h), rfl⟩
   unfold law01_AirPrefixes_L0
   simp only [hp, lt_dec', cond_false, List.take_length]) p.length N 0 (0, 0) (by omega) rfl (by omega)
 rw [ho]; rfl
theorem prefixes_holds (s : List UInt8) (hN : 4294967300 < N) : law01_AirPrefixes N s = some true := by
 unfold law01_AirPrefixes
 rw [awake_true hN, Option.bind_some]
 by_cases hg : s.length ≤ 1000
 ·rw [decide_eq_false (by omega), cond_false, s_PrefixOf _ hN, Option.bind_some, s_Split _ hN, Option.bind_some]
  cases h : callB s with
  | none =>
   have e1 : prefixS s = ([], 10) := by unfold prefixS; rw [h]
   have e2 : splitS s = (zp, 10) := by unfold splitS; rw [h]
   rw [e1, e2]; rfl
  | some t =>
   have e1 : prefixS s = (prefS t, 0) := by unfold prefixS; rw [h]
   have e2 : splitS s = (partsOf t, 0) := by unfold splitS; rw [h]
   have hok := (callB_some h).1
   have hl := ok_len hok
   have gp := pref_good hok
   have h2 := gp.len
   have hlen : (prefS t).length ≤ 100 := by
    unfold prefS
    split
    ·split
     ·rw [List.length_append, List.length_take, List.length_take]; omega
     ·rw [List.length_take]; omega
    ·split
     ·omega
     ·rw [List.length_append]; simp; omega
   rw [e1, e2]
   rw [show (((prefS t, (0 : Int)).2 != 0) || ((partsOf t, (0 : Int)).2 != 0)) = false from rfl, cond_false]
   simp only
   rw [decide_eq_false (show ¬ ((prefS t).length : Int) < 2 by omega), cond_false]
   obtain ⟨b, hb1, hb2⟩ := sidx_last (a := prefS t) (by intro h; rw [h] at h2; simp at h2) (by omega)
   have hD : isD b = true := by rw [← hb2]; exact gp.last
   rw [hb1, Option.bind_some, m_figure, hD, Option.bind_some, Option.bind_some, Bool.not_true, cond_false]
   rw [count_loop (p := prefS t) s true (prefS t, 0) (partsOf t, 0) false rfl gp.all (by omega) hN]
   have hcount : decide ((((prefS t).countP isL : Nat) : Int) > 0) = true := by
    rw [decide_eq_true_eq]
    have : 0 < (prefS t).countP isL := by
     rw [List.countP_pos_iff]
     obtain ⟨c, h3, h4⟩ := List.any_eq_true.1 gp.letter
     exact ⟨c, h3, h4⟩
    omega
   simp only
   rw [hcount]
   have eA : (partsOf t).Area = t.1 := rfl
   have eK : (partsOf t).Stroke = t.2.2 := rfl
   have eP : (partsOf t).Prefix = t.2.1.take (cutK t.2.1) := rfl
   rw [eA, eK, eP, eq_dec t.1, eq_dec t.2.2]
   by_cases ha : t.1 = []
   ·rw [decide_eq_true ha, cond_true]
    by_cases hk : t.2.2 = []
    ·have : prefS t = t.2.1.take (cutK t.2.1) := by unfold prefS; rw [if_pos ha, hk]; rfl
     rw [decide_eq_true hk, this]; simp
    ·rw [decide_eq_false hk, cond_false]
     have h0 : 0 < t.2.2.length := List.length_pos_iff.2 hk
     have i0 : sidx t.2.2 0 = some ((t.2.2[0]).toNat : Int) := sidx_nat (i := 0) h0
     rw [i0, Option.bind_some, m_figure, Option.bind_some, Option.bind_some]
     cases hd : isD t.2.2[0] with
     | true => rfl
     | false =>
      have hnot : ¬ (t.2.2.length == 1 && t.2.2.all isD) = true := by
       intro hh
       simp only [Bool.and_eq_true] at hh
       have := List.all_eq_true.1 hh.2 _ (List.getElem_mem h0)
       rw [this] at hd; cases hd
      have : prefS t = t.2.1.take (cutK t.2.1) := by unfold prefS; rw [if_pos ha, if_neg hnot]
      rw [this]; simp
   ·rw [decide_eq_false ha]; rfl
 ·rw [decide_eq_true (by omega), cond_true]
end
theorem airPrefixes_row (x0 : List UInt8) (_ : rS x0) : law01_AirPrefixes 9223372036854775808 x0 = some true := prefixes_holds x0 (by omega)
end Go.Proofs.YtlddakefmfcblaaGreatDoor
namespace Go.Proofs.YtlddakefmfcblaaGreatDoor
open Go.ChangeShapes Go.WideShapes Go.ChangeAt Go.RowKit
set_option maxRecDepth 100000 in
theorem lifted_airPrefixes (os : Os) (started : os.Started) (H : Type) (enc : TypeId × Value → H) :
  ReturnsInHanded {} Tryz.checked os 3 .any (fun w args => (Rows.airPrefixesSpec.pre enc Tryz.prog Tryz.f3 Rows.airPrefixesRow.domain false w args ∧ laidMetH Tryz.prog Rows.airPrefixesRow.laid w) ∧ sizedMet enc Tryz.prog Tryz.f3 (OpenSpec.ofChange Rows.airPrefixesSpec) false w args) (Rows.airPrefixesSpec.post enc Tryz.prog Tryz.f3 false true false false) := by
 refine handed_laid (C := Tryz.checked) (X := fun w _ => laidMetH Tryz.prog laid7 w) (fun _ _ _ hh h => h.of_heap hh) own_knob started (by kernel_rfl) Tryz.func3
  (ChangeSpec.witness_shaped (enc := enc) (C := Tryz.checked) (os := os) (X := fun w _ => laidMetH Tryz.prog laid7 w) false (World.laidAll Tryz.prog os laid7) #[.string ByteArray.empty] 8 (World.laidAll_os _ _ _)
   (World.shaped_of_ZipB (by kernel_rfl) (by kernel_rfl)) (by kernel_rfl) (by kernel_rfl) (by kernel_rfl) (door_met7 os _)) ?_
 intro W base args ds gs before hval0 hW hsz hL hsh
 have hval : ∀ (j : Nat) t v, Tryz.f3.params[j]? = some t → args[j]? = some v → Value.okWide Tryz.prog W .any base t v := hval0
 have hW' := hW
 obtain ⟨p, q, hA0, hV, rfl, hfz, hnd⟩ := hW
 have hA : DataW.TrodAll enc Tryz.prog W 0 (fun _ => true) true Tryz.f3.params.toList args.toList ds p := hA0
 rw [Tryz.params3] at hA hval
 obtain ⟨v0, vs0, d0, ds0, p0, q0, hargs, rfl, rfl, h0, r0⟩ := trodAll_cons hA
 obtain ⟨rfl, rfl, rfl⟩ := trodAll_nil r0
 obtain rfl : args = #[v0] := by cases args; simp_all
 have z0 : SzW Tryz.prog 9 d0 := SzW.each hsz (j := 0) (by kernel_rfl) rfl
 obtain ⟨x0, R0, Q0⟩ := Opens.one (opens_str (t := 9) (by kernel_rfl) (by kernel_rfl) : Opens Tryz.prog 9 tStr rS) (by kernel_rfl) (hval 0 9 v0 rfl rfl) h0 z0
 have e0 : [v0] = [.string ⟨x0.toArray⟩] := R0
 cases e0
 refine (c_law01_AirPrefixes 9223372036854775808 W (memOf W) (fun _ _ h => h) (glob_of hL hsh) x0 true (airPrefixes_row x0 Q0)).mono fun e W' he => ?_
 obtain ⟨r, F', rfl, hs, rfl⟩ := he
 refine ⟨_, rfl, post_grown (by kernel_rfl) (tb := 4) ?_ rfl hW' (by kernel_rfl) (by kernel_rfl) ?_ hs⟩
 ·intro t ht
  rw [Tryz.params3] at ht
  simp only [List.mem_cons, List.not_mem_nil, or_false] at ht
  subst ht; exact ⟨by kernel_rfl, by decide +kernel⟩
 ·intro _; rfl
theorem airPrefixes_row_holds : Rows.AirPrefixesSaid :=
 OpenClaim.holds_of_wide 3 Tryz.f3 rfl rfl rfl rfl rfl rfl rfl ⟨rfl, rfl, rfl, rfl, rfl⟩ rfl rfl rfl rfl rfl (by kernel_rfl) Tryz.func3 (by kernel_rfl)
  (of_decide_eq_true (by kernel_rfl)) (by unfold Func.isWrapper; first | (rw [if_pos (by decide +kernel)]; kernel_rfl) | (rw [if_neg (by decide +kernel)]; exact ⟨rfl, rfl⟩))
  (fun os started H enc _ => lifted_airPrefixes os started H enc)
theorem airPrefixes_proved : Rows.AirPrefixesCardSaid :=
 Claim7.holds_tied_plain_at .later [] [.data, .data, .data, .data, .sentinel, .sentinel, .pinned] true (true, "e13dca8d4619a64a69fa99222db8f18b16b74485258a6a257541940742401f67") true airPrefixes_row_holds (fun _ h => by cases h) (by kernel_rfl) (fun _ h => by cases h) airPrefixes_row_tie rfl ⟨rfl, rfl⟩ (by kernel_rfl) rfl
  (fun f fn hf hfn => by
   obtain rfl : f = 3 := Option.some.inj ((show Tryz.prog.funcNamed Tryz.f3.name = some 3 by kernel_rfl).symm.trans hf) |>.symm
   obtain rfl : fn = Tryz.f3 := (Option.some.inj (Tryz.func3.symm.trans hfn)).symm
   exact ⟨by kernel_rfl, fun j t ht => by
    rw [Tryz.params3] at ht
    have hm : t ∈ [9] := by simpa using Array.mem_of_getElem? ht
    have hall : ([9].all fun u => !Tryz.prog.wantsStandIn u) = true := by kernel_rfl
    exact (show Tryz.prog.wantsStandIn t = false by simpa using List.all_eq_true.1 hall t hm)⟩)
  (by kernel_rfl)
end Go.Proofs.YtlddakefmfcblaaGreatDoor
