/- Lemmas of the claim AirCalls, printed by a program of the claimant and by hand. No statement of the seat is proved here. -/
import Derived.Test.YtlddakefmfcblaaGreatDoorA2
set_option linter.unusedVariables false
set_option linter.unusedSimpArgs false
set_option linter.unusedSectionVars false
namespace Go.Proofs.YtlddakefmfcblaaGreatDoor
open Go.Proofs
def ref01_Split (N : Nat) (x0 : (List UInt8)) : Option (Parts × Int) :=
 ((ref01_parts N x0).bind fun r4 => (bif (!r4.2.2.2) then some (({ Area := ([] : List UInt8), Prefix := ([] : List UInt8), Suffix := ([] : List UInt8), Stroke := ([] : List UInt8) } : Parts), 10) else ((ref01_cut N r4.2.1).bind fun r17 => (((ssub r4.2.1 0 r17).bind fun r36 => ((ssub r4.2.1 r17 (r4.2.1.length : Int)).bind fun r39 => some (r4.1, r36, r39, r4.2.2.1))).bind fun j30 => some (({ Area := j30.1, Prefix := j30.2.1, Suffix := j30.2.2.1, Stroke := j30.2.2.2 } : Parts), 0)))))
theorem co_ref01_Split : CallOk Tryz.prog 34 := fun _ _ => by kernel_rfl
set_option maxHeartbeats 4000000 in
set_option maxRecDepth 100000 in
theorem c_ref01_Split (N : Nat) (w0 : World) (F0 : Mem) (hF : ∀ b o, F0 b = some o → w0.heap[b]? = some o) (x0 : (List UInt8)) (r : (Parts × Int)) (h : ref01_Split N x0 = some r) :
  Calls Tryz.prog 34 ([(.string ⟨(x0).toArray⟩)] : List Value).toArray w0 (FRet w0 F0 fun F' v => v = (.tuple #[(.agg #[(.string ⟨(r.1.Area).toArray⟩), (.string ⟨(r.1.Prefix).toArray⟩), (.string ⟨(r.1.Suffix).toArray⟩), (.string ⟨(r.1.Stroke).toArray⟩)]), (vi r.2)])) := by
 have hs0 := HS.start hF
 refine calls_of (n := 30) (c := bodyOf Tryz.f34) Tryz.func34 (by kernel_rfl) (by kernel_rfl) (by kernel_rfl) ?_
 refine Sq (Rg [0, 1] ?_)
 refine Al 2 0 27 #[(.string ⟨(([] : List UInt8)).toArray⟩), (.string ⟨(([] : List UInt8)).toArray⟩), (.string ⟨(([] : List UInt8)).toArray⟩), (.string ⟨(([] : List UInt8)).toArray⟩)] hs0 (fun b1 w2 (hs3 : HS w0 F0 w2 F0 [(sb b1 #[(.string ⟨(([] : List UInt8)).toArray⟩), (.string ⟨(([] : List UInt8)).toArray⟩), (.string ⟨(([] : List UInt8)).toArray⟩), (.string ⟨(([] : List UInt8)).toArray⟩)] 27)]) => ?_)
 refine V 3 23 (mc (vi 0) (vi 0)) ?_
 refine Nss (Rg [0, 1, 2, 3, 4, 5, 6, 7, 8, 9, 10] ?_)
 refine V 10 9 (mv 0 (.string ⟨(x0).toArray⟩)) ?_
 obtain ⟨r4, hr5, h6⟩ := bind_some h
 refine Cl 11 100 81 #[(.tmp 10)] #[9] co_ref01_parts hs3 (c_ref01_parts N w2 F0 hs3.pers (x0) _ hr5) ?_
 intro v7 F1 w8 hs9 le10 hp11
 obtain rfl := hp11
 refine V 9 100 (mv 11 (.tuple #[(.string ⟨(r4.1).toArray⟩), (.string ⟨(r4.2.1).toArray⟩), (.string ⟨(r4.2.2.1).toArray⟩), (.bool r4.2.2.2)])) ?_
 refine V 12 9 (ex 9 0 (.string ⟨(r4.1).toArray⟩) (vs := #[(.string ⟨(r4.1).toArray⟩), (.string ⟨(r4.2.1).toArray⟩), (.string ⟨(r4.2.2.1).toArray⟩), (.bool r4.2.2.2)])) ?_
 refine V 13 9 (ex 9 1 (.string ⟨(r4.2.1).toArray⟩) (vs := #[(.string ⟨(r4.1).toArray⟩), (.string ⟨(r4.2.1).toArray⟩), (.string ⟨(r4.2.2.1).toArray⟩), (.bool r4.2.2.2)])) ?_
 refine V 14 9 (ex 9 2 (.string ⟨(r4.2.2.1).toArray⟩) (vs := #[(.string ⟨(r4.1).toArray⟩), (.string ⟨(r4.2.1).toArray⟩), (.string ⟨(r4.2.2.1).toArray⟩), (.bool r4.2.2.2)])) ?_
 refine V 15 4 (ex 9 3 (.bool r4.2.2.2) (vs := #[(.string ⟨(r4.1).toArray⟩), (.string ⟨(r4.2.1).toArray⟩), (.string ⟨(r4.2.2.1).toArray⟩), (.bool r4.2.2.2)])) ?_
 refine V 4 9 (ma 12 (.string ⟨(r4.1).toArray⟩)) ?_
 refine V 5 9 (ma 13 (.string ⟨(r4.2.1).toArray⟩)) ?_
 refine V 6 9 (ma 14 (.string ⟨(r4.2.2.1).toArray⟩)) ?_
 refine V 7 4 (ma 15 (.bool r4.2.2.2)) ?_
 refine Nss ?_
 refine Sq (Rg [0, 1] ?_)
 refine V 16 4 (mv 7 (.bool r4.2.2.2)) ?_
 refine V 17 4 (run_not (t := 4) (x := (.tmp 16)) (a := r4.2.2.2) rfl) ?_
 refine Nt ?_
 refine CWP.cond (t := (!r4.2.2.2)) (by kernel_rfl) rfl (fun hb12 => ?_) (fun hb12 => ?_)
 ·have h13 := cond_t h6 hb12
  refine Sq (Rg [0, 1, 2] ?_)
  refine V 18 27 (run_build2 (t := 27) (parts := #[]) (vs := []) (rfl) (cs := [(.string ⟨(([] : List UInt8)).toArray⟩), (.string ⟨(([] : List UInt8)).toArray⟩), (.string ⟨(([] : List UInt8)).toArray⟩), (.string ⟨(([] : List UInt8)).toArray⟩)]) (by kernel_rfl)) ?_
  refine RWP.store (ty := 0) (g := none) (by kernel_rfl) rfl (x := (.tmp 2)) (y := (.tmp 18)) (t := 27) (gg := true) (s := 4) (v := (.agg #[(.string ⟨(([] : List UInt8)).toArray⟩), (.string ⟨(([] : List UInt8)).toArray⟩), (.string ⟨(([] : List UInt8)).toArray⟩), (.string ⟨(([] : List UInt8)).toArray⟩)])) (b := b1) (o := 0) (C := #[(.string ⟨(([] : List UInt8)).toArray⟩), (.string ⟨(([] : List UInt8)).toArray⟩), (.string ⟨(([] : List UInt8)).toArray⟩), (.string ⟨(([] : List UInt8)).toArray⟩)]) rfl rfl (by kernel_rfl) hs9 (k := 0) rfl rfl rfl rfl (C' := #[(.string ⟨(([] : List UInt8)).toArray⟩), (.string ⟨(([] : List UInt8)).toArray⟩), (.string ⟨(([] : List UInt8)).toArray⟩), (.string ⟨(([] : List UInt8)).toArray⟩)]) rfl (fun w14 (hs15 : HS w0 F0 w14 F1 [(sb b1 #[(.string ⟨(([] : List UInt8)).toArray⟩), (.string ⟨(([] : List UInt8)).toArray⟩), (.string ⟨(([] : List UInt8)).toArray⟩), (.string ⟨(([] : List UInt8)).toArray⟩)] 27)]) => ?_)
  refine V 3 23 (mc (vi 10) (vi 10)) ?_
  refine Nt ?_
  refine CWP.ret (by kernel_rfl) ?_
  refine thenQ_ret ?_
  have hfin := some_inj h13
  subst hfin
  exact ⟨rfl, (.tuple #[(.agg #[(.string ⟨(([] : List UInt8)).toArray⟩), (.string ⟨(([] : List UInt8)).toArray⟩), (.string ⟨(([] : List UInt8)).toArray⟩), (.string ⟨(([] : List UInt8)).toArray⟩)]), (vi 10)]), res_of (l := [.cell 2 27, .tmp 3]) (by kernel_rfl) (vs := [(.agg #[(.string ⟨(([] : List UInt8)).toArray⟩), (.string ⟨(([] : List UInt8)).toArray⟩), (.string ⟨(([] : List UInt8)).toArray⟩), (.string ⟨(([] : List UInt8)).toArray⟩)]), (vi 10)]) ⟨b1, 0, rfl, run_loadVar' (t := 27) (g := true) (s := 4) (by kernel_rfl) (hs15.ownAt (k := 0) rfl) rfl (by decide), ⟨rfl, trivial⟩⟩, (.tuple #[(.agg #[(.string ⟨(([] : List UInt8)).toArray⟩), (.string ⟨(([] : List UInt8)).toArray⟩), (.string ⟨(([] : List UInt8)).toArray⟩), (.string ⟨(([] : List UInt8)).toArray⟩)]), (vi 10)]), F1, rfl, hs15.clear, rfl⟩
 ·have h16 := cond_f h6 hb12
  refine Sc ?_
  refine thenQ_nrm ?_
  refine Sq (Rg [0, 1, 2] ?_)
  refine V 19 9 (mv 5 (.string ⟨(r4.2.1).toArray⟩)) ?_
  obtain ⟨r17, hr18, h19⟩ := bind_some h16
  refine Cl 20 3 82 #[(.tmp 19)] #[9] co_ref01_cut hs9 (c_ref01_cut N w8 F1 hs9.pers (r4.2.1) _ hr18) ?_
  intro v20 F2 w21 hs22 le23 hp24
  obtain rfl := hp24
  refine V 8 3 (ma 20 (vi r17)) ?_
  refine Nss ?_
  obtain ⟨j30, hj34, h35⟩ := bind_some h19
  refine CWP.regionD (by kernel_rfl) (by kernel_rfl) (by kernel_rfl) (by kernel_rfl) (z := 11) (F := F2) (Lc := []) (Lz := []) (l := [false, false, false, false, false, false, false, false, false, false, false]) (fuel := 11) (by kernel_rfl) (by kernel_rfl) hs22 (by simp) (by simp) (fun f w => ∃ (F3 : Mem), HS w0 F0 w F3 [(sb b1 #[(.string ⟨(j30.1).toArray⟩), (.string ⟨(j30.2.1).toArray⟩), (.string ⟨(j30.2.2.1).toArray⟩), (.string ⟨(j30.2.2.2).toArray⟩)] 27)] ∧ Mem.le F2 F3 ∧ f.d = [] ∧ f 2 = (.pointer (some ⟨b1, 0, none⟩)) ∧ f 3 = (vi 0)) (fun wd25 hw26 => ?_) ?_
  ·refine Dt 0 21 9 _ (fun _ hq => mv 4 (.string ⟨(r4.1).toArray⟩)) ?_
   refine Dt 1 22 9 _ (fun _ hq => mv 5 (.string ⟨(r4.2.1).toArray⟩)) ?_
   refine Dt 2 23 3 _ (fun _ hq => mv 8 (vi r17)) ?_
   obtain ⟨r36, hr37, h38⟩ := bind_some hj34
   refine Dt 3 24 9 (.string ⟨(r36).toArray⟩) (fun _ hq => run_ssub (t := 9) (x := (.tmp 22)) (lo := none) (hi := (some (.tmp 23))) (a := r4.2.1) (il := 0) (ih := r17) (v := r36) rfl (by kernel_rfl) rfl rfl hr37) ?_
   refine Dt 4 25 9 _ (fun _ hq => mv 5 (.string ⟨(r4.2.1).toArray⟩)) ?_
   refine Dt 5 26 3 _ (fun _ hq => mv 8 (vi r17)) ?_
   obtain ⟨r39, hr40, h41⟩ := bind_some h38
   refine Dt 6 27 9 (.string ⟨(r39).toArray⟩) (fun _ hq => run_ssub (t := 9) (x := (.tmp 25)) (lo := (some (.tmp 26))) (hi := none) (a := r4.2.1) (il := r17) (ih := (r4.2.1.length : Int)) (v := r39) rfl (by kernel_rfl) rfl rfl hr40) ?_
   refine Dt 7 28 9 _ (fun _ hq => mv 6 (.string ⟨(r4.2.2.1).toArray⟩)) ?_
   refine Dt 8 29 27 (.agg #[(.string ⟨(r4.1).toArray⟩), (.string ⟨(r36).toArray⟩), (.string ⟨(r39).toArray⟩), (.string ⟨(r4.2.2.1).toArray⟩)]) (fun _ hq => run_build2 (t := 27) (parts := #[(0, (.tmp 21)), (1, (.tmp 24)), (2, (.tmp 27)), (3, (.tmp 28))]) (vs := [(0, (.string ⟨(r4.1).toArray⟩)), (1, (.string ⟨(r36).toArray⟩)), (2, (.string ⟨(r39).toArray⟩)), (3, (.string ⟨(r4.2.2.1).toArray⟩))]) (rfl) (cs := [(.string ⟨(r4.1).toArray⟩), (.string ⟨(r36).toArray⟩), (.string ⟨(r39).toArray⟩), (.string ⟨(r4.2.2.1).toArray⟩)]) (by kernel_rfl)) ?_
   refine DWP.one (i := 9) (by kernel_rfl) ?_
   refine DStep.store (l' := [true, true, true, true, true, true, true, true, true, true, false]) (zd := true) (by kernel_rfl) (by kernel_rfl) (ty := 0) (g := none) (by kernel_rfl) rfl (x := (.tmp 2)) (y := (.tmp 29)) (t := 27) (gg := true) (s := 4) (v := (.agg #[(.string ⟨(r4.1).toArray⟩), (.string ⟨(r36).toArray⟩), (.string ⟨(r39).toArray⟩), (.string ⟨(r4.2.2.1).toArray⟩)])) (b := b1) (o := 0) (C := #[(.string ⟨(([] : List UInt8)).toArray⟩), (.string ⟨(([] : List UInt8)).toArray⟩), (.string ⟨(([] : List UInt8)).toArray⟩), (.string ⟨(([] : List UInt8)).toArray⟩)]) rfl rfl (by kernel_rfl) hw26 (k := 0) rfl rfl rfl rfl (C' := #[(.string ⟨(r4.1).toArray⟩), (.string ⟨(r36).toArray⟩), (.string ⟨(r39).toArray⟩), (.string ⟨(r4.2.2.1).toArray⟩)]) rfl (Mem.le.refl _) (by simp) (fun e => by cases e) (fun w42 (hs43 : HS w0 F0 w42 F2 [(sb b1 #[(.string ⟨(r4.1).toArray⟩), (.string ⟨(r36).toArray⟩), (.string ⟨(r39).toArray⟩), (.string ⟨(r4.2.2.1).toArray⟩)] 27)]) => ?_)
   refine Dt 10 3 23 _ (fun _ hq => mc (vi 0) (vi 0)) ?_
   obtain rfl := some_inj h41
   exact DWP.done (by kernel_rfl) ⟨F2, hs43, (Mem.le.refl _), rfl, rfl, rfl⟩
  ·rintro f w27 ⟨F3, hs28, le29, e31, e32, e33⟩
   refine thenQ_nrm ?_
   refine CWP.ret (by kernel_rfl) ?_
   have hfin := some_inj h35
   subst hfin
   exact ⟨e31, (.tuple #[(.agg #[(.string ⟨(j30.1).toArray⟩), (.string ⟨(j30.2.1).toArray⟩), (.string ⟨(j30.2.2.1).toArray⟩), (.string ⟨(j30.2.2.2).toArray⟩)]), (vi 0)]), res_of (l := [.cell 2 27, .tmp 3]) (by kernel_rfl) (vs := [(.agg #[(.string ⟨(j30.1).toArray⟩), (.string ⟨(j30.2.1).toArray⟩), (.string ⟨(j30.2.2.1).toArray⟩), (.string ⟨(j30.2.2.2).toArray⟩)]), (vi 0)]) ⟨b1, 0, e32, run_loadVar' (t := 27) (g := true) (s := 4) (by kernel_rfl) (hs28.ownAt (k := 0) rfl) rfl (by decide), ⟨e33, trivial⟩⟩, (.tuple #[(.agg #[(.string ⟨(j30.1).toArray⟩), (.string ⟨(j30.2.1).toArray⟩), (.string ⟨(j30.2.2.1).toArray⟩), (.string ⟨(j30.2.2.2).toArray⟩)]), (vi 0)]), F3, rfl, hs28.clear, rfl⟩
end Go.Proofs.YtlddakefmfcblaaGreatDoor
namespace Go.Proofs.YtlddakefmfcblaaGreatDoor
open Go.Proofs
def air_Join (N : Nat) (x0 : Parts) : Option ((List UInt8) × Int) :=
 ((sadd x0.Prefix x0.Suffix).bind fun r4 => ((bif (x0.Area != ([] : List UInt8)) then ((sadd x0.Area ([47] : List UInt8)).bind fun r18 => ((sadd r18 r4).bind fun r21 => some r21)) else some r4).bind fun j10 => ((bif (x0.Stroke != ([] : List UInt8)) then ((sadd ([47] : List UInt8) x0.Stroke).bind fun r36 => ((sadd j10 r36).bind fun r39 => some r39)) else some j10).bind fun j28 => ((air_split N j28).bind fun r43 => (bif ((!r43.2) || (!((r43.1.Area == x0.Area) && ((r43.1.Prefix == x0.Prefix) && ((r43.1.Suffix == x0.Suffix) && ((r43.1.Stroke == x0.Stroke) && true)))))) then some (([] : List UInt8), 10) else some (j28, 0))))))
theorem co_air_Join : CallOk Tryz.prog 35 := fun _ _ => by kernel_rfl
set_option maxHeartbeats 4000000 in
set_option maxRecDepth 100000 in
theorem c_air_Join (N : Nat) (w0 : World) (F0 : Mem) (hF : ∀ b o, F0 b = some o → w0.heap[b]? = some o) (hG : Glob F0) (x0 : Parts) (r : ((List UInt8) × Int)) (h : air_Join N x0 = some r) :
  Calls Tryz.prog 35 ([(.agg #[(.string ⟨(x0.Area).toArray⟩), (.string ⟨(x0.Prefix).toArray⟩), (.string ⟨(x0.Suffix).toArray⟩), (.string ⟨(x0.Stroke).toArray⟩)])] : List Value).toArray w0 (FRet w0 F0 fun F' v => v = (.tuple #[(.string ⟨(r.1).toArray⟩), (vi r.2)])) := by
 have hs0 := HS.start hF
 refine calls_of (n := 41) (c := bodyOf Tryz.f35) Tryz.func35 (by kernel_rfl) (by kernel_rfl) (by kernel_rfl) ?_
 refine Sq (Rg [0, 1, 2] ?_)
 refine Bx 1 0 0 27 #[(.string ⟨(x0.Area).toArray⟩), (.string ⟨(x0.Prefix).toArray⟩), (.string ⟨(x0.Suffix).toArray⟩), (.string ⟨(x0.Stroke).toArray⟩)] hs0 (fun b1 w2 (hs3 : HS w0 F0 w2 F0 [(sb b1 #[(.string ⟨(x0.Area).toArray⟩), (.string ⟨(x0.Prefix).toArray⟩), (.string ⟨(x0.Suffix).toArray⟩), (.string ⟨(x0.Stroke).toArray⟩)] 27)]) => ?_)
 refine V 2 9 (mc (.string ⟨([] : List UInt8).toArray⟩) (.string ⟨(([] : List UInt8)).toArray⟩)) ?_
 refine V 3 23 (mc (vi 0) (vi 0)) ?_
 refine Nss (Rg [0, 1, 2, 3, 4, 5] ?_)
 refine V 7 0 (fa 27 1 1 1 1 b1 0 1) ?_
 refine V 8 9 (ld 9 7 b1 1 false 1 (.string ⟨(x0.Prefix).toArray⟩) (hs3.ownAt (k := 0) rfl)) ?_
 refine V 9 0 (fa 27 1 2 2 1 b1 0 2) ?_
 refine V 10 9 (ld 9 9 b1 2 false 1 (.string ⟨(x0.Suffix).toArray⟩) (hs3.ownAt (k := 0) rfl)) ?_
 obtain ⟨r4, hr5, h6⟩ := bind_some h
 refine V 11 9 (run_sadd (t := 9) (t' := 9) (x := (.tmp 8)) (y := (.tmp 10)) (a := x0.Prefix) (b := x0.Suffix) (v := r4) rfl rfl hr5) ?_
 refine V 4 9 (ma 11 (.string ⟨(r4).toArray⟩)) ?_
 refine Nss ?_
 refine Sq (Rg [0, 1, 2] ?_)
 refine V 12 0 (fa 27 1 0 0 1 b1 0 0) ?_
 refine V 13 9 (ld 9 12 b1 0 false 1 (.string ⟨(x0.Area).toArray⟩) (hs3.ownAt (k := 0) rfl)) ?_
 refine V 14 4 (run_scmp (t := 9) (t' := 9) (x := (.tmp 13)) (y := (.const (.string ⟨([] : List UInt8).toArray⟩))) (op := .neq) (a := x0.Area) (b := ([] : List UInt8)) (v := (x0.Area != ([] : List UInt8))) rfl rfl rfl) ?_
 refine Nt ?_
 obtain ⟨j10, hj14, h15⟩ := bind_some h6
 refine CWP.cut (fun f w => ∃ (F1 : Mem), HS w0 F0 w F1 [(sb b1 #[(.string ⟨(x0.Area).toArray⟩), (.string ⟨(x0.Prefix).toArray⟩), (.string ⟨(x0.Suffix).toArray⟩), (.string ⟨(x0.Stroke).toArray⟩)] 27)] ∧ Mem.le F0 F1 ∧ f.d = [] ∧ f 1 = (.pointer (some ⟨b1, 0, none⟩)) ∧ f 4 = (.string ⟨(j10).toArray⟩)) ?_ ?_
 ·refine CWP.cond (t := (x0.Area != ([] : List UInt8))) (by kernel_rfl) rfl (fun hb16 => ?_) (fun hb16 => ?_)
  ·have h17 := cond_t hj14 hb16
   refine Rg [0, 1, 2, 3, 4, 5] ?_
   refine V 15 0 (fa 27 1 0 0 1 b1 0 0) ?_
   refine V 16 9 (ld 9 15 b1 0 false 1 (.string ⟨(x0.Area).toArray⟩) (hs3.ownAt (k := 0) rfl)) ?_
   obtain ⟨r18, hr19, h20⟩ := bind_some h17
   refine V 17 9 (run_sadd (t := 9) (t' := 9) (x := (.tmp 16)) (y := (.const (.string ⟨([47] : List UInt8).toArray⟩))) (a := x0.Area) (b := ([47] : List UInt8)) (v := r18) rfl rfl hr19) ?_
   refine V 18 9 (mv 4 (.string ⟨(r4).toArray⟩)) ?_
   obtain ⟨r21, hr22, h23⟩ := bind_some h20
   refine V 19 9 (run_sadd (t := 9) (t' := 9) (x := (.tmp 17)) (y := (.tmp 18)) (a := r18) (b := r4) (v := r21) rfl rfl hr22) ?_
   refine V 4 9 (ma 19 (.string ⟨(r21).toArray⟩)) ?_
   refine RWP.nil ?_
   obtain rfl := some_inj h23
   exact .inl ⟨rfl, F0, hs3, (Mem.le.refl _), rfl, rfl, rfl⟩
  ·have h24 := cond_f hj14 hb16
   refine Sc ?_
   obtain rfl := some_inj h24
   exact .inl ⟨rfl, F0, hs3, (Mem.le.refl _), rfl, rfl, rfl⟩
 ·rintro f w7 ⟨F1, hs8, le9, e11, e12, e13⟩
  refine thenQ_nrm ?_
  refine Sq ?_
  refine Sq (Rg [0, 1, 2] ?_)
  refine V 20 0 (fa 27 1 3 3 1 b1 0 3 e12) ?_
  refine V 21 9 (ld 9 20 b1 3 false 1 (.string ⟨(x0.Stroke).toArray⟩) (hs8.ownAt (k := 0) rfl)) ?_
  refine V 22 4 (run_scmp (t := 9) (t' := 9) (x := (.tmp 21)) (y := (.const (.string ⟨([] : List UInt8).toArray⟩))) (op := .neq) (a := x0.Stroke) (b := ([] : List UInt8)) (v := (x0.Stroke != ([] : List UInt8))) rfl rfl rfl) ?_
  refine Nt ?_
  obtain ⟨j28, hj32, h33⟩ := bind_some h15
  refine CWP.cut (fun f w => ∃ (F2 : Mem), HS w0 F0 w F2 [(sb b1 #[(.string ⟨(x0.Area).toArray⟩), (.string ⟨(x0.Prefix).toArray⟩), (.string ⟨(x0.Suffix).toArray⟩), (.string ⟨(x0.Stroke).toArray⟩)] 27)] ∧ Mem.le F1 F2 ∧ f.d = [] ∧ f 1 = (.pointer (some ⟨b1, 0, none⟩)) ∧ f 4 = (.string ⟨(j28).toArray⟩)) ?_ ?_
  ·refine CWP.cond (t := (x0.Stroke != ([] : List UInt8))) (by kernel_rfl) rfl (fun hb34 => ?_) (fun hb34 => ?_)
   ·have h35 := cond_t hj32 hb34
    refine Rg [0, 1, 2, 3, 4, 5] ?_
    refine V 23 9 (mv 4 (.string ⟨(j10).toArray⟩) e13) ?_
    refine V 24 0 (fa 27 1 3 3 1 b1 0 3 e12) ?_
    refine V 25 9 (ld 9 24 b1 3 false 1 (.string ⟨(x0.Stroke).toArray⟩) (hs8.ownAt (k := 0) rfl)) ?_
    obtain ⟨r36, hr37, h38⟩ := bind_some h35
    refine V 26 9 (run_sadd (t := 9) (t' := 9) (x := (.const (.string ⟨([47] : List UInt8).toArray⟩))) (y := (.tmp 25)) (a := ([47] : List UInt8)) (b := x0.Stroke) (v := r36) rfl rfl hr37) ?_
    obtain ⟨r39, hr40, h41⟩ := bind_some h38
    refine V 27 9 (run_sadd (t := 9) (t' := 9) (x := (.tmp 23)) (y := (.tmp 26)) (a := j10) (b := r36) (v := r39) rfl rfl hr40) ?_
    refine V 4 9 (ma 27 (.string ⟨(r39).toArray⟩)) ?_
    refine RWP.nil ?_
    obtain rfl := some_inj h41
    exact .inl ⟨rfl, F1, hs8, (Mem.le.refl _), e11, e12, rfl⟩
   ·have h42 := cond_f hj32 hb34
    refine Sc ?_
    obtain rfl := some_inj h42
    exact .inl ⟨rfl, F1, hs8, (Mem.le.refl _), e11, e12, e13⟩
  ·rintro f w25 ⟨F2, hs26, le27, e29, e30, e31⟩
   refine thenQ_nrm ?_
   refine Sq ?_
   refine Sq (Rg [0, 1, 2, 3, 4, 5, 6, 7] ?_)
   refine V 29 9 (mv 4 (.string ⟨(j28).toArray⟩) e31) ?_
   obtain ⟨r43, hr44, h45⟩ := bind_some h33
   refine Cl 30 86 66 #[(.tmp 29)] #[9] co_air_split hs26 (c_air_split N w25 F2 hs26.pers (hG.mono (le9.trans le27)) (j28) _ hr44) ?_
   intro v46 F3 w47 hs48 le49 hp50
   obtain rfl := hp50
   refine V 28 86 (mv 30 (.tuple #[(.agg #[(.string ⟨(r43.1.Area).toArray⟩), (.string ⟨(r43.1.Prefix).toArray⟩), (.string ⟨(r43.1.Suffix).toArray⟩), (.string ⟨(r43.1.Stroke).toArray⟩)]), (.bool r43.2)])) ?_
   refine V 31 27 (ex 28 0 (.agg #[(.string ⟨(r43.1.Area).toArray⟩), (.string ⟨(r43.1.Prefix).toArray⟩), (.string ⟨(r43.1.Suffix).toArray⟩), (.string ⟨(r43.1.Stroke).toArray⟩)]) (vs := #[(.agg #[(.string ⟨(r43.1.Area).toArray⟩), (.string ⟨(r43.1.Prefix).toArray⟩), (.string ⟨(r43.1.Suffix).toArray⟩), (.string ⟨(r43.1.Stroke).toArray⟩)]), (.bool r43.2)])) ?_
   refine V 32 4 (ex 28 1 (.bool r43.2) (vs := #[(.agg #[(.string ⟨(r43.1.Area).toArray⟩), (.string ⟨(r43.1.Prefix).toArray⟩), (.string ⟨(r43.1.Suffix).toArray⟩), (.string ⟨(r43.1.Stroke).toArray⟩)]), (.bool r43.2)])) ?_
   refine Al 5 0 27 #[(.string ⟨(([] : List UInt8)).toArray⟩), (.string ⟨(([] : List UInt8)).toArray⟩), (.string ⟨(([] : List UInt8)).toArray⟩), (.string ⟨(([] : List UInt8)).toArray⟩)] hs48 (fun b51 w52 (hs53 : HS w0 F0 w52 F3 [(sb b51 #[(.string ⟨(([] : List UInt8)).toArray⟩), (.string ⟨(([] : List UInt8)).toArray⟩), (.string ⟨(([] : List UInt8)).toArray⟩), (.string ⟨(([] : List UInt8)).toArray⟩)] 27), (sb b1 #[(.string ⟨(x0.Area).toArray⟩), (.string ⟨(x0.Prefix).toArray⟩), (.string ⟨(x0.Suffix).toArray⟩), (.string ⟨(x0.Stroke).toArray⟩)] 27)]) => ?_)
   refine RWP.store (ty := 0) (g := none) (by kernel_rfl) rfl (x := (.tmp 5)) (y := (.tmp 31)) (t := 27) (gg := true) (s := 4) (v := (.agg #[(.string ⟨(r43.1.Area).toArray⟩), (.string ⟨(r43.1.Prefix).toArray⟩), (.string ⟨(r43.1.Suffix).toArray⟩), (.string ⟨(r43.1.Stroke).toArray⟩)])) (b := b51) (o := 0) (C := #[(.string ⟨(([] : List UInt8)).toArray⟩), (.string ⟨(([] : List UInt8)).toArray⟩), (.string ⟨(([] : List UInt8)).toArray⟩), (.string ⟨(([] : List UInt8)).toArray⟩)]) rfl rfl (by kernel_rfl) hs53 (k := 0) rfl rfl rfl rfl (C' := #[(.string ⟨(r43.1.Area).toArray⟩), (.string ⟨(r43.1.Prefix).toArray⟩), (.string ⟨(r43.1.Suffix).toArray⟩), (.string ⟨(r43.1.Stroke).toArray⟩)]) rfl (fun w54 (hs55 : HS w0 F0 w54 F3 [(sb b51 #[(.string ⟨(r43.1.Area).toArray⟩), (.string ⟨(r43.1.Prefix).toArray⟩), (.string ⟨(r43.1.Suffix).toArray⟩), (.string ⟨(r43.1.Stroke).toArray⟩)] 27), (sb b1 #[(.string ⟨(x0.Area).toArray⟩), (.string ⟨(x0.Prefix).toArray⟩), (.string ⟨(x0.Suffix).toArray⟩), (.string ⟨(x0.Stroke).toArray⟩)] 27)]) => ?_)
   refine V 6 4 (ma 32 (.bool r43.2)) ?_
   refine Nss (Rg [0, 1, 2, 3, 4, 5, 6] ?_)
   refine RWP.cut (fun f w => ∃ (F4 : Mem), HS w0 F0 w F4 [] ∧ Mem.le F3 F4 ∧ f.d = [] ∧ f 4 = (.string ⟨(j28).toArray⟩) ∧ f 39 = (.bool ((!r43.2) || (!((r43.1.Area == x0.Area) && ((r43.1.Prefix == x0.Prefix) && ((r43.1.Suffix == x0.Suffix) && ((r43.1.Stroke == x0.Stroke) && true)))))))) ?_ ?_
   ·refine V 33 4 (mv 6 (.bool r43.2)) ?_
    refine V 34 4 (run_not (t := 4) (x := (.tmp 33)) (a := r43.2) rfl) ?_
    refine V 35 4 (mv 34 (.bool (!r43.2))) ?_
    refine RWP.split (!r43.2) (fun hb62 => ?_) (fun hb62 => ?_)
    ·refine Sk [36, 37, 38] 2 false 35 hb62 ?_
     refine V 39 4 (p1 35 (.const (.bool true)) (.tmp 38) (.bool true) hb62) ?_
     have hs63 : HS w0 F0 w54 F3 [(sb b1 #[(.string ⟨(x0.Area).toArray⟩), (.string ⟨(x0.Prefix).toArray⟩), (.string ⟨(x0.Suffix).toArray⟩), (.string ⟨(x0.Stroke).toArray⟩)] 27)] := hs55.drop 0
     have hs64 : HS w0 F0 w54 F3 [] := hs63.drop 0
     exact RWP.nil ⟨rfl, F3, hs64, (Mem.le.refl _), e29, e31, (congrArg Value.bool (or_t hb62 (rfl)))⟩
    ·refine Vg 36 27 2 false 35 hb62 (ld 27 5 b51 0 true 4 (.agg #[(.string ⟨(r43.1.Area).toArray⟩), (.string ⟨(r43.1.Prefix).toArray⟩), (.string ⟨(r43.1.Suffix).toArray⟩), (.string ⟨(r43.1.Stroke).toArray⟩)]) (hs55.ownAt (k := 0) rfl)) ?_
     refine Vg 37 27 2 false 35 hb62 (ld 27 1 b1 0 true 4 (.agg #[(.string ⟨(x0.Area).toArray⟩), (.string ⟨(x0.Prefix).toArray⟩), (.string ⟨(x0.Suffix).toArray⟩), (.string ⟨(x0.Stroke).toArray⟩)]) (hs55.ownAt (k := 1) rfl) e30) ?_
     refine Vg 38 4 2 false 35 hb62 (run_nes (t := 27) (t' := 27) (x := (.tmp 36)) (y := (.tmp 37)) (xs := #[(.string ⟨(r43.1.Area).toArray⟩), (.string ⟨(r43.1.Prefix).toArray⟩), (.string ⟨(r43.1.Suffix).toArray⟩), (.string ⟨(r43.1.Stroke).toArray⟩)]) (ys := #[(.string ⟨(x0.Area).toArray⟩), (.string ⟨(x0.Prefix).toArray⟩), (.string ⟨(x0.Suffix).toArray⟩), (.string ⟨(x0.Stroke).toArray⟩)]) (b := ((r43.1.Area == x0.Area) && ((r43.1.Prefix == x0.Prefix) && ((r43.1.Suffix == x0.Suffix) && ((r43.1.Stroke == x0.Stroke) && true))))) rfl rfl (by kernel_rfl) (by kernel_rfl)) ?_
     refine V 39 4 (p0 35 (.const (.bool true)) (.tmp 38) (.bool (!((r43.1.Area == x0.Area) && ((r43.1.Prefix == x0.Prefix) && ((r43.1.Suffix == x0.Suffix) && ((r43.1.Stroke == x0.Stroke) && true)))))) hb62) ?_
     have hs65 : HS w0 F0 w54 F3 [(sb b1 #[(.string ⟨(x0.Area).toArray⟩), (.string ⟨(x0.Prefix).toArray⟩), (.string ⟨(x0.Suffix).toArray⟩), (.string ⟨(x0.Stroke).toArray⟩)] 27)] := hs55.drop 0
     have hs66 : HS w0 F0 w54 F3 [] := hs65.drop 0
     exact RWP.nil ⟨rfl, F3, hs66, (Mem.le.refl _), e29, e31, (congrArg Value.bool (or_f hb62 (rfl)))⟩
   ·rintro f w56 ⟨F4, hs57, le58, e59, e60, e61⟩
    refine thenQ_nrm ?_
    refine CWP.cond (t := ((!r43.2) || (!((r43.1.Area == x0.Area) && ((r43.1.Prefix == x0.Prefix) && ((r43.1.Suffix == x0.Suffix) && ((r43.1.Stroke == x0.Stroke) && true))))))) (by kernel_rfl) e61 (fun hb67 => ?_) (fun hb67 => ?_)
    ·have h68 := cond_t h45 hb67
     refine Sq (Rg [0, 1] ?_)
     refine V 2 9 (mc (.string ⟨([] : List UInt8).toArray⟩) (.string ⟨(([] : List UInt8)).toArray⟩)) ?_
     refine V 3 23 (mc (vi 10) (vi 10)) ?_
     refine Nt ?_
     refine CWP.ret (by kernel_rfl) ?_
     refine thenQ_ret ?_
     have hfin := some_inj h68
     subst hfin
     exact ⟨e59, (.tuple #[(.string ⟨(([] : List UInt8)).toArray⟩), (vi 10)]), res_of (l := [.tmp 2, .tmp 3]) (by kernel_rfl) (vs := [(.string ⟨(([] : List UInt8)).toArray⟩), (vi 10)]) ⟨rfl, ⟨rfl, trivial⟩⟩, (.tuple #[(.string ⟨(([] : List UInt8)).toArray⟩), (vi 10)]), F4, rfl, hs57.clear, rfl⟩
    ·have h69 := cond_f h45 hb67
     refine Sc ?_
     refine thenQ_nrm ?_
     refine Sq (Rg [0, 1, 2] ?_)
     refine V 40 9 (mv 4 (.string ⟨(j28).toArray⟩) e60) ?_
     refine V 2 9 (ma 40 (.string ⟨(j28).toArray⟩)) ?_
     refine V 3 23 (mc (vi 0) (vi 0)) ?_
     refine Nt ?_
     refine CWP.ret (by kernel_rfl) ?_
     have hfin := some_inj h69
     subst hfin
     exact ⟨e59, (.tuple #[(.string ⟨(j28).toArray⟩), (vi 0)]), res_of (l := [.tmp 2, .tmp 3]) (by kernel_rfl) (vs := [(.string ⟨(j28).toArray⟩), (vi 0)]) ⟨rfl, ⟨rfl, trivial⟩⟩, (.tuple #[(.string ⟨(j28).toArray⟩), (vi 0)]), F4, rfl, hs57.clear, rfl⟩
end Go.Proofs.YtlddakefmfcblaaGreatDoor
namespace Go.Proofs.YtlddakefmfcblaaGreatDoor
open Go.Proofs
def ref01_Join (N : Nat) (x0 : Parts) : Option ((List UInt8) × Int) :=
 (bif ((decide ((x0.Area.length : Int) > 16)) || ((decide ((x0.Prefix.length : Int) > 16)) || ((decide ((x0.Suffix.length : Int) > 16)) || (decide ((x0.Stroke.length : Int) > 16))))) then some (([] : List UInt8), 10) else ((sadd x0.Prefix x0.Suffix).bind fun r16 => ((bif (x0.Area != ([] : List UInt8)) then ((sadd x0.Area ([47] : List UInt8)).bind fun r30 => ((sadd r30 r16).bind fun r33 => some r33)) else some r16).bind fun j22 => ((bif (x0.Stroke != ([] : List UInt8)) then ((sadd j22 ([47] : List UInt8)).bind fun r48 => ((sadd r48 x0.Stroke).bind fun r51 => some r51)) else some j22).bind fun j40 => ((ref01_Split N j40).bind fun r55 => (bif ((r55.2 != 0) || (!((r55.1.Area == x0.Area) && ((r55.1.Prefix == x0.Prefix) && ((r55.1.Suffix == x0.Suffix) && ((r55.1.Stroke == x0.Stroke) && true)))))) then some (([] : List UInt8), 10) else some (j40, 0)))))))
theorem co_ref01_Join : CallOk Tryz.prog 36 := fun _ _ => by kernel_rfl
set_option maxHeartbeats 4000000 in
set_option maxRecDepth 100000 in
theorem c_ref01_Join (N : Nat) (w0 : World) (F0 : Mem) (hF : ∀ b o, F0 b = some o → w0.heap[b]? = some o) (x0 : Parts) (r : ((List UInt8) × Int)) (h : ref01_Join N x0 = some r) :
  Calls Tryz.prog 36 ([(.agg #[(.string ⟨(x0.Area).toArray⟩), (.string ⟨(x0.Prefix).toArray⟩), (.string ⟨(x0.Suffix).toArray⟩), (.string ⟨(x0.Stroke).toArray⟩)])] : List Value).toArray w0 (FRet w0 F0 fun F' v => v = (.tuple #[(.string ⟨(r.1).toArray⟩), (vi r.2)])) := by
 have hs0 := HS.start hF
 refine calls_of (n := 63) (c := bodyOf Tryz.f36) Tryz.func36 (by kernel_rfl) (by kernel_rfl) (by kernel_rfl) ?_
 refine Sq (Rg [0, 1, 2] ?_)
 refine Bx 1 0 0 27 #[(.string ⟨(x0.Area).toArray⟩), (.string ⟨(x0.Prefix).toArray⟩), (.string ⟨(x0.Suffix).toArray⟩), (.string ⟨(x0.Stroke).toArray⟩)] hs0 (fun b1 w2 (hs3 : HS w0 F0 w2 F0 [(sb b1 #[(.string ⟨(x0.Area).toArray⟩), (.string ⟨(x0.Prefix).toArray⟩), (.string ⟨(x0.Suffix).toArray⟩), (.string ⟨(x0.Stroke).toArray⟩)] 27)]) => ?_)
 refine V 2 9 (mc (.string ⟨([] : List UInt8).toArray⟩) (.string ⟨(([] : List UInt8)).toArray⟩)) ?_
 refine V 3 23 (mc (vi 0) (vi 0)) ?_
 refine Nss ?_
 refine Sq (Rg [0, 1, 2, 3, 4, 5, 6, 7, 8, 9, 10, 11, 12, 13, 14, 15, 16, 17, 18, 19, 20, 21] ?_)
 refine RWP.cut (fun f w => ∃ (F1 : Mem), HS w0 F0 w F1 [(sb b1 #[(.string ⟨(x0.Area).toArray⟩), (.string ⟨(x0.Prefix).toArray⟩), (.string ⟨(x0.Suffix).toArray⟩), (.string ⟨(x0.Stroke).toArray⟩)] 27)] ∧ Mem.le F0 F1 ∧ f.d = [] ∧ f 1 = (.pointer (some ⟨b1, 0, none⟩)) ∧ f 28 = (.bool ((decide ((x0.Area.length : Int) > 16)) || ((decide ((x0.Prefix.length : Int) > 16)) || ((decide ((x0.Suffix.length : Int) > 16)) || (decide ((x0.Stroke.length : Int) > 16))))))) ?_ ?_
 ·refine V 7 0 (fa 27 1 0 0 1 b1 0 0) ?_
  refine V 8 9 (ld 9 7 b1 0 false 1 (.string ⟨(x0.Area).toArray⟩) (hs3.ownAt (k := 0) rfl)) ?_
  refine V 9 3 (run_slen (x := (.tmp 8)) (ats := #[9]) (t := 9) (a := x0.Area) rfl rfl (by kernel_rfl)) ?_
  refine V 10 4 (run_gtr (t := 3) (t' := 3) (x := (.tmp 9)) (y := (.const (vi 16))) (k := .i64) (a := (x0.Area.length : Int)) (b := 16) rfl rfl) ?_
  refine V 11 4 (mv 10 (.bool (decide ((x0.Area.length : Int) > 16)))) ?_
  refine RWP.split (decide ((x0.Area.length : Int) > 16)) (fun hb10 => ?_) (fun hb10 => ?_)
  ·refine Sk [12, 13, 14, 15] 4 false 11 hb10 ?_
   refine V 16 4 (p1 11 (.const (.bool true)) (.tmp 15) (.bool true) hb10) ?_
   refine V 17 4 (mv 16 (.bool true)) ?_
   refine Sk [18, 19, 20, 21] 10 false 17 rfl ?_
   refine V 22 4 (p1 17 (.const (.bool true)) (.tmp 21) (.bool true) rfl) ?_
   refine V 23 4 (mv 22 (.bool true)) ?_
   refine Sk [24, 25, 26, 27] 16 false 23 rfl ?_
   refine V 28 4 (p1 23 (.const (.bool true)) (.tmp 27) (.bool true) rfl) ?_
   exact RWP.nil ⟨rfl, F0, hs3, (Mem.le.refl _), rfl, rfl, (congrArg Value.bool (or_t hb10 (rfl)))⟩
  ·refine Vg 12 0 4 false 11 hb10 (fa 27 1 1 1 1 b1 0 1) ?_
   refine Vg 13 9 4 false 11 hb10 (ld 9 12 b1 1 false 1 (.string ⟨(x0.Prefix).toArray⟩) (hs3.ownAt (k := 0) rfl)) ?_
   refine Vg 14 3 4 false 11 hb10 (run_slen (x := (.tmp 13)) (ats := #[9]) (t := 9) (a := x0.Prefix) rfl rfl (by kernel_rfl)) ?_
   refine Vg 15 4 4 false 11 hb10 (run_gtr (t := 3) (t' := 3) (x := (.tmp 14)) (y := (.const (vi 16))) (k := .i64) (a := (x0.Prefix.length : Int)) (b := 16) rfl rfl) ?_
   refine V 16 4 (p0 11 (.const (.bool true)) (.tmp 15) (.bool (decide ((x0.Prefix.length : Int) > 16))) hb10) ?_
   refine V 17 4 (mv 16 (.bool (decide ((x0.Prefix.length : Int) > 16)))) ?_
   refine RWP.split (decide ((x0.Prefix.length : Int) > 16)) (fun hb11 => ?_) (fun hb11 => ?_)
   ·refine Sk [18, 19, 20, 21] 10 false 17 hb11 ?_
    refine V 22 4 (p1 17 (.const (.bool true)) (.tmp 21) (.bool true) hb11) ?_
    refine V 23 4 (mv 22 (.bool true)) ?_
    refine Sk [24, 25, 26, 27] 16 false 23 rfl ?_
    refine V 28 4 (p1 23 (.const (.bool true)) (.tmp 27) (.bool true) rfl) ?_
    exact RWP.nil ⟨rfl, F0, hs3, (Mem.le.refl _), rfl, rfl, (congrArg Value.bool (or_f hb10 (or_t hb11 (rfl))))⟩
   ·refine Vg 18 0 10 false 17 hb11 (fa 27 1 2 2 1 b1 0 2) ?_
    refine Vg 19 9 10 false 17 hb11 (ld 9 18 b1 2 false 1 (.string ⟨(x0.Suffix).toArray⟩) (hs3.ownAt (k := 0) rfl)) ?_
    refine Vg 20 3 10 false 17 hb11 (run_slen (x := (.tmp 19)) (ats := #[9]) (t := 9) (a := x0.Suffix) rfl rfl (by kernel_rfl)) ?_
    refine Vg 21 4 10 false 17 hb11 (run_gtr (t := 3) (t' := 3) (x := (.tmp 20)) (y := (.const (vi 16))) (k := .i64) (a := (x0.Suffix.length : Int)) (b := 16) rfl rfl) ?_
    refine V 22 4 (p0 17 (.const (.bool true)) (.tmp 21) (.bool (decide ((x0.Suffix.length : Int) > 16))) hb11) ?_
    refine V 23 4 (mv 22 (.bool (decide ((x0.Suffix.length : Int) > 16)))) ?_
    refine RWP.split (decide ((x0.Suffix.length : Int) > 16)) (fun hb12 => ?_) (fun hb12 => ?_)
    ·refine Sk [24, 25, 26, 27] 16 false 23 hb12 ?_
     refine V 28 4 (p1 23 (.const (.bool true)) (.tmp 27) (.bool true) hb12) ?_
     exact RWP.nil ⟨rfl, F0, hs3, (Mem.le.refl _), rfl, rfl, (congrArg Value.bool (or_f hb10 (or_f hb11 (or_t hb12 (rfl)))))⟩
    ·refine Vg 24 0 16 false 23 hb12 (fa 27 1 3 3 1 b1 0 3) ?_
     refine Vg 25 9 16 false 23 hb12 (ld 9 24 b1 3 false 1 (.string ⟨(x0.Stroke).toArray⟩) (hs3.ownAt (k := 0) rfl)) ?_
     refine Vg 26 3 16 false 23 hb12 (run_slen (x := (.tmp 25)) (ats := #[9]) (t := 9) (a := x0.Stroke) rfl rfl (by kernel_rfl)) ?_
     refine Vg 27 4 16 false 23 hb12 (run_gtr (t := 3) (t' := 3) (x := (.tmp 26)) (y := (.const (vi 16))) (k := .i64) (a := (x0.Stroke.length : Int)) (b := 16) rfl rfl) ?_
     refine V 28 4 (p0 23 (.const (.bool true)) (.tmp 27) (.bool (decide ((x0.Stroke.length : Int) > 16))) hb12) ?_
     exact RWP.nil ⟨rfl, F0, hs3, (Mem.le.refl _), rfl, rfl, (congrArg Value.bool (or_f hb10 (or_f hb11 (or_f hb12 (rfl)))))⟩
 ·rintro f w4 ⟨F1, hs5, le6, e7, e8, e9⟩
  refine thenQ_nrm ?_
  refine CWP.cond (t := ((decide ((x0.Area.length : Int) > 16)) || ((decide ((x0.Prefix.length : Int) > 16)) || ((decide ((x0.Suffix.length : Int) > 16)) || (decide ((x0.Stroke.length : Int) > 16)))))) (by kernel_rfl) e9 (fun hb13 => ?_) (fun hb13 => ?_)
  ·have h14 := cond_t h hb13
   refine Sq (Rg [0, 1] ?_)
   refine V 2 9 (mc (.string ⟨([] : List UInt8).toArray⟩) (.string ⟨(([] : List UInt8)).toArray⟩)) ?_
   refine V 3 23 (mc (vi 10) (vi 10)) ?_
   refine Nt ?_
   refine CWP.ret (by kernel_rfl) ?_
   refine thenQ_ret ?_
   have hfin := some_inj h14
   subst hfin
   exact ⟨e7, (.tuple #[(.string ⟨(([] : List UInt8)).toArray⟩), (vi 10)]), res_of (l := [.tmp 2, .tmp 3]) (by kernel_rfl) (vs := [(.string ⟨(([] : List UInt8)).toArray⟩), (vi 10)]) ⟨rfl, ⟨rfl, trivial⟩⟩, (.tuple #[(.string ⟨(([] : List UInt8)).toArray⟩), (vi 10)]), F1, rfl, hs5.clear, rfl⟩
  ·have h15 := cond_f h hb13
   refine Sc ?_
   refine thenQ_nrm ?_
   refine Sq (Rg [0, 1, 2, 3, 4, 5] ?_)
   refine V 29 0 (fa 27 1 1 1 1 b1 0 1 e8) ?_
   refine V 30 9 (ld 9 29 b1 1 false 1 (.string ⟨(x0.Prefix).toArray⟩) (hs5.ownAt (k := 0) rfl)) ?_
   refine V 31 0 (fa 27 1 2 2 1 b1 0 2 e8) ?_
   refine V 32 9 (ld 9 31 b1 2 false 1 (.string ⟨(x0.Suffix).toArray⟩) (hs5.ownAt (k := 0) rfl)) ?_
   obtain ⟨r16, hr17, h18⟩ := bind_some h15
   refine V 33 9 (run_sadd (t := 9) (t' := 9) (x := (.tmp 30)) (y := (.tmp 32)) (a := x0.Prefix) (b := x0.Suffix) (v := r16) rfl rfl hr17) ?_
   refine V 4 9 (ma 33 (.string ⟨(r16).toArray⟩)) ?_
   refine Nss ?_
   refine Sq (Rg [0, 1, 2] ?_)
   refine V 34 0 (fa 27 1 0 0 1 b1 0 0 e8) ?_
   refine V 35 9 (ld 9 34 b1 0 false 1 (.string ⟨(x0.Area).toArray⟩) (hs5.ownAt (k := 0) rfl)) ?_
   refine V 36 4 (run_scmp (t := 9) (t' := 9) (x := (.tmp 35)) (y := (.const (.string ⟨([] : List UInt8).toArray⟩))) (op := .neq) (a := x0.Area) (b := ([] : List UInt8)) (v := (x0.Area != ([] : List UInt8))) rfl rfl rfl) ?_
   refine Nt ?_
   obtain ⟨j22, hj26, h27⟩ := bind_some h18
   refine CWP.cut (fun f w => ∃ (F2 : Mem), HS w0 F0 w F2 [(sb b1 #[(.string ⟨(x0.Area).toArray⟩), (.string ⟨(x0.Prefix).toArray⟩), (.string ⟨(x0.Suffix).toArray⟩), (.string ⟨(x0.Stroke).toArray⟩)] 27)] ∧ Mem.le F1 F2 ∧ f.d = [] ∧ f 1 = (.pointer (some ⟨b1, 0, none⟩)) ∧ f 4 = (.string ⟨(j22).toArray⟩)) ?_ ?_
   ·refine CWP.cond (t := (x0.Area != ([] : List UInt8))) (by kernel_rfl) rfl (fun hb28 => ?_) (fun hb28 => ?_)
    ·have h29 := cond_t hj26 hb28
     refine Rg [0, 1, 2, 3, 4, 5] ?_
     refine V 37 0 (fa 27 1 0 0 1 b1 0 0 e8) ?_
     refine V 38 9 (ld 9 37 b1 0 false 1 (.string ⟨(x0.Area).toArray⟩) (hs5.ownAt (k := 0) rfl)) ?_
     obtain ⟨r30, hr31, h32⟩ := bind_some h29
     refine V 39 9 (run_sadd (t := 9) (t' := 9) (x := (.tmp 38)) (y := (.const (.string ⟨([47] : List UInt8).toArray⟩))) (a := x0.Area) (b := ([47] : List UInt8)) (v := r30) rfl rfl hr31) ?_
     refine V 40 9 (mv 4 (.string ⟨(r16).toArray⟩)) ?_
     obtain ⟨r33, hr34, h35⟩ := bind_some h32
     refine V 41 9 (run_sadd (t := 9) (t' := 9) (x := (.tmp 39)) (y := (.tmp 40)) (a := r30) (b := r16) (v := r33) rfl rfl hr34) ?_
     refine V 4 9 (ma 41 (.string ⟨(r33).toArray⟩)) ?_
     refine RWP.nil ?_
     obtain rfl := some_inj h35
     exact .inl ⟨rfl, F1, hs5, (Mem.le.refl _), e7, e8, rfl⟩
    ·have h36 := cond_f hj26 hb28
     refine Sc ?_
     obtain rfl := some_inj h36
     exact .inl ⟨rfl, F1, hs5, (Mem.le.refl _), e7, e8, rfl⟩
   ·rintro f w19 ⟨F2, hs20, le21, e23, e24, e25⟩
    refine thenQ_nrm ?_
    refine Sq ?_
    refine Sq (Rg [0, 1, 2] ?_)
    refine V 42 0 (fa 27 1 3 3 1 b1 0 3 e24) ?_
    refine V 43 9 (ld 9 42 b1 3 false 1 (.string ⟨(x0.Stroke).toArray⟩) (hs20.ownAt (k := 0) rfl)) ?_
    refine V 44 4 (run_scmp (t := 9) (t' := 9) (x := (.tmp 43)) (y := (.const (.string ⟨([] : List UInt8).toArray⟩))) (op := .neq) (a := x0.Stroke) (b := ([] : List UInt8)) (v := (x0.Stroke != ([] : List UInt8))) rfl rfl rfl) ?_
    refine Nt ?_
    obtain ⟨j40, hj44, h45⟩ := bind_some h27
    refine CWP.cut (fun f w => ∃ (F3 : Mem), HS w0 F0 w F3 [(sb b1 #[(.string ⟨(x0.Area).toArray⟩), (.string ⟨(x0.Prefix).toArray⟩), (.string ⟨(x0.Suffix).toArray⟩), (.string ⟨(x0.Stroke).toArray⟩)] 27)] ∧ Mem.le F2 F3 ∧ f.d = [] ∧ f 1 = (.pointer (some ⟨b1, 0, none⟩)) ∧ f 4 = (.string ⟨(j40).toArray⟩)) ?_ ?_
    ·refine CWP.cond (t := (x0.Stroke != ([] : List UInt8))) (by kernel_rfl) rfl (fun hb46 => ?_) (fun hb46 => ?_)
     ·have h47 := cond_t hj44 hb46
      refine Rg [0, 1, 2, 3, 4, 5] ?_
      refine V 45 9 (mv 4 (.string ⟨(j22).toArray⟩) e25) ?_
      obtain ⟨r48, hr49, h50⟩ := bind_some h47
      refine V 46 9 (run_sadd (t := 9) (t' := 9) (x := (.tmp 45)) (y := (.const (.string ⟨([47] : List UInt8).toArray⟩))) (a := j22) (b := ([47] : List UInt8)) (v := r48) rfl rfl hr49) ?_
      refine V 47 0 (fa 27 1 3 3 1 b1 0 3 e24) ?_
      refine V 48 9 (ld 9 47 b1 3 false 1 (.string ⟨(x0.Stroke).toArray⟩) (hs20.ownAt (k := 0) rfl)) ?_
      obtain ⟨r51, hr52, h53⟩ := bind_some h50
      refine V 49 9 (run_sadd (t := 9) (t' := 9) (x := (.tmp 46)) (y := (.tmp 48)) (a := r48) (b := x0.Stroke) (v := r51) rfl rfl hr52) ?_
      refine V 4 9 (ma 49 (.string ⟨(r51).toArray⟩)) ?_
      refine RWP.nil ?_
      obtain rfl := some_inj h53
      exact .inl ⟨rfl, F2, hs20, (Mem.le.refl _), e23, e24, rfl⟩
     ·have h54 := cond_f hj44 hb46
      refine Sc ?_
      obtain rfl := some_inj h54
      exact .inl ⟨rfl, F2, hs20, (Mem.le.refl _), e23, e24, e25⟩
    ·rintro f w37 ⟨F3, hs38, le39, e41, e42, e43⟩
     refine thenQ_nrm ?_
     refine Sq (Rg [0, 1, 2, 3, 4, 5, 6, 7] ?_)
     refine V 51 9 (mv 4 (.string ⟨(j40).toArray⟩) e43) ?_
     obtain ⟨r55, hr56, h57⟩ := bind_some h45
     refine Cl 52 28 34 #[(.tmp 51)] #[9] co_ref01_Split hs38 (c_ref01_Split N w37 F3 hs38.pers (j40) _ hr56) ?_
     intro v58 F4 w59 hs60 le61 hp62
     obtain rfl := hp62
     refine V 50 28 (mv 52 (.tuple #[(.agg #[(.string ⟨(r55.1.Area).toArray⟩), (.string ⟨(r55.1.Prefix).toArray⟩), (.string ⟨(r55.1.Suffix).toArray⟩), (.string ⟨(r55.1.Stroke).toArray⟩)]), (vi r55.2)])) ?_
     refine V 53 27 (ex 50 0 (.agg #[(.string ⟨(r55.1.Area).toArray⟩), (.string ⟨(r55.1.Prefix).toArray⟩), (.string ⟨(r55.1.Suffix).toArray⟩), (.string ⟨(r55.1.Stroke).toArray⟩)]) (vs := #[(.agg #[(.string ⟨(r55.1.Area).toArray⟩), (.string ⟨(r55.1.Prefix).toArray⟩), (.string ⟨(r55.1.Suffix).toArray⟩), (.string ⟨(r55.1.Stroke).toArray⟩)]), (vi r55.2)])) ?_
     refine V 54 23 (ex 50 1 (vi r55.2) (vs := #[(.agg #[(.string ⟨(r55.1.Area).toArray⟩), (.string ⟨(r55.1.Prefix).toArray⟩), (.string ⟨(r55.1.Suffix).toArray⟩), (.string ⟨(r55.1.Stroke).toArray⟩)]), (vi r55.2)])) ?_
     refine Al 5 0 27 #[(.string ⟨(([] : List UInt8)).toArray⟩), (.string ⟨(([] : List UInt8)).toArray⟩), (.string ⟨(([] : List UInt8)).toArray⟩), (.string ⟨(([] : List UInt8)).toArray⟩)] hs60 (fun b63 w64 (hs65 : HS w0 F0 w64 F4 [(sb b63 #[(.string ⟨(([] : List UInt8)).toArray⟩), (.string ⟨(([] : List UInt8)).toArray⟩), (.string ⟨(([] : List UInt8)).toArray⟩), (.string ⟨(([] : List UInt8)).toArray⟩)] 27), (sb b1 #[(.string ⟨(x0.Area).toArray⟩), (.string ⟨(x0.Prefix).toArray⟩), (.string ⟨(x0.Suffix).toArray⟩), (.string ⟨(x0.Stroke).toArray⟩)] 27)]) => ?_)
     refine RWP.store (ty := 0) (g := none) (by kernel_rfl) rfl (x := (.tmp 5)) (y := (.tmp 53)) (t := 27) (gg := true) (s := 4) (v := (.agg #[(.string ⟨(r55.1.Area).toArray⟩), (.string ⟨(r55.1.Prefix).toArray⟩), (.string ⟨(r55.1.Suffix).toArray⟩), (.string ⟨(r55.1.Stroke).toArray⟩)])) (b := b63) (o := 0) (C := #[(.string ⟨(([] : List UInt8)).toArray⟩), (.string ⟨(([] : List UInt8)).toArray⟩), (.string ⟨(([] : List UInt8)).toArray⟩), (.string ⟨(([] : List UInt8)).toArray⟩)]) rfl rfl (by kernel_rfl) hs65 (k := 0) rfl rfl rfl rfl (C' := #[(.string ⟨(r55.1.Area).toArray⟩), (.string ⟨(r55.1.Prefix).toArray⟩), (.string ⟨(r55.1.Suffix).toArray⟩), (.string ⟨(r55.1.Stroke).toArray⟩)]) rfl (fun w66 (hs67 : HS w0 F0 w66 F4 [(sb b63 #[(.string ⟨(r55.1.Area).toArray⟩), (.string ⟨(r55.1.Prefix).toArray⟩), (.string ⟨(r55.1.Suffix).toArray⟩), (.string ⟨(r55.1.Stroke).toArray⟩)] 27), (sb b1 #[(.string ⟨(x0.Area).toArray⟩), (.string ⟨(x0.Prefix).toArray⟩), (.string ⟨(x0.Suffix).toArray⟩), (.string ⟨(x0.Stroke).toArray⟩)] 27)]) => ?_)
     refine V 6 23 (ma 54 (vi r55.2)) ?_
     refine Nss ?_
     refine Sq (Rg [0, 1, 2, 3, 4, 5, 6] ?_)
     refine RWP.cut (fun f w => ∃ (F5 : Mem), HS w0 F0 w F5 [] ∧ Mem.le F4 F5 ∧ f.d = [] ∧ f 4 = (.string ⟨(j40).toArray⟩) ∧ f 61 = (.bool ((r55.2 != 0) || (!((r55.1.Area == x0.Area) && ((r55.1.Prefix == x0.Prefix) && ((r55.1.Suffix == x0.Suffix) && ((r55.1.Stroke == x0.Stroke) && true)))))))) ?_ ?_
     ·refine V 55 23 (mv 6 (vi r55.2)) ?_
      refine V 56 4 (run_neq (t := 23) (t' := 23) (x := (.tmp 55)) (y := (.const (vi 0))) (k := .i64) (a := r55.2) (b := 0) rfl rfl) ?_
      refine V 57 4 (mv 56 (.bool (r55.2 != 0))) ?_
      refine RWP.split (r55.2 != 0) (fun hb74 => ?_) (fun hb74 => ?_)
      ·refine Sk [58, 59, 60] 2 false 57 hb74 ?_
       refine V 61 4 (p1 57 (.const (.bool true)) (.tmp 60) (.bool true) hb74) ?_
       have hs75 : HS w0 F0 w66 F4 [(sb b1 #[(.string ⟨(x0.Area).toArray⟩), (.string ⟨(x0.Prefix).toArray⟩), (.string ⟨(x0.Suffix).toArray⟩), (.string ⟨(x0.Stroke).toArray⟩)] 27)] := hs67.drop 0
       have hs76 : HS w0 F0 w66 F4 [] := hs75.drop 0
       exact RWP.nil ⟨rfl, F4, hs76, (Mem.le.refl _), e41, e43, (congrArg Value.bool (or_t hb74 (rfl)))⟩
      ·refine Vg 58 27 2 false 57 hb74 (ld 27 5 b63 0 true 4 (.agg #[(.string ⟨(r55.1.Area).toArray⟩), (.string ⟨(r55.1.Prefix).toArray⟩), (.string ⟨(r55.1.Suffix).toArray⟩), (.string ⟨(r55.1.Stroke).toArray⟩)]) (hs67.ownAt (k := 0) rfl)) ?_
       refine Vg 59 27 2 false 57 hb74 (ld 27 1 b1 0 true 4 (.agg #[(.string ⟨(x0.Area).toArray⟩), (.string ⟨(x0.Prefix).toArray⟩), (.string ⟨(x0.Suffix).toArray⟩), (.string ⟨(x0.Stroke).toArray⟩)]) (hs67.ownAt (k := 1) rfl) e42) ?_
       refine Vg 60 4 2 false 57 hb74 (run_nes (t := 27) (t' := 27) (x := (.tmp 58)) (y := (.tmp 59)) (xs := #[(.string ⟨(r55.1.Area).toArray⟩), (.string ⟨(r55.1.Prefix).toArray⟩), (.string ⟨(r55.1.Suffix).toArray⟩), (.string ⟨(r55.1.Stroke).toArray⟩)]) (ys := #[(.string ⟨(x0.Area).toArray⟩), (.string ⟨(x0.Prefix).toArray⟩), (.string ⟨(x0.Suffix).toArray⟩), (.string ⟨(x0.Stroke).toArray⟩)]) (b := ((r55.1.Area == x0.Area) && ((r55.1.Prefix == x0.Prefix) && ((r55.1.Suffix == x0.Suffix) && ((r55.1.Stroke == x0.Stroke) && true))))) rfl rfl (by kernel_rfl) (by kernel_rfl)) ?_
       refine V 61 4 (p0 57 (.const (.bool true)) (.tmp 60) (.bool (!((r55.1.Area == x0.Area) && ((r55.1.Prefix == x0.Prefix) && ((r55.1.Suffix == x0.Suffix) && ((r55.1.Stroke == x0.Stroke) && true)))))) hb74) ?_
       have hs77 : HS w0 F0 w66 F4 [(sb b1 #[(.string ⟨(x0.Area).toArray⟩), (.string ⟨(x0.Prefix).toArray⟩), (.string ⟨(x0.Suffix).toArray⟩), (.string ⟨(x0.Stroke).toArray⟩)] 27)] := hs67.drop 0
       have hs78 : HS w0 F0 w66 F4 [] := hs77.drop 0
       exact RWP.nil ⟨rfl, F4, hs78, (Mem.le.refl _), e41, e43, (congrArg Value.bool (or_f hb74 (rfl)))⟩
     ·rintro f w68 ⟨F5, hs69, le70, e71, e72, e73⟩
      refine thenQ_nrm ?_
      refine CWP.cond (t := ((r55.2 != 0) || (!((r55.1.Area == x0.Area) && ((r55.1.Prefix == x0.Prefix) && ((r55.1.Suffix == x0.Suffix) && ((r55.1.Stroke == x0.Stroke) && true))))))) (by kernel_rfl) e73 (fun hb79 => ?_) (fun hb79 => ?_)
      ·have h80 := cond_t h57 hb79
       refine Sq (Rg [0, 1] ?_)
       refine V 2 9 (mc (.string ⟨([] : List UInt8).toArray⟩) (.string ⟨(([] : List UInt8)).toArray⟩)) ?_
       refine V 3 23 (mc (vi 10) (vi 10)) ?_
       refine Nt ?_
       refine CWP.ret (by kernel_rfl) ?_
       refine thenQ_ret ?_
       have hfin := some_inj h80
       subst hfin
       exact ⟨e71, (.tuple #[(.string ⟨(([] : List UInt8)).toArray⟩), (vi 10)]), res_of (l := [.tmp 2, .tmp 3]) (by kernel_rfl) (vs := [(.string ⟨(([] : List UInt8)).toArray⟩), (vi 10)]) ⟨rfl, ⟨rfl, trivial⟩⟩, (.tuple #[(.string ⟨(([] : List UInt8)).toArray⟩), (vi 10)]), F5, rfl, hs69.clear, rfl⟩
      ·have h81 := cond_f h57 hb79
       refine Sc ?_
       refine thenQ_nrm ?_
       refine Sq (Rg [0, 1, 2] ?_)
       refine V 62 9 (mv 4 (.string ⟨(j40).toArray⟩) e72) ?_
       refine V 2 9 (ma 62 (.string ⟨(j40).toArray⟩)) ?_
       refine V 3 23 (mc (vi 0) (vi 0)) ?_
       refine Nt ?_
       refine CWP.ret (by kernel_rfl) ?_
       have hfin := some_inj h81
       subst hfin
       exact ⟨e71, (.tuple #[(.string ⟨(j40).toArray⟩), (vi 0)]), res_of (l := [.tmp 2, .tmp 3]) (by kernel_rfl) (vs := [(.string ⟨(j40).toArray⟩), (vi 0)]) ⟨rfl, ⟨rfl, trivial⟩⟩, (.tuple #[(.string ⟨(j40).toArray⟩), (vi 0)]), F5, rfl, hs69.clear, rfl⟩
end Go.Proofs.YtlddakefmfcblaaGreatDoor
namespace Go.Proofs.YtlddakefmfcblaaGreatDoor
open Go.Proofs
def air_ValidCall (N : Nat) (x0 : (List UInt8)) : Option Bool :=
 ((air_split N x0).bind fun r1 => some r1.2)
theorem co_air_ValidCall : CallOk Tryz.prog 37 := fun _ _ => by kernel_rfl
set_option maxHeartbeats 4000000 in
set_option maxRecDepth 100000 in
theorem c_air_ValidCall (N : Nat) (w0 : World) (F0 : Mem) (hF : ∀ b o, F0 b = some o → w0.heap[b]? = some o) (hG : Glob F0) (x0 : (List UInt8)) (r : Bool) (h : air_ValidCall N x0 = some r) :
  Calls Tryz.prog 37 ([(.string ⟨(x0).toArray⟩)] : List Value).toArray w0 (FRet w0 F0 fun F' v => v = (.bool r)) := by
 have hs0 := HS.start hF
 refine calls_of (n := 11) (c := bodyOf Tryz.f37) Tryz.func37 (by kernel_rfl) (by kernel_rfl) (by kernel_rfl) ?_
 refine Sq (Rg [0] ?_)
 refine V 2 4 (mc (.bool false) (.bool false)) ?_
 refine Nss (Rg [0, 1, 2, 3, 4, 5, 6, 7] ?_)
 refine V 6 9 (mv 0 (.string ⟨(x0).toArray⟩)) ?_
 obtain ⟨r1, hr2, h3⟩ := bind_some h
 refine Cl 7 86 66 #[(.tmp 6)] #[9] co_air_split hs0 (c_air_split N w0 F0 hs0.pers hG (x0) _ hr2) ?_
 intro v4 F1 w5 hs6 le7 hp8
 obtain rfl := hp8
 refine V 5 86 (mv 7 (.tuple #[(.agg #[(.string ⟨(r1.1.Area).toArray⟩), (.string ⟨(r1.1.Prefix).toArray⟩), (.string ⟨(r1.1.Suffix).toArray⟩), (.string ⟨(r1.1.Stroke).toArray⟩)]), (.bool r1.2)])) ?_
 refine V 8 27 (ex 5 0 (.agg #[(.string ⟨(r1.1.Area).toArray⟩), (.string ⟨(r1.1.Prefix).toArray⟩), (.string ⟨(r1.1.Suffix).toArray⟩), (.string ⟨(r1.1.Stroke).toArray⟩)]) (vs := #[(.agg #[(.string ⟨(r1.1.Area).toArray⟩), (.string ⟨(r1.1.Prefix).toArray⟩), (.string ⟨(r1.1.Suffix).toArray⟩), (.string ⟨(r1.1.Stroke).toArray⟩)]), (.bool r1.2)])) ?_
 refine V 9 4 (ex 5 1 (.bool r1.2) (vs := #[(.agg #[(.string ⟨(r1.1.Area).toArray⟩), (.string ⟨(r1.1.Prefix).toArray⟩), (.string ⟨(r1.1.Suffix).toArray⟩), (.string ⟨(r1.1.Stroke).toArray⟩)]), (.bool r1.2)])) ?_
 refine Al 3 0 27 #[(.string ⟨(([] : List UInt8)).toArray⟩), (.string ⟨(([] : List UInt8)).toArray⟩), (.string ⟨(([] : List UInt8)).toArray⟩), (.string ⟨(([] : List UInt8)).toArray⟩)] hs6 (fun b9 w10 (hs11 : HS w0 F0 w10 F1 [(sb b9 #[(.string ⟨(([] : List UInt8)).toArray⟩), (.string ⟨(([] : List UInt8)).toArray⟩), (.string ⟨(([] : List UInt8)).toArray⟩), (.string ⟨(([] : List UInt8)).toArray⟩)] 27)]) => ?_)
 refine RWP.store (ty := 0) (g := none) (by kernel_rfl) rfl (x := (.tmp 3)) (y := (.tmp 8)) (t := 27) (gg := true) (s := 4) (v := (.agg #[(.string ⟨(r1.1.Area).toArray⟩), (.string ⟨(r1.1.Prefix).toArray⟩), (.string ⟨(r1.1.Suffix).toArray⟩), (.string ⟨(r1.1.Stroke).toArray⟩)])) (b := b9) (o := 0) (C := #[(.string ⟨(([] : List UInt8)).toArray⟩), (.string ⟨(([] : List UInt8)).toArray⟩), (.string ⟨(([] : List UInt8)).toArray⟩), (.string ⟨(([] : List UInt8)).toArray⟩)]) rfl rfl (by kernel_rfl) hs11 (k := 0) rfl rfl rfl rfl (C' := #[(.string ⟨(r1.1.Area).toArray⟩), (.string ⟨(r1.1.Prefix).toArray⟩), (.string ⟨(r1.1.Suffix).toArray⟩), (.string ⟨(r1.1.Stroke).toArray⟩)]) rfl (fun w12 (hs13 : HS w0 F0 w12 F1 [(sb b9 #[(.string ⟨(r1.1.Area).toArray⟩), (.string ⟨(r1.1.Prefix).toArray⟩), (.string ⟨(r1.1.Suffix).toArray⟩), (.string ⟨(r1.1.Stroke).toArray⟩)] 27)]) => ?_)
 refine V 4 4 (ma 9 (.bool r1.2)) ?_
 refine Nss (Rg [0, 1] ?_)
 refine V 10 4 (mv 4 (.bool r1.2)) ?_
 refine V 2 4 (ma 10 (.bool r1.2)) ?_
 refine Nt ?_
 refine CWP.ret (by kernel_rfl) ?_
 have hfin := some_inj h3
 subst hfin
 exact ⟨rfl, (.bool r1.2), res_of (l := [.tmp 2]) (by kernel_rfl) (vs := [(.bool r1.2)]) ⟨rfl, trivial⟩, (.bool r1.2), F1, rfl, hs13.clear, rfl⟩
end Go.Proofs.YtlddakefmfcblaaGreatDoor
namespace Go.Proofs.YtlddakefmfcblaaGreatDoor
open Go.Proofs
def ref01_ValidCall (N : Nat) (x0 : (List UInt8)) : Option Bool :=
 ((ref01_parts N x0).bind fun r1 => some r1.2.2.2)
theorem co_ref01_ValidCall : CallOk Tryz.prog 38 := fun _ _ => by kernel_rfl
set_option maxHeartbeats 4000000 in
set_option maxRecDepth 100000 in
theorem c_ref01_ValidCall (N : Nat) (w0 : World) (F0 : Mem) (hF : ∀ b o, F0 b = some o → w0.heap[b]? = some o) (x0 : (List UInt8)) (r : Bool) (h : ref01_ValidCall N x0 = some r) :
  Calls Tryz.prog 38 ([(.string ⟨(x0).toArray⟩)] : List Value).toArray w0 (FRet w0 F0 fun F' v => v = (.bool r)) := by
 have hs0 := HS.start hF
 refine calls_of (n := 15) (c := bodyOf Tryz.f38) Tryz.func38 (by kernel_rfl) (by kernel_rfl) (by kernel_rfl) ?_
 refine Sq (Rg [0] ?_)
 refine V 2 4 (mc (.bool false) (.bool false)) ?_
 refine Nss (Rg [0, 1, 2, 3, 4, 5, 6, 7, 8, 9, 10] ?_)
 refine V 8 9 (mv 0 (.string ⟨(x0).toArray⟩)) ?_
 obtain ⟨r1, hr2, h3⟩ := bind_some h
 refine Cl 9 100 81 #[(.tmp 8)] #[9] co_ref01_parts hs0 (c_ref01_parts N w0 F0 hs0.pers (x0) _ hr2) ?_
 intro v4 F1 w5 hs6 le7 hp8
 obtain rfl := hp8
 refine V 7 100 (mv 9 (.tuple #[(.string ⟨(r1.1).toArray⟩), (.string ⟨(r1.2.1).toArray⟩), (.string ⟨(r1.2.2.1).toArray⟩), (.bool r1.2.2.2)])) ?_
 refine V 10 9 (ex 7 0 (.string ⟨(r1.1).toArray⟩) (vs := #[(.string ⟨(r1.1).toArray⟩), (.string ⟨(r1.2.1).toArray⟩), (.string ⟨(r1.2.2.1).toArray⟩), (.bool r1.2.2.2)])) ?_
 refine V 11 9 (ex 7 1 (.string ⟨(r1.2.1).toArray⟩) (vs := #[(.string ⟨(r1.1).toArray⟩), (.string ⟨(r1.2.1).toArray⟩), (.string ⟨(r1.2.2.1).toArray⟩), (.bool r1.2.2.2)])) ?_
 refine V 12 9 (ex 7 2 (.string ⟨(r1.2.2.1).toArray⟩) (vs := #[(.string ⟨(r1.1).toArray⟩), (.string ⟨(r1.2.1).toArray⟩), (.string ⟨(r1.2.2.1).toArray⟩), (.bool r1.2.2.2)])) ?_
 refine V 13 4 (ex 7 3 (.bool r1.2.2.2) (vs := #[(.string ⟨(r1.1).toArray⟩), (.string ⟨(r1.2.1).toArray⟩), (.string ⟨(r1.2.2.1).toArray⟩), (.bool r1.2.2.2)])) ?_
 refine V 3 9 (ma 10 (.string ⟨(r1.1).toArray⟩)) ?_
 refine V 4 9 (ma 11 (.string ⟨(r1.2.1).toArray⟩)) ?_
 refine V 5 9 (ma 12 (.string ⟨(r1.2.2.1).toArray⟩)) ?_
 refine V 6 4 (ma 13 (.bool r1.2.2.2)) ?_
 refine Nss (Rg [0, 1] ?_)
 refine V 14 4 (mv 6 (.bool r1.2.2.2)) ?_
 refine V 2 4 (ma 14 (.bool r1.2.2.2)) ?_
 refine Nt ?_
 refine CWP.ret (by kernel_rfl) ?_
 have hfin := some_inj h3
 subst hfin
 exact ⟨rfl, (.bool r1.2.2.2), res_of (l := [.tmp 2]) (by kernel_rfl) (vs := [(.bool r1.2.2.2)]) ⟨rfl, trivial⟩, (.bool r1.2.2.2), F1, rfl, hs6.clear, rfl⟩
end Go.Proofs.YtlddakefmfcblaaGreatDoor
namespace Go.Proofs.YtlddakefmfcblaaGreatDoor
open Go.Proofs
def air_Base (N : Nat) (x0 : (List UInt8)) : Option ((List UInt8) × Int) :=
 ((air_Split N x0).bind fun r1 => ((sadd r1.1.Prefix r1.1.Suffix).bind fun r14 => some (r14, r1.2)))
theorem co_air_Base : CallOk Tryz.prog 39 := fun _ _ => by kernel_rfl
set_option maxHeartbeats 4000000 in
set_option maxRecDepth 100000 in
theorem c_air_Base (N : Nat) (w0 : World) (F0 : Mem) (hF : ∀ b o, F0 b = some o → w0.heap[b]? = some o) (hG : Glob F0) (x0 : (List UInt8)) (r : ((List UInt8) × Int)) (h : air_Base N x0 = some r) :
  Calls Tryz.prog 39 ([(.string ⟨(x0).toArray⟩)] : List Value).toArray w0 (FRet w0 F0 fun F' v => v = (.tuple #[(.string ⟨(r.1).toArray⟩), (vi r.2)])) := by
 have hs0 := HS.start hF
 refine calls_of (n := 17) (c := bodyOf Tryz.f39) Tryz.func39 (by kernel_rfl) (by kernel_rfl) (by kernel_rfl) ?_
 refine Sq (Rg [0, 1] ?_)
 refine V 2 9 (mc (.string ⟨([] : List UInt8).toArray⟩) (.string ⟨(([] : List UInt8)).toArray⟩)) ?_
 refine V 3 23 (mc (vi 0) (vi 0)) ?_
 refine Nss (Rg [0, 1, 2, 3, 4, 5, 6, 7] ?_)
 refine V 7 9 (mv 0 (.string ⟨(x0).toArray⟩)) ?_
 obtain ⟨r1, hr2, h3⟩ := bind_some h
 refine Cl 8 28 19 #[(.tmp 7)] #[9] co_air_Split hs0 (c_air_Split N w0 F0 hs0.pers hG (x0) _ hr2) ?_
 intro v4 F1 w5 hs6 le7 hp8
 obtain rfl := hp8
 refine V 6 28 (mv 8 (.tuple #[(.agg #[(.string ⟨(r1.1.Area).toArray⟩), (.string ⟨(r1.1.Prefix).toArray⟩), (.string ⟨(r1.1.Suffix).toArray⟩), (.string ⟨(r1.1.Stroke).toArray⟩)]), (vi r1.2)])) ?_
 refine V 9 27 (ex 6 0 (.agg #[(.string ⟨(r1.1.Area).toArray⟩), (.string ⟨(r1.1.Prefix).toArray⟩), (.string ⟨(r1.1.Suffix).toArray⟩), (.string ⟨(r1.1.Stroke).toArray⟩)]) (vs := #[(.agg #[(.string ⟨(r1.1.Area).toArray⟩), (.string ⟨(r1.1.Prefix).toArray⟩), (.string ⟨(r1.1.Suffix).toArray⟩), (.string ⟨(r1.1.Stroke).toArray⟩)]), (vi r1.2)])) ?_
 refine V 10 23 (ex 6 1 (vi r1.2) (vs := #[(.agg #[(.string ⟨(r1.1.Area).toArray⟩), (.string ⟨(r1.1.Prefix).toArray⟩), (.string ⟨(r1.1.Suffix).toArray⟩), (.string ⟨(r1.1.Stroke).toArray⟩)]), (vi r1.2)])) ?_
 refine Al 4 0 27 #[(.string ⟨(([] : List UInt8)).toArray⟩), (.string ⟨(([] : List UInt8)).toArray⟩), (.string ⟨(([] : List UInt8)).toArray⟩), (.string ⟨(([] : List UInt8)).toArray⟩)] hs6 (fun b9 w10 (hs11 : HS w0 F0 w10 F1 [(sb b9 #[(.string ⟨(([] : List UInt8)).toArray⟩), (.string ⟨(([] : List UInt8)).toArray⟩), (.string ⟨(([] : List UInt8)).toArray⟩), (.string ⟨(([] : List UInt8)).toArray⟩)] 27)]) => ?_)
 refine RWP.store (ty := 0) (g := none) (by kernel_rfl) rfl (x := (.tmp 4)) (y := (.tmp 9)) (t := 27) (gg := true) (s := 4) (v := (.agg #[(.string ⟨(r1.1.Area).toArray⟩), (.string ⟨(r1.1.Prefix).toArray⟩), (.string ⟨(r1.1.Suffix).toArray⟩), (.string ⟨(r1.1.Stroke).toArray⟩)])) (b := b9) (o := 0) (C := #[(.string ⟨(([] : List UInt8)).toArray⟩), (.string ⟨(([] : List UInt8)).toArray⟩), (.string ⟨(([] : List UInt8)).toArray⟩), (.string ⟨(([] : List UInt8)).toArray⟩)]) rfl rfl (by kernel_rfl) hs11 (k := 0) rfl rfl rfl rfl (C' := #[(.string ⟨(r1.1.Area).toArray⟩), (.string ⟨(r1.1.Prefix).toArray⟩), (.string ⟨(r1.1.Suffix).toArray⟩), (.string ⟨(r1.1.Stroke).toArray⟩)]) rfl (fun w12 (hs13 : HS w0 F0 w12 F1 [(sb b9 #[(.string ⟨(r1.1.Area).toArray⟩), (.string ⟨(r1.1.Prefix).toArray⟩), (.string ⟨(r1.1.Suffix).toArray⟩), (.string ⟨(r1.1.Stroke).toArray⟩)] 27)]) => ?_)
 refine V 5 23 (ma 10 (vi r1.2)) ?_
 refine Nss (Rg [0, 1, 2, 3, 4, 5, 6, 7] ?_)
 refine V 11 0 (fa 27 4 1 1 1 b9 0 1) ?_
 refine V 12 9 (ld 9 11 b9 1 false 1 (.string ⟨(r1.1.Prefix).toArray⟩) (hs13.ownAt (k := 0) rfl)) ?_
 refine V 13 0 (fa 27 4 2 2 1 b9 0 2) ?_
 refine V 14 9 (ld 9 13 b9 2 false 1 (.string ⟨(r1.1.Suffix).toArray⟩) (hs13.ownAt (k := 0) rfl)) ?_
 obtain ⟨r14, hr15, h16⟩ := bind_some h3
 refine V 15 9 (run_sadd (t := 9) (t' := 9) (x := (.tmp 12)) (y := (.tmp 14)) (a := r1.1.Prefix) (b := r1.1.Suffix) (v := r14) rfl rfl hr15) ?_
 refine V 16 23 (mv 5 (vi r1.2)) ?_
 refine V 2 9 (ma 15 (.string ⟨(r14).toArray⟩)) ?_
 refine V 3 23 (ma 16 (vi r1.2)) ?_
 refine Nt ?_
 refine CWP.ret (by kernel_rfl) ?_
 have hfin := some_inj h16
 subst hfin
 exact ⟨rfl, (.tuple #[(.string ⟨(r14).toArray⟩), (vi r1.2)]), res_of (l := [.tmp 2, .tmp 3]) (by kernel_rfl) (vs := [(.string ⟨(r14).toArray⟩), (vi r1.2)]) ⟨rfl, ⟨rfl, trivial⟩⟩, (.tuple #[(.string ⟨(r14).toArray⟩), (vi r1.2)]), F1, rfl, hs13.clear, rfl⟩
end Go.Proofs.YtlddakefmfcblaaGreatDoor
namespace Go.Proofs.YtlddakefmfcblaaGreatDoor
open Go.Proofs
def ref01_Base (N : Nat) (x0 : (List UInt8)) : Option ((List UInt8) × Int) :=
 ((ref01_Split N x0).bind fun r1 => ((sadd r1.1.Prefix r1.1.Suffix).bind fun r14 => some (r14, r1.2)))
theorem co_ref01_Base : CallOk Tryz.prog 40 := fun _ _ => by kernel_rfl
set_option maxHeartbeats 4000000 in
set_option maxRecDepth 100000 in
theorem c_ref01_Base (N : Nat) (w0 : World) (F0 : Mem) (hF : ∀ b o, F0 b = some o → w0.heap[b]? = some o) (x0 : (List UInt8)) (r : ((List UInt8) × Int)) (h : ref01_Base N x0 = some r) :
  Calls Tryz.prog 40 ([(.string ⟨(x0).toArray⟩)] : List Value).toArray w0 (FRet w0 F0 fun F' v => v = (.tuple #[(.string ⟨(r.1).toArray⟩), (vi r.2)])) := by
 have hs0 := HS.start hF
 refine calls_of (n := 17) (c := bodyOf Tryz.f40) Tryz.func40 (by kernel_rfl) (by kernel_rfl) (by kernel_rfl) ?_
 refine Sq (Rg [0, 1] ?_)
 refine V 2 9 (mc (.string ⟨([] : List UInt8).toArray⟩) (.string ⟨(([] : List UInt8)).toArray⟩)) ?_
 refine V 3 23 (mc (vi 0) (vi 0)) ?_
 refine Nss (Rg [0, 1, 2, 3, 4, 5, 6, 7] ?_)
 refine V 7 9 (mv 0 (.string ⟨(x0).toArray⟩)) ?_
 obtain ⟨r1, hr2, h3⟩ := bind_some h
 refine Cl 8 28 34 #[(.tmp 7)] #[9] co_ref01_Split hs0 (c_ref01_Split N w0 F0 hs0.pers (x0) _ hr2) ?_
 intro v4 F1 w5 hs6 le7 hp8
 obtain rfl := hp8
 refine V 6 28 (mv 8 (.tuple #[(.agg #[(.string ⟨(r1.1.Area).toArray⟩), (.string ⟨(r1.1.Prefix).toArray⟩), (.string ⟨(r1.1.Suffix).toArray⟩), (.string ⟨(r1.1.Stroke).toArray⟩)]), (vi r1.2)])) ?_
 refine V 9 27 (ex 6 0 (.agg #[(.string ⟨(r1.1.Area).toArray⟩), (.string ⟨(r1.1.Prefix).toArray⟩), (.string ⟨(r1.1.Suffix).toArray⟩), (.string ⟨(r1.1.Stroke).toArray⟩)]) (vs := #[(.agg #[(.string ⟨(r1.1.Area).toArray⟩), (.string ⟨(r1.1.Prefix).toArray⟩), (.string ⟨(r1.1.Suffix).toArray⟩), (.string ⟨(r1.1.Stroke).toArray⟩)]), (vi r1.2)])) ?_
 refine V 10 23 (ex 6 1 (vi r1.2) (vs := #[(.agg #[(.string ⟨(r1.1.Area).toArray⟩), (.string ⟨(r1.1.Prefix).toArray⟩), (.string ⟨(r1.1.Suffix).toArray⟩), (.string ⟨(r1.1.Stroke).toArray⟩)]), (vi r1.2)])) ?_
 refine Al 4 0 27 #[(.string ⟨(([] : List UInt8)).toArray⟩), (.string ⟨(([] : List UInt8)).toArray⟩), (.string ⟨(([] : List UInt8)).toArray⟩), (.string ⟨(([] : List UInt8)).toArray⟩)] hs6 (fun b9 w10 (hs11 : HS w0 F0 w10 F1 [(sb b9 #[(.string ⟨(([] : List UInt8)).toArray⟩), (.string ⟨(([] : List UInt8)).toArray⟩), (.string ⟨(([] : List UInt8)).toArray⟩), (.string ⟨(([] : List UInt8)).toArray⟩)] 27)]) => ?_)
 refine RWP.store (ty := 0) (g := none) (by kernel_rfl) rfl (x := (.tmp 4)) (y := (.tmp 9)) (t := 27) (gg := true) (s := 4) (v := (.agg #[(.string ⟨(r1.1.Area).toArray⟩), (.string ⟨(r1.1.Prefix).toArray⟩), (.string ⟨(r1.1.Suffix).toArray⟩), (.string ⟨(r1.1.Stroke).toArray⟩)])) (b := b9) (o := 0) (C := #[(.string ⟨(([] : List UInt8)).toArray⟩), (.string ⟨(([] : List UInt8)).toArray⟩), (.string ⟨(([] : List UInt8)).toArray⟩), (.string ⟨(([] : List UInt8)).toArray⟩)]) rfl rfl (by kernel_rfl) hs11 (k := 0) rfl rfl rfl rfl (C' := #[(.string ⟨(r1.1.Area).toArray⟩), (.string ⟨(r1.1.Prefix).toArray⟩), (.string ⟨(r1.1.Suffix).toArray⟩), (.string ⟨(r1.1.Stroke).toArray⟩)]) rfl (fun w12 (hs13 : HS w0 F0 w12 F1 [(sb b9 #[(.string ⟨(r1.1.Area).toArray⟩), (.string ⟨(r1.1.Prefix).toArray⟩), (.string ⟨(r1.1.Suffix).toArray⟩), (.string ⟨(r1.1.Stroke).toArray⟩)] 27)]) => ?_)
 refine V 5 23 (ma 10 (vi r1.2)) ?_
 refine Nss (Rg [0, 1, 2, 3, 4, 5, 6, 7] ?_)
 refine V 11 0 (fa 27 4 1 1 1 b9 0 1) ?_
 refine V 12 9 (ld 9 11 b9 1 false 1 (.string ⟨(r1.1.Prefix).toArray⟩) (hs13.ownAt (k := 0) rfl)) ?_
 refine V 13 0 (fa 27 4 2 2 1 b9 0 2) ?_
 refine V 14 9 (ld 9 13 b9 2 false 1 (.string ⟨(r1.1.Suffix).toArray⟩) (hs13.ownAt (k := 0) rfl)) ?_
 obtain ⟨r14, hr15, h16⟩ := bind_some h3
 refine V 15 9 (run_sadd (t := 9) (t' := 9) (x := (.tmp 12)) (y := (.tmp 14)) (a := r1.1.Prefix) (b := r1.1.Suffix) (v := r14) rfl rfl hr15) ?_
 refine V 16 23 (mv 5 (vi r1.2)) ?_
 refine V 2 9 (ma 15 (.string ⟨(r14).toArray⟩)) ?_
 refine V 3 23 (ma 16 (vi r1.2)) ?_
 refine Nt ?_
 refine CWP.ret (by kernel_rfl) ?_
 have hfin := some_inj h16
 subst hfin
 exact ⟨rfl, (.tuple #[(.string ⟨(r14).toArray⟩), (vi r1.2)]), res_of (l := [.tmp 2, .tmp 3]) (by kernel_rfl) (vs := [(.string ⟨(r14).toArray⟩), (vi r1.2)]) ⟨rfl, ⟨rfl, trivial⟩⟩, (.tuple #[(.string ⟨(r14).toArray⟩), (vi r1.2)]), F1, rfl, hs13.clear, rfl⟩
end Go.Proofs.YtlddakefmfcblaaGreatDoor
namespace Go.Proofs.YtlddakefmfcblaaGreatDoor
open Go.Proofs
def air_Same (N : Nat) (x0 : (List UInt8)) (x1 : (List UInt8)) : Option (Bool × Int) :=
 ((air_Base N x0).bind fun r1 => ((air_Base N x1).bind fun r9 => (bif ((r1.2 != 0) || (r9.2 != 0)) then some (false, 10) else some ((r1.1 == r9.1), 0))))
theorem co_air_Same : CallOk Tryz.prog 41 := fun _ _ => by kernel_rfl
set_option maxHeartbeats 4000000 in
set_option maxRecDepth 100000 in
theorem c_air_Same (N : Nat) (w0 : World) (F0 : Mem) (hF : ∀ b o, F0 b = some o → w0.heap[b]? = some o) (hG : Glob F0) (x0 : (List UInt8)) (x1 : (List UInt8)) (r : (Bool × Int)) (h : air_Same N x0 x1 = some r) :
  Calls Tryz.prog 41 ([(.string ⟨(x0).toArray⟩), (.string ⟨(x1).toArray⟩)] : List Value).toArray w0 (FRet w0 F0 fun F' v => v = (.tuple #[(.bool r.1), (vi r.2)])) := by
 have hs0 := HS.start hF
 refine calls_of (n := 29) (c := bodyOf Tryz.f41) Tryz.func41 (by kernel_rfl) (by kernel_rfl) (by kernel_rfl) ?_
 refine Sq (Rg [0, 1] ?_)
 refine V 4 4 (mc (.bool false) (.bool false)) ?_
 refine V 5 23 (mc (vi 0) (vi 0)) ?_
 refine Nss (Rg [0, 1, 2, 3, 4, 5, 6] ?_)
 refine V 11 9 (mv 0 (.string ⟨(x0).toArray⟩)) ?_
 obtain ⟨r1, hr2, h3⟩ := bind_some h
 refine Cl 12 24 39 #[(.tmp 11)] #[9] co_air_Base hs0 (c_air_Base N w0 F0 hs0.pers hG (x0) _ hr2) ?_
 intro v4 F1 w5 hs6 le7 hp8
 obtain rfl := hp8
 refine V 10 24 (mv 12 (.tuple #[(.string ⟨(r1.1).toArray⟩), (vi r1.2)])) ?_
 refine V 13 9 (ex 10 0 (.string ⟨(r1.1).toArray⟩) (vs := #[(.string ⟨(r1.1).toArray⟩), (vi r1.2)])) ?_
 refine V 14 23 (ex 10 1 (vi r1.2) (vs := #[(.string ⟨(r1.1).toArray⟩), (vi r1.2)])) ?_
 refine V 6 9 (ma 13 (.string ⟨(r1.1).toArray⟩)) ?_
 refine V 7 23 (ma 14 (vi r1.2)) ?_
 refine Nss (Rg [0, 1, 2, 3, 4, 5, 6] ?_)
 refine V 16 9 (mv 1 (.string ⟨(x1).toArray⟩)) ?_
 obtain ⟨r9, hr10, h11⟩ := bind_some h3
 refine Cl 17 24 39 #[(.tmp 16)] #[9] co_air_Base hs6 (c_air_Base N w5 F1 hs6.pers (hG.mono le7) (x1) _ hr10) ?_
 intro v12 F2 w13 hs14 le15 hp16
 obtain rfl := hp16
 refine V 15 24 (mv 17 (.tuple #[(.string ⟨(r9.1).toArray⟩), (vi r9.2)])) ?_
 refine V 18 9 (ex 15 0 (.string ⟨(r9.1).toArray⟩) (vs := #[(.string ⟨(r9.1).toArray⟩), (vi r9.2)])) ?_
 refine V 19 23 (ex 15 1 (vi r9.2) (vs := #[(.string ⟨(r9.1).toArray⟩), (vi r9.2)])) ?_
 refine V 8 9 (ma 18 (.string ⟨(r9.1).toArray⟩)) ?_
 refine V 9 23 (ma 19 (vi r9.2)) ?_
 refine Nss ?_
 refine Sq (Rg [0, 1, 2, 3, 4, 5] ?_)
 refine RWP.cut (fun f w => ∃ (F3 : Mem), HS w0 F0 w F3 [] ∧ Mem.le F2 F3 ∧ f.d = [] ∧ f 6 = (.string ⟨(r1.1).toArray⟩) ∧ f 8 = (.string ⟨(r9.1).toArray⟩) ∧ f 25 = (.bool ((r1.2 != 0) || (r9.2 != 0)))) ?_ ?_
 ·refine V 20 23 (mv 7 (vi r1.2)) ?_
  refine V 21 4 (run_neq (t := 23) (t' := 23) (x := (.tmp 20)) (y := (.const (vi 0))) (k := .i64) (a := r1.2) (b := 0) rfl rfl) ?_
  refine V 22 4 (mv 21 (.bool (r1.2 != 0))) ?_
  refine RWP.split (r1.2 != 0) (fun hb24 => ?_) (fun hb24 => ?_)
  ·refine Sk [23, 24] 2 false 22 hb24 ?_
   refine V 25 4 (p1 22 (.const (.bool true)) (.tmp 24) (.bool true) hb24) ?_
   exact RWP.nil ⟨rfl, F2, hs14, (Mem.le.refl _), rfl, rfl, rfl, (congrArg Value.bool (or_t hb24 (rfl)))⟩
  ·refine Vg 23 23 2 false 22 hb24 (mv 9 (vi r9.2)) ?_
   refine Vg 24 4 2 false 22 hb24 (run_neq (t := 23) (t' := 23) (x := (.tmp 23)) (y := (.const (vi 0))) (k := .i64) (a := r9.2) (b := 0) rfl rfl) ?_
   refine V 25 4 (p0 22 (.const (.bool true)) (.tmp 24) (.bool (r9.2 != 0)) hb24) ?_
   exact RWP.nil ⟨rfl, F2, hs14, (Mem.le.refl _), rfl, rfl, rfl, (congrArg Value.bool (or_f hb24 (rfl)))⟩
 ·rintro f w17 ⟨F3, hs18, le19, e20, e21, e22, e23⟩
  refine thenQ_nrm ?_
  refine CWP.cond (t := ((r1.2 != 0) || (r9.2 != 0))) (by kernel_rfl) e23 (fun hb25 => ?_) (fun hb25 => ?_)
  ·have h26 := cond_t h11 hb25
   refine Sq (Rg [0, 1] ?_)
   refine V 4 4 (mc (.bool false) (.bool false)) ?_
   refine V 5 23 (mc (vi 10) (vi 10)) ?_
   refine Nt ?_
   refine CWP.ret (by kernel_rfl) ?_
   refine thenQ_ret ?_
   have hfin := some_inj h26
   subst hfin
   exact ⟨e20, (.tuple #[(.bool false), (vi 10)]), res_of (l := [.tmp 4, .tmp 5]) (by kernel_rfl) (vs := [(.bool false), (vi 10)]) ⟨rfl, ⟨rfl, trivial⟩⟩, (.tuple #[(.bool false), (vi 10)]), F3, rfl, hs18.clear, rfl⟩
  ·have h27 := cond_f h11 hb25
   refine Sc ?_
   refine thenQ_nrm ?_
   refine Sq (Rg [0, 1, 2, 3, 4] ?_)
   refine V 26 9 (mv 6 (.string ⟨(r1.1).toArray⟩) e21) ?_
   refine V 27 9 (mv 8 (.string ⟨(r9.1).toArray⟩) e22) ?_
   refine V 28 4 (run_scmp (t := 9) (t' := 9) (x := (.tmp 26)) (y := (.tmp 27)) (op := .eql) (a := r1.1) (b := r9.1) (v := (r1.1 == r9.1)) rfl rfl rfl) ?_
   refine V 4 4 (ma 28 (.bool (r1.1 == r9.1))) ?_
   refine V 5 23 (mc (vi 0) (vi 0)) ?_
   refine Nt ?_
   refine CWP.ret (by kernel_rfl) ?_
   have hfin := some_inj h27
   subst hfin
   exact ⟨e20, (.tuple #[(.bool (r1.1 == r9.1)), (vi 0)]), res_of (l := [.tmp 4, .tmp 5]) (by kernel_rfl) (vs := [(.bool (r1.1 == r9.1)), (vi 0)]) ⟨rfl, ⟨rfl, trivial⟩⟩, (.tuple #[(.bool (r1.1 == r9.1)), (vi 0)]), F3, rfl, hs18.clear, rfl⟩
end Go.Proofs.YtlddakefmfcblaaGreatDoor
namespace Go.Proofs.YtlddakefmfcblaaGreatDoor
open Go.Proofs
def ref01_Same (N : Nat) (x0 : (List UInt8)) (x1 : (List UInt8)) : Option (Bool × Int) :=
 ((ref01_Base N x0).bind fun r1 => ((ref01_Base N x1).bind fun r9 => (bif ((r1.2 != 0) || (r9.2 != 0)) then some (false, 10) else some ((r1.1 == r9.1), 0))))
theorem co_ref01_Same : CallOk Tryz.prog 42 := fun _ _ => by kernel_rfl
set_option maxHeartbeats 4000000 in
set_option maxRecDepth 100000 in
theorem c_ref01_Same (N : Nat) (w0 : World) (F0 : Mem) (hF : ∀ b o, F0 b = some o → w0.heap[b]? = some o) (x0 : (List UInt8)) (x1 : (List UInt8)) (r : (Bool × Int)) (h : ref01_Same N x0 x1 = some r) :
  Calls Tryz.prog 42 ([(.string ⟨(x0).toArray⟩), (.string ⟨(x1).toArray⟩)] : List Value).toArray w0 (FRet w0 F0 fun F' v => v = (.tuple #[(.bool r.1), (vi r.2)])) := by
 have hs0 := HS.start hF
 refine calls_of (n := 29) (c := bodyOf Tryz.f42) Tryz.func42 (by kernel_rfl) (by kernel_rfl) (by kernel_rfl) ?_
 refine Sq (Rg [0, 1] ?_)
 refine V 4 4 (mc (.bool false) (.bool false)) ?_
 refine V 5 23 (mc (vi 0) (vi 0)) ?_
 refine Nss (Rg [0, 1, 2, 3, 4, 5, 6] ?_)
 refine V 11 9 (mv 0 (.string ⟨(x0).toArray⟩)) ?_
 obtain ⟨r1, hr2, h3⟩ := bind_some h
 refine Cl 12 24 40 #[(.tmp 11)] #[9] co_ref01_Base hs0 (c_ref01_Base N w0 F0 hs0.pers (x0) _ hr2) ?_
 intro v4 F1 w5 hs6 le7 hp8
 obtain rfl := hp8
 refine V 10 24 (mv 12 (.tuple #[(.string ⟨(r1.1).toArray⟩), (vi r1.2)])) ?_
 refine V 13 9 (ex 10 0 (.string ⟨(r1.1).toArray⟩) (vs := #[(.string ⟨(r1.1).toArray⟩), (vi r1.2)])) ?_
 refine V 14 23 (ex 10 1 (vi r1.2) (vs := #[(.string ⟨(r1.1).toArray⟩), (vi r1.2)])) ?_
 refine V 6 9 (ma 13 (.string ⟨(r1.1).toArray⟩)) ?_
 refine V 7 23 (ma 14 (vi r1.2)) ?_
 refine Nss (Rg [0, 1, 2, 3, 4, 5, 6] ?_)
 refine V 16 9 (mv 1 (.string ⟨(x1).toArray⟩)) ?_
 obtain ⟨r9, hr10, h11⟩ := bind_some h3
 refine Cl 17 24 40 #[(.tmp 16)] #[9] co_ref01_Base hs6 (c_ref01_Base N w5 F1 hs6.pers (x1) _ hr10) ?_
 intro v12 F2 w13 hs14 le15 hp16
 obtain rfl := hp16
 refine V 15 24 (mv 17 (.tuple #[(.string ⟨(r9.1).toArray⟩), (vi r9.2)])) ?_
 refine V 18 9 (ex 15 0 (.string ⟨(r9.1).toArray⟩) (vs := #[(.string ⟨(r9.1).toArray⟩), (vi r9.2)])) ?_
 refine V 19 23 (ex 15 1 (vi r9.2) (vs := #[(.string ⟨(r9.1).toArray⟩), (vi r9.2)])) ?_
 refine V 8 9 (ma 18 (.string ⟨(r9.1).toArray⟩)) ?_
 refine V 9 23 (ma 19 (vi r9.2)) ?_
 refine Nss ?_
 refine Sq (Rg [0, 1, 2, 3, 4, 5] ?_)
 refine RWP.cut (fun f w => ∃ (F3 : Mem), HS w0 F0 w F3 [] ∧ Mem.le F2 F3 ∧ f.d = [] ∧ f 6 = (.string ⟨(r1.1).toArray⟩) ∧ f 8 = (.string ⟨(r9.1).toArray⟩) ∧ f 25 = (.bool ((r1.2 != 0) || (r9.2 != 0)))) ?_ ?_
 ·refine V 20 23 (mv 7 (vi r1.2)) ?_
  refine V 21 4 (run_neq (t := 23) (t' := 23) (x := (.tmp 20)) (y := (.const (vi 0))) (k := .i64) (a := r1.2) (b := 0) rfl rfl) ?_
  refine V 22 4 (mv 21 (.bool (r1.2 != 0))) ?_
  refine RWP.split (r1.2 != 0) (fun hb24 => ?_) (fun hb24 => ?_)
  ·refine Sk [23, 24] 2 false 22 hb24 ?_
   refine V 25 4 (p1 22 (.const (.bool true)) (.tmp 24) (.bool true) hb24) ?_
   exact RWP.nil ⟨rfl, F2, hs14, (Mem.le.refl _), rfl, rfl, rfl, (congrArg Value.bool (or_t hb24 (rfl)))⟩
  ·refine Vg 23 23 2 false 22 hb24 (mv 9 (vi r9.2)) ?_
   refine Vg 24 4 2 false 22 hb24 (run_neq (t := 23) (t' := 23) (x := (.tmp 23)) (y := (.const (vi 0))) (k := .i64) (a := r9.2) (b := 0) rfl rfl) ?_
   refine V 25 4 (p0 22 (.const (.bool true)) (.tmp 24) (.bool (r9.2 != 0)) hb24) ?_
   exact RWP.nil ⟨rfl, F2, hs14, (Mem.le.refl _), rfl, rfl, rfl, (congrArg Value.bool (or_f hb24 (rfl)))⟩
 ·rintro f w17 ⟨F3, hs18, le19, e20, e21, e22, e23⟩
  refine thenQ_nrm ?_
  refine CWP.cond (t := ((r1.2 != 0) || (r9.2 != 0))) (by kernel_rfl) e23 (fun hb25 => ?_) (fun hb25 => ?_)
  ·have h26 := cond_t h11 hb25
   refine Sq (Rg [0, 1] ?_)
   refine V 4 4 (mc (.bool false) (.bool false)) ?_
   refine V 5 23 (mc (vi 10) (vi 10)) ?_
   refine Nt ?_
   refine CWP.ret (by kernel_rfl) ?_
   refine thenQ_ret ?_
   have hfin := some_inj h26
   subst hfin
   exact ⟨e20, (.tuple #[(.bool false), (vi 10)]), res_of (l := [.tmp 4, .tmp 5]) (by kernel_rfl) (vs := [(.bool false), (vi 10)]) ⟨rfl, ⟨rfl, trivial⟩⟩, (.tuple #[(.bool false), (vi 10)]), F3, rfl, hs18.clear, rfl⟩
  ·have h27 := cond_f h11 hb25
   refine Sc ?_
   refine thenQ_nrm ?_
   refine Sq (Rg [0, 1, 2, 3, 4] ?_)
   refine V 26 9 (mv 6 (.string ⟨(r1.1).toArray⟩) e21) ?_
   refine V 27 9 (mv 8 (.string ⟨(r9.1).toArray⟩) e22) ?_
   refine V 28 4 (run_scmp (t := 9) (t' := 9) (x := (.tmp 26)) (y := (.tmp 27)) (op := .eql) (a := r1.1) (b := r9.1) (v := (r1.1 == r9.1)) rfl rfl rfl) ?_
   refine V 4 4 (ma 28 (.bool (r1.1 == r9.1))) ?_
   refine V 5 23 (mc (vi 0) (vi 0)) ?_
   refine Nt ?_
   refine CWP.ret (by kernel_rfl) ?_
   have hfin := some_inj h27
   subst hfin
   exact ⟨e20, (.tuple #[(.bool (r1.1 == r9.1)), (vi 0)]), res_of (l := [.tmp 4, .tmp 5]) (by kernel_rfl) (vs := [(.bool (r1.1 == r9.1)), (vi 0)]) ⟨rfl, ⟨rfl, trivial⟩⟩, (.tuple #[(.bool (r1.1 == r9.1)), (vi 0)]), F3, rfl, hs18.clear, rfl⟩
end Go.Proofs.YtlddakefmfcblaaGreatDoor
namespace Go.Proofs.YtlddakefmfcblaaGreatDoor
open Go.Proofs
def ref01_PrefixOf (N : Nat) (x0 : (List UInt8)) : Option ((List UInt8) × Int) :=
 ((ref01_Split N x0).bind fun r1 => (bif (r1.2 != 0) then some (([] : List UInt8), r1.2) else ((bif (r1.1.Area != ([] : List UInt8)) then ((sidx r1.1.Area (W64 ((r1.1.Area.length : Int) - 1))).bind fun c28 => ((ref01_digit N c28).bind fun r31 => some r31)) else some false).bind fun j20 => (bif j20 then some (r1.1.Area, 0) else (bif (r1.1.Area != ([] : List UInt8)) then ((sadd r1.1.Area ([48] : List UInt8)).bind fun r45 => some (r45, 0)) else ((bif ((r1.1.Stroke.length : Int) == 1) then ((sidx r1.1.Stroke 0).bind fun c60 => ((ref01_digit N c60).bind fun r63 => some r63)) else some false).bind fun j52 => (bif j52 then (((ssub r1.1.Prefix 0 (W64 ((r1.1.Prefix.length : Int) - 1))).bind fun r85 => ((sadd r85 r1.1.Stroke).bind fun r88 => some r88)).bind fun j79 => some (j79, 0)) else some (r1.1.Prefix, 0))))))))
theorem co_ref01_PrefixOf : CallOk Tryz.prog 43 := fun _ _ => by kernel_rfl
set_option maxHeartbeats 4000000 in
set_option maxRecDepth 100000 in
theorem c_ref01_PrefixOf (N : Nat) (w0 : World) (F0 : Mem) (hF : ∀ b o, F0 b = some o → w0.heap[b]? = some o) (x0 : (List UInt8)) (r : ((List UInt8) × Int)) (h : ref01_PrefixOf N x0 = some r) :
  Calls Tryz.prog 43 ([(.string ⟨(x0).toArray⟩)] : List Value).toArray w0 (FRet w0 F0 fun F' v => v = (.tuple #[(.string ⟨(r.1).toArray⟩), (vi r.2)])) := by
 have hs0 := HS.start hF
 refine calls_of (n := 57) (c := bodyOf Tryz.f43) Tryz.func43 (by kernel_rfl) (by kernel_rfl) (by kernel_rfl) ?_
 refine Sq (Rg [0, 1] ?_)
 refine V 2 9 (mc (.string ⟨([] : List UInt8).toArray⟩) (.string ⟨(([] : List UInt8)).toArray⟩)) ?_
 refine V 3 23 (mc (vi 0) (vi 0)) ?_
 refine Nss (Rg [0, 1, 2, 3, 4, 5, 6, 7] ?_)
 refine V 7 9 (mv 0 (.string ⟨(x0).toArray⟩)) ?_
 obtain ⟨r1, hr2, h3⟩ := bind_some h
 refine Cl 8 28 34 #[(.tmp 7)] #[9] co_ref01_Split hs0 (c_ref01_Split N w0 F0 hs0.pers (x0) _ hr2) ?_
 intro v4 F1 w5 hs6 le7 hp8
 obtain rfl := hp8
 refine V 6 28 (mv 8 (.tuple #[(.agg #[(.string ⟨(r1.1.Area).toArray⟩), (.string ⟨(r1.1.Prefix).toArray⟩), (.string ⟨(r1.1.Suffix).toArray⟩), (.string ⟨(r1.1.Stroke).toArray⟩)]), (vi r1.2)])) ?_
 refine V 9 27 (ex 6 0 (.agg #[(.string ⟨(r1.1.Area).toArray⟩), (.string ⟨(r1.1.Prefix).toArray⟩), (.string ⟨(r1.1.Suffix).toArray⟩), (.string ⟨(r1.1.Stroke).toArray⟩)]) (vs := #[(.agg #[(.string ⟨(r1.1.Area).toArray⟩), (.string ⟨(r1.1.Prefix).toArray⟩), (.string ⟨(r1.1.Suffix).toArray⟩), (.string ⟨(r1.1.Stroke).toArray⟩)]), (vi r1.2)])) ?_
 refine V 10 23 (ex 6 1 (vi r1.2) (vs := #[(.agg #[(.string ⟨(r1.1.Area).toArray⟩), (.string ⟨(r1.1.Prefix).toArray⟩), (.string ⟨(r1.1.Suffix).toArray⟩), (.string ⟨(r1.1.Stroke).toArray⟩)]), (vi r1.2)])) ?_
 refine Al 4 0 27 #[(.string ⟨(([] : List UInt8)).toArray⟩), (.string ⟨(([] : List UInt8)).toArray⟩), (.string ⟨(([] : List UInt8)).toArray⟩), (.string ⟨(([] : List UInt8)).toArray⟩)] hs6 (fun b9 w10 (hs11 : HS w0 F0 w10 F1 [(sb b9 #[(.string ⟨(([] : List UInt8)).toArray⟩), (.string ⟨(([] : List UInt8)).toArray⟩), (.string ⟨(([] : List UInt8)).toArray⟩), (.string ⟨(([] : List UInt8)).toArray⟩)] 27)]) => ?_)
 refine RWP.store (ty := 0) (g := none) (by kernel_rfl) rfl (x := (.tmp 4)) (y := (.tmp 9)) (t := 27) (gg := true) (s := 4) (v := (.agg #[(.string ⟨(r1.1.Area).toArray⟩), (.string ⟨(r1.1.Prefix).toArray⟩), (.string ⟨(r1.1.Suffix).toArray⟩), (.string ⟨(r1.1.Stroke).toArray⟩)])) (b := b9) (o := 0) (C := #[(.string ⟨(([] : List UInt8)).toArray⟩), (.string ⟨(([] : List UInt8)).toArray⟩), (.string ⟨(([] : List UInt8)).toArray⟩), (.string ⟨(([] : List UInt8)).toArray⟩)]) rfl rfl (by kernel_rfl) hs11 (k := 0) rfl rfl rfl rfl (C' := #[(.string ⟨(r1.1.Area).toArray⟩), (.string ⟨(r1.1.Prefix).toArray⟩), (.string ⟨(r1.1.Suffix).toArray⟩), (.string ⟨(r1.1.Stroke).toArray⟩)]) rfl (fun w12 (hs13 : HS w0 F0 w12 F1 [(sb b9 #[(.string ⟨(r1.1.Area).toArray⟩), (.string ⟨(r1.1.Prefix).toArray⟩), (.string ⟨(r1.1.Suffix).toArray⟩), (.string ⟨(r1.1.Stroke).toArray⟩)] 27)]) => ?_)
 refine V 5 23 (ma 10 (vi r1.2)) ?_
 refine Nss ?_
 refine Sq (Rg [0, 1] ?_)
 refine V 11 23 (mv 5 (vi r1.2)) ?_
 refine V 12 4 (run_neq (t := 23) (t' := 23) (x := (.tmp 11)) (y := (.const (vi 0))) (k := .i64) (a := r1.2) (b := 0) rfl rfl) ?_
 refine Nt ?_
 refine CWP.cond (t := (r1.2 != 0)) (by kernel_rfl) rfl (fun hb14 => ?_) (fun hb14 => ?_)
 ·have h15 := cond_t h3 hb14
  refine Sq (Rg [0, 1, 2] ?_)
  refine V 13 23 (mv 5 (vi r1.2)) ?_
  refine V 2 9 (mc (.string ⟨([] : List UInt8).toArray⟩) (.string ⟨(([] : List UInt8)).toArray⟩)) ?_
  refine V 3 23 (ma 13 (vi r1.2)) ?_
  refine Nt ?_
  refine CWP.ret (by kernel_rfl) ?_
  refine thenQ_ret ?_
  have hfin := some_inj h15
  subst hfin
  exact ⟨rfl, (.tuple #[(.string ⟨(([] : List UInt8)).toArray⟩), (vi r1.2)]), res_of (l := [.tmp 2, .tmp 3]) (by kernel_rfl) (vs := [(.string ⟨(([] : List UInt8)).toArray⟩), (vi r1.2)]) ⟨rfl, ⟨rfl, trivial⟩⟩, (.tuple #[(.string ⟨(([] : List UInt8)).toArray⟩), (vi r1.2)]), F1, rfl, hs13.clear, rfl⟩
 ·have h16 := cond_f h3 hb14
  refine Sc ?_
  refine thenQ_nrm ?_
  refine Sq ?_
  refine Sq (Rg [0, 1, 2, 3, 4, 5, 6, 7, 8, 9, 10, 11, 12] ?_)
  obtain ⟨j20, hj24, h25⟩ := bind_some h16
  refine RWP.cut (fun f w => ∃ (F2 : Mem), HS w0 F0 w F2 [(sb b9 #[(.string ⟨(r1.1.Area).toArray⟩), (.string ⟨(r1.1.Prefix).toArray⟩), (.string ⟨(r1.1.Suffix).toArray⟩), (.string ⟨(r1.1.Stroke).toArray⟩)] 27)] ∧ Mem.le F1 F2 ∧ f.d = [] ∧ f 4 = (.pointer (some ⟨b9, 0, none⟩)) ∧ f 26 = (.bool j20)) ?_ ?_
  ·refine V 14 0 (fa 27 4 0 0 1 b9 0 0) ?_
   refine V 15 9 (ld 9 14 b9 0 false 1 (.string ⟨(r1.1.Area).toArray⟩) (hs13.ownAt (k := 0) rfl)) ?_
   refine V 16 4 (run_scmp (t := 9) (t' := 9) (x := (.tmp 15)) (y := (.const (.string ⟨([] : List UInt8).toArray⟩))) (op := .neq) (a := r1.1.Area) (b := ([] : List UInt8)) (v := (r1.1.Area != ([] : List UInt8))) rfl rfl rfl) ?_
   refine V 17 4 (mv 16 (.bool (r1.1.Area != ([] : List UInt8)))) ?_
   refine RWP.split (r1.1.Area != ([] : List UInt8)) (fun hb26 => ?_) (fun hb26 => ?_)
   ·have h27 := cond_t hj24 hb26
    refine Vg 18 0 3 true 17 hb26 (fa 27 4 0 0 1 b9 0 0) ?_
    refine Vg 19 9 3 true 17 hb26 (ld 9 18 b9 0 false 1 (.string ⟨(r1.1.Area).toArray⟩) (hs13.ownAt (k := 0) rfl)) ?_
    refine Vg 20 0 3 true 17 hb26 (fa 27 4 0 0 1 b9 0 0) ?_
    refine Vg 21 9 3 true 17 hb26 (ld 9 20 b9 0 false 1 (.string ⟨(r1.1.Area).toArray⟩) (hs13.ownAt (k := 0) rfl)) ?_
    refine Vg 22 3 3 true 17 hb26 (run_slen (x := (.tmp 21)) (ats := #[9]) (t := 9) (a := r1.1.Area) rfl rfl (by kernel_rfl)) ?_
    refine Vg 23 3 3 true 17 hb26 (run_sub (t := 3) (t' := 3) (x := (.tmp 22)) (y := (.const (vi 1))) (k := .i64) (a := (r1.1.Area.length : Int)) (b := 1) rfl rfl) ?_
    obtain ⟨c28, hr29, h30⟩ := bind_some h27
    refine Vg 24 5 3 true 17 hb26 (run_sidx (t := 9) (x := (.tmp 19)) (y := (.tmp 23)) (a := r1.1.Area) (k := .i64) (i := (W64 ((r1.1.Area.length : Int) - 1))) (v := c28) rfl rfl (by kernel_rfl) hr29) ?_
    obtain ⟨r31, hr32, h33⟩ := bind_some h30
    refine RWP.call (dst := (some 25)) (ty := 4) (g := (some (3, true))) (by kernel_rfl) (gd_y (d := 17) (by kernel_rfl) rfl hb26) (f0 := (.func 83)) (aos := #[(.tmp 24)]) (ats := #[5]) (fid := 83) (first := #[]) (cap := #[]) (args := [(.int .u8 c28)]) rfl co_ref01_digit (rfl) hs13 (c_ref01_digit N w12 F1 hs13.pers (c28) _ hr32) ?_
    intro v34 F3 w35 hs36 le37 hp38
    obtain rfl := hp38
    refine V 26 4 (p1 17 (.tmp 25) (.const (.bool false)) (.bool r31) hb26) ?_
    obtain rfl := some_inj h33
    exact RWP.nil ⟨rfl, F3, hs36, le37, rfl, rfl, rfl⟩
   ·have h39 := cond_f hj24 hb26
    refine Sk [18, 19, 20, 21, 22, 23, 24, 25] 3 true 17 hb26 ?_
    refine V 26 4 (p0 17 (.tmp 25) (.const (.bool false)) (.bool false) hb26) ?_
    obtain rfl := some_inj h39
    exact RWP.nil ⟨rfl, F1, hs13, (Mem.le.refl _), rfl, rfl, rfl⟩
  ·rintro f w17 ⟨F2, hs18, le19, e21, e22, e23⟩
   refine thenQ_nrm ?_
   refine CWP.cond (t := j20) (by kernel_rfl) e23 (fun hb40 => ?_) (fun hb40 => ?_)
   ·have h41 := cond_t h25 hb40
    refine Sq (Rg [0, 1, 2, 3] ?_)
    refine V 27 0 (fa 27 4 0 0 1 b9 0 0 e22) ?_
    refine V 28 9 (ld 9 27 b9 0 false 1 (.string ⟨(r1.1.Area).toArray⟩) (hs18.ownAt (k := 0) rfl)) ?_
    refine V 2 9 (ma 28 (.string ⟨(r1.1.Area).toArray⟩)) ?_
    refine V 3 23 (mc (vi 0) (vi 0)) ?_
    refine Nt ?_
    refine CWP.ret (by kernel_rfl) ?_
    refine thenQ_ret ?_
    have hfin := some_inj h41
    subst hfin
    exact ⟨e21, (.tuple #[(.string ⟨(r1.1.Area).toArray⟩), (vi 0)]), res_of (l := [.tmp 2, .tmp 3]) (by kernel_rfl) (vs := [(.string ⟨(r1.1.Area).toArray⟩), (vi 0)]) ⟨rfl, ⟨rfl, trivial⟩⟩, (.tuple #[(.string ⟨(r1.1.Area).toArray⟩), (vi 0)]), F2, rfl, hs18.clear, rfl⟩
   ·have h42 := cond_f h25 hb40
    refine Sc ?_
    refine thenQ_nrm ?_
    refine Sq ?_
    refine Sq (Rg [0, 1, 2] ?_)
    refine V 29 0 (fa 27 4 0 0 1 b9 0 0 e22) ?_
    refine V 30 9 (ld 9 29 b9 0 false 1 (.string ⟨(r1.1.Area).toArray⟩) (hs18.ownAt (k := 0) rfl)) ?_
    refine V 31 4 (run_scmp (t := 9) (t' := 9) (x := (.tmp 30)) (y := (.const (.string ⟨([] : List UInt8).toArray⟩))) (op := .neq) (a := r1.1.Area) (b := ([] : List UInt8)) (v := (r1.1.Area != ([] : List UInt8))) rfl rfl rfl) ?_
    refine Nt ?_
    refine CWP.cond (t := (r1.1.Area != ([] : List UInt8))) (by kernel_rfl) rfl (fun hb43 => ?_) (fun hb43 => ?_)
    ·have h44 := cond_t h42 hb43
     refine Sq (Rg [0, 1, 2, 3, 4] ?_)
     refine V 32 0 (fa 27 4 0 0 1 b9 0 0 e22) ?_
     refine V 33 9 (ld 9 32 b9 0 false 1 (.string ⟨(r1.1.Area).toArray⟩) (hs18.ownAt (k := 0) rfl)) ?_
     obtain ⟨r45, hr46, h47⟩ := bind_some h44
     refine V 34 9 (run_sadd (t := 9) (t' := 9) (x := (.tmp 33)) (y := (.const (.string ⟨([48] : List UInt8).toArray⟩))) (a := r1.1.Area) (b := ([48] : List UInt8)) (v := r45) rfl rfl hr46) ?_
     refine V 2 9 (ma 34 (.string ⟨(r45).toArray⟩)) ?_
     refine V 3 23 (mc (vi 0) (vi 0)) ?_
     refine Nt ?_
     refine CWP.ret (by kernel_rfl) ?_
     refine thenQ_ret ?_
     have hfin := some_inj h47
     subst hfin
     exact ⟨e21, (.tuple #[(.string ⟨(r45).toArray⟩), (vi 0)]), res_of (l := [.tmp 2, .tmp 3]) (by kernel_rfl) (vs := [(.string ⟨(r45).toArray⟩), (vi 0)]) ⟨rfl, ⟨rfl, trivial⟩⟩, (.tuple #[(.string ⟨(r45).toArray⟩), (vi 0)]), F2, rfl, hs18.clear, rfl⟩
    ·have h48 := cond_f h42 hb43
     refine Sc ?_
     refine thenQ_nrm ?_
     refine Sq ?_
     refine Sq (Rg [0, 1, 2, 3, 4, 5, 6, 7, 8, 9] ?_)
     obtain ⟨j52, hj56, h57⟩ := bind_some h48
     refine RWP.cut (fun f w => ∃ (F4 : Mem), HS w0 F0 w F4 [(sb b9 #[(.string ⟨(r1.1.Area).toArray⟩), (.string ⟨(r1.1.Prefix).toArray⟩), (.string ⟨(r1.1.Suffix).toArray⟩), (.string ⟨(r1.1.Stroke).toArray⟩)] 27)] ∧ Mem.le F2 F4 ∧ f.d = [] ∧ f 4 = (.pointer (some ⟨b9, 0, none⟩)) ∧ f 44 = (.bool j52)) ?_ ?_
     ·refine V 35 0 (fa 27 4 3 3 1 b9 0 3 e22) ?_
      refine V 36 9 (ld 9 35 b9 3 false 1 (.string ⟨(r1.1.Stroke).toArray⟩) (hs18.ownAt (k := 0) rfl)) ?_
      refine V 37 3 (run_slen (x := (.tmp 36)) (ats := #[9]) (t := 9) (a := r1.1.Stroke) rfl rfl (by kernel_rfl)) ?_
      refine V 38 4 (run_eql (t := 3) (t' := 3) (x := (.tmp 37)) (y := (.const (vi 1))) (k := .i64) (a := (r1.1.Stroke.length : Int)) (b := 1) rfl rfl) ?_
      refine V 39 4 (mv 38 (.bool ((r1.1.Stroke.length : Int) == 1))) ?_
      refine RWP.split ((r1.1.Stroke.length : Int) == 1) (fun hb58 => ?_) (fun hb58 => ?_)
      ·have h59 := cond_t hj56 hb58
       refine Vg 40 0 4 true 39 hb58 (fa 27 4 3 3 1 b9 0 3 e22) ?_
       refine Vg 41 9 4 true 39 hb58 (ld 9 40 b9 3 false 1 (.string ⟨(r1.1.Stroke).toArray⟩) (hs18.ownAt (k := 0) rfl)) ?_
       obtain ⟨c60, hr61, h62⟩ := bind_some h59
       refine Vg 42 5 4 true 39 hb58 (run_sidx (t := 9) (x := (.tmp 41)) (y := (.const (vi 0))) (a := r1.1.Stroke) (k := .i64) (i := 0) (v := c60) rfl rfl (by kernel_rfl) hr61) ?_
       obtain ⟨r63, hr64, h65⟩ := bind_some h62
       refine RWP.call (dst := (some 43)) (ty := 4) (g := (some (4, true))) (by kernel_rfl) (gd_y (d := 39) (by kernel_rfl) rfl hb58) (f0 := (.func 83)) (aos := #[(.tmp 42)]) (ats := #[5]) (fid := 83) (first := #[]) (cap := #[]) (args := [(.int .u8 c60)]) rfl co_ref01_digit (rfl) hs18 (c_ref01_digit N w17 F2 hs18.pers (c60) _ hr64) ?_
       intro v66 F5 w67 hs68 le69 hp70
       obtain rfl := hp70
       refine V 44 4 (p1 39 (.tmp 43) (.const (.bool false)) (.bool r63) hb58) ?_
       obtain rfl := some_inj h65
       exact RWP.nil ⟨rfl, F5, hs68, le69, e21, e22, rfl⟩
      ·have h71 := cond_f hj56 hb58
       refine Sk [40, 41, 42, 43] 4 true 39 hb58 ?_
       refine V 44 4 (p0 39 (.tmp 43) (.const (.bool false)) (.bool false) hb58) ?_
       obtain rfl := some_inj h71
       exact RWP.nil ⟨rfl, F2, hs18, (Mem.le.refl _), e21, e22, rfl⟩
     ·rintro f w49 ⟨F4, hs50, le51, e53, e54, e55⟩
      refine thenQ_nrm ?_
      refine CWP.cond (t := j52) (by kernel_rfl) e55 (fun hb72 => ?_) (fun hb72 => ?_)
      ·have h73 := cond_t h57 hb72
       refine Sq ?_
       obtain ⟨j79, hj83, h84⟩ := bind_some h73
       refine CWP.regionD (by kernel_rfl) (by kernel_rfl) (by kernel_rfl) (by kernel_rfl) (z := 12) (F := F4) (Lc := [(sb b9 #[(.string ⟨(r1.1.Area).toArray⟩), (.string ⟨(r1.1.Prefix).toArray⟩), (.string ⟨(r1.1.Suffix).toArray⟩), (.string ⟨(r1.1.Stroke).toArray⟩)] 27)]) (Lz := []) (l := [false, false, false, false, false, false, false, false, false, false, false, false]) (fuel := 12) (by kernel_rfl) (by kernel_rfl) hs50 (by simp) (by simp) (fun f w => ∃ (F6 : Mem), HS w0 F0 w F6 [] ∧ Mem.le F4 F6 ∧ f.d = [] ∧ f 2 = (.string ⟨(j79).toArray⟩) ∧ f 3 = (vi 0)) (fun wd74 hw75 => ?_) ?_
       ·refine Dt 0 45 0 (.pointer (some ⟨b9, 1, none⟩)) (fun _ hq => fa 27 4 1 1 1 b9 0 1 e54) ?_
        refine Dt 1 46 9 _ (fun _ hq => ld 9 45 b9 1 false 1 (.string ⟨(r1.1.Prefix).toArray⟩) (hq.1.2 0 _ _ rfl)) ?_
        refine Dt 2 47 0 (.pointer (some ⟨b9, 1, none⟩)) (fun _ hq => fa 27 4 1 1 1 b9 0 1 e54) ?_
        refine Dt 3 48 9 _ (fun _ hq => ld 9 47 b9 1 false 1 (.string ⟨(r1.1.Prefix).toArray⟩) (hq.1.2 0 _ _ rfl)) ?_
        refine Dt 4 49 3 (vi (r1.1.Prefix.length : Int)) (fun _ hq => run_slen (x := (.tmp 48)) (ats := #[9]) (t := 9) (a := r1.1.Prefix) rfl rfl (by kernel_rfl)) ?_
        refine Dt 5 50 3 (vi (W64 ((r1.1.Prefix.length : Int) - 1))) (fun _ hq => run_sub (t := 3) (t' := 3) (x := (.tmp 49)) (y := (.const (vi 1))) (k := .i64) (a := (r1.1.Prefix.length : Int)) (b := 1) rfl rfl) ?_
        obtain ⟨r85, hr86, h87⟩ := bind_some hj83
        refine Dt 6 51 9 (.string ⟨(r85).toArray⟩) (fun _ hq => run_ssub (t := 9) (x := (.tmp 46)) (lo := none) (hi := (some (.tmp 50))) (a := r1.1.Prefix) (il := 0) (ih := (W64 ((r1.1.Prefix.length : Int) - 1))) (v := r85) rfl (by kernel_rfl) rfl rfl hr86) ?_
        refine Dt 7 52 0 (.pointer (some ⟨b9, 3, none⟩)) (fun _ hq => fa 27 4 3 3 1 b9 0 3 e54) ?_
        refine Dt 8 53 9 _ (fun _ hq => ld 9 52 b9 3 false 1 (.string ⟨(r1.1.Stroke).toArray⟩) (hq.1.2 0 _ _ rfl)) ?_
        obtain ⟨r88, hr89, h90⟩ := bind_some h87
        refine Dt 9 54 9 (.string ⟨(r88).toArray⟩) (fun _ hq => run_sadd (t := 9) (t' := 9) (x := (.tmp 51)) (y := (.tmp 53)) (a := r85) (b := r1.1.Stroke) (v := r88) rfl rfl hr89) ?_
        refine Dt 10 2 9 _ (fun _ hq => ma 54 (.string ⟨(r88).toArray⟩)) ?_
        refine Dt 11 3 23 _ (fun _ hq => mc (vi 0) (vi 0)) ?_
        obtain rfl := some_inj h90
        have hs91 : HS w0 F0 wd74 F4 [] := hw75.drop 0
        exact DWP.done (by kernel_rfl) ⟨F4, hs91, (Mem.le.refl _), e53, rfl, rfl⟩
       ·rintro f w76 ⟨F6, hs77, le78, e80, e81, e82⟩
        refine thenQ_nrm ?_
        refine CWP.ret (by kernel_rfl) ?_
        refine thenQ_ret ?_
        have hfin := some_inj h84
        subst hfin
        exact ⟨e80, (.tuple #[(.string ⟨(j79).toArray⟩), (vi 0)]), res_of (l := [.tmp 2, .tmp 3]) (by kernel_rfl) (vs := [(.string ⟨(j79).toArray⟩), (vi 0)]) ⟨e81, ⟨e82, trivial⟩⟩, (.tuple #[(.string ⟨(j79).toArray⟩), (vi 0)]), F6, rfl, hs77.clear, rfl⟩
      ·have h92 := cond_f h57 hb72
       refine Sc ?_
       refine thenQ_nrm ?_
       refine Sq (Rg [0, 1, 2, 3] ?_)
       refine V 55 0 (fa 27 4 1 1 1 b9 0 1 e54) ?_
       refine V 56 9 (ld 9 55 b9 1 false 1 (.string ⟨(r1.1.Prefix).toArray⟩) (hs50.ownAt (k := 0) rfl)) ?_
       refine V 2 9 (ma 56 (.string ⟨(r1.1.Prefix).toArray⟩)) ?_
       refine V 3 23 (mc (vi 0) (vi 0)) ?_
       refine Nt ?_
       refine CWP.ret (by kernel_rfl) ?_
       have hfin := some_inj h92
       subst hfin
       exact ⟨e53, (.tuple #[(.string ⟨(r1.1.Prefix).toArray⟩), (vi 0)]), res_of (l := [.tmp 2, .tmp 3]) (by kernel_rfl) (vs := [(.string ⟨(r1.1.Prefix).toArray⟩), (vi 0)]) ⟨rfl, ⟨rfl, trivial⟩⟩, (.tuple #[(.string ⟨(r1.1.Prefix).toArray⟩), (vi 0)]), F4, rfl, hs50.clear, rfl⟩
end Go.Proofs.YtlddakefmfcblaaGreatDoor
namespace Go.Proofs.YtlddakefmfcblaaGreatDoor
theorem iter_allL {α ρ τ : Type} {body : Int → Option (Flow ρ Int)} {l : List α} (ok : α → Bool) (bad : ρ) (hb : ∀ i (h : i < l.length), body (i : Int) = some (bif ok l[i] then .next ((i + 1 : Nat) : Int) else .ret bad))
  (he : body (l.length : Int) = some (.done (l.length : Int))) {N : Nat} (hN : l.length < N) (fd : Int → Option τ) (fr : ρ → Option τ) : ((iter body N 0).bind fun o => o.k fr fd) = bif l.all ok then fd l.length else fr bad := by
 obtain ⟨o, ho, hR⟩ := iter_ex (body := body) l.length (fun i s => s = (i : Int) ∧ (l.take i).all ok = true) (fun o => (l.all ok = true ∧ o = .done (l.length : Int)) ∨ (l.all ok = false ∧ o = .ret bad)) (by
  rintro i s hi ⟨rfl, hk⟩
  by_cases h : i < l.length
  ·rw [hb i h]
   cases e : ok l[i] with
   | true => exact .inl ⟨_, rfl, ⟨rfl, by rw [List.take_add_one, List.getElem?_eq_getElem h, List.all_append, hk]; simp [e]⟩, h⟩
   | false => exact .inr ⟨_, rfl, (fun _ h => by cases h), .inr ⟨by rw [List.all_eq_false]; exact ⟨l[i], List.getElem_mem h, by rw [e]; simp⟩, rfl⟩⟩
  ·have : i = l.length := by omega
   subst this
   rw [he]
   exact .inr ⟨_, rfl, (fun _ h => by cases h), .inl ⟨by simpa using hk, rfl⟩⟩) l.length N 0 0 (by omega) ⟨rfl, rfl⟩ hN
 rw [ho]
 rcases hR with ⟨h1, rfl⟩ | ⟨h1, rfl⟩ <;> rw [h1] <;> rfl
section
variable {N : Nat} {s : List UInt8}
theorem lt_dec {i n : Nat} (h : i < n) : decide ((i : Int) < (n : Int)) = true := decide_eq_true (by omega)
theorem lt_dec' {n : Nat} : decide ((n : Int) < (n : Int)) = false := decide_eq_false (by omega)
theorem m_mixed (hs : s.length < 4611686018427387904) (hN : s.length < N) : ref01_mixed N s = some (s.all isE) := by
 have hb : ∀ i (h : i < s.length), ref01_mixed_L0 N s (i : Int) = some (bif isE s[i] then .next ((i + 1 : Nat) : Int) else .ret false) := fun i h => by
  unfold ref01_mixed_L0
  rw [lt_dec h, cond_true, sidx_nat h, Option.bind_some, m_rletter, Option.bind_some, w64s i (by omega), Option.bind_some, m_rdigit]
  unfold isE
  cases isL s[i] <;> cases isD s[i] <;> rfl
 have he : ref01_mixed_L0 N s (s.length : Int) = some (.done (s.length : Int)) := by
  unfold ref01_mixed_L0
  rw [lt_dec', cond_false]
 unfold ref01_mixed
 rw [iter_allL (l := s) isE false hb he hN]
 cases s.all isE <;> rfl
theorem all_not : ∀ s : List UInt8, s.all (fun b => !isL b) = !s.any isL
 | [] => rfl
 | b :: s => by rw [List.all_cons, List.any_cons, all_not s]; cases isL b <;> rfl
theorem m_lettered (hs : s.length < 4611686018427387904) (hN : s.length < N) : ref01_lettered N s = some (s.any isL) := by
 have hb : ∀ i (h : i < s.length), ref01_lettered_L0 N s (i : Int) = some (bif (!isL s[i]) then .next ((i + 1 : Nat) : Int) else .ret true) := fun i h => by
  unfold ref01_lettered_L0
  rw [lt_dec h, cond_true, sidx_nat h, Option.bind_some, m_rletter, Option.bind_some, w64s i (by omega)]
  cases isL s[i] <;> rfl
 have he : ref01_lettered_L0 N s (s.length : Int) = some (.done (s.length : Int)) := by
  unfold ref01_lettered_L0
  rw [lt_dec', cond_false]
 unfold ref01_lettered
 rw [iter_allL (l := s) (fun b => !isL b) true hb he hN]
 rw [all_not]
 cases s.any isL <;> rfl
theorem m_cut (hs : s.length < 4611686018427387904) (hN : s.length < N) : ref01_cut N s = some (cutK s : Int) := by
 obtain ⟨o, ho, rfl⟩ := iter_ex (body := ref01_cut_L0 N s) s.length (fun i st => st = ((cutK (s.take i) : Int), (i : Int))) (fun o => o = .done ((cutK s : Int), (s.length : Int))) (by
  rintro i st hi rfl
  unfold ref01_cut_L0
  simp only
  by_cases h : i < s.length
  ·rw [lt_dec h, cond_true, sidx_nat h, Option.bind_some, m_rdigit, Option.bind_some, w64s i (by omega)]
   refine .inl ⟨_, rfl, ?_, h⟩
   rw [List.take_add_one, List.getElem?_eq_getElem h]
   show _ = (((cutK (s.take i ++ [s[i]]) : Nat) : Int), _)
   rw [cutK_snoc, List.length_take, Nat.min_eq_left (by omega)]
   cases isD s[i] <;> rfl
  ·have : i = s.length := by omega
   subst this
   rw [lt_dec', cond_false, List.take_length]
   exact .inr ⟨_, rfl, (fun _ e => by cases e), rfl⟩) s.length N 0 (0, 0) (by omega) rfl hN
 unfold ref01_cut
 rw [ho]
 rfl
def wiB (n lo hi : Nat) : Bool := decide (lo ≤ n) && decide (n ≤ hi)
def areaB (s : List UInt8) : Bool := s.all isE && wiB s.length 1 4 && s.any isL
def baseB (s : List UInt8) : Bool := s.all isE && wiB (cutK s) 1 4 && (s.take (cutK s)).any isL && wiB (s.length - cutK s) 1 4
def strokeB (s : List UInt8) : Bool := (s.all isL && wiB s.length 1 4) || (s.all isD && wiB s.length 1 1)
theorem within_nat (n lo hi : Nat) : (decide (((lo : Nat) : Int) ≤ (n : Int)) && decide ((n : Int) ≤ ((hi : Nat) : Int))) = wiB n lo hi := by
 unfold wiB
 congr 1 <;> (rw [decide_eq_decide]; omega)
theorem w14 (n : Nat) : (decide ((1 : Int) ≤ (n : Int)) && decide ((n : Int) ≤ (4 : Int))) = wiB n 1 4 := within_nat n 1 4
theorem w11 (n : Nat) : (decide ((1 : Int) ≤ (n : Int)) && decide ((n : Int) ≤ (1 : Int))) = wiB n 1 1 := within_nat n 1 1
theorem m_area (hs : s.length < 4611686018427387904) (hN : s.length < N) : air_area N s = some (areaB s) := by
 unfold air_area areaB
 rw [only_spec (predE N) s 4 hN, Option.bind_some, w14]
 cases h : (s.all isE && wiB s.length 1 4) with
 | false => rfl
 | true =>
  rw [Bool.and_eq_true] at h
  obtain ⟨r, h1, h2⟩ := idx_spec' (N := N) (predL N) s (fun b hb => isE_asc (List.all_eq_true.1 h.1 b hb))
  rw [cond_true, h1, Option.bind_some, h2]
  rfl
theorem m_rarea (hs : s.length < 4611686018427387904) (hN : s.length < N) : ref01_area N s = some (areaB s) := by
 unfold ref01_area areaB
 rw [m_mixed hs hN, Option.bind_some, m_lettered hs hN, m_rwithin, w14]
 cases s.all isE <;> cases wiB s.length 1 4 <;> rfl
theorem m_stroke (hs : s.length < 4611686018427387904) (hN : s.length < N) : air_stroke N s = some (strokeB s) := by
 unfold air_stroke strokeB
 rw [only_spec (predL N) s 4 hN, only_spec (predD N) s 1 hN, w14, w11]
 cases s.all isL && wiB s.length 1 4 <;> rfl
theorem cutK_zero : ∀ {s : List UInt8}, cutK s = 0 ↔ s.any isD = false := by
 intro s
 constructor
 ·intro h
  have := cutK_rest s
  rw [h, List.drop_zero] at this
  rw [List.any_eq_false]
  intro b hb
  rw [this b hb]; simp
 ·intro h
  rcases Nat.eq_zero_or_pos (cutK s) with h0 | h0
  ·exact h0
  ·obtain ⟨b, h1, h2⟩ := cutK_at s h0
   rw [List.any_eq_false] at h
   exact absurd h2 (h b (List.mem_of_getElem? h1))
theorem allL_iff (s : List UInt8) : s.all isL = (s.all isE && !s.any isD) := by
 induction s with
 | nil => rfl
 | cons b s ih =>
  simp only [List.all_cons, List.any_cons, ih, isE]
  cases hL : isL b with
  | true => rw [isLD hL]; simp
  | false => cases isD b <;> cases s.all isE <;> cases s.any isD <;> rfl
theorem m_rstroke (hs : s.length < 4611686018427387904) (hN : s.length < N) : ref01_stroke N s = some (strokeB s) := by
 unfold ref01_stroke strokeB
 rw [m_mixed hs hN, m_rwithin, w14, m_cut hs hN, allL_iff]
 have hz : ((cutK s : Int) == 0) = !s.any isD := by
  rw [Bool.eq_iff_iff]
  simp only [beq_iff_eq, Bool.not_eq_true', ← cutK_zero]
  omega
 match s with
 | [] => rfl
 | [b] =>
  have e1 : (([b] : List UInt8).length : Int) == 1 := rfl
  rw [e1, cond_true, show sidx [b] 0 = some (b.toNat : Int) from rfl, Option.bind_some, m_rdigit, Option.bind_some, Option.bind_some]
  simp only [Option.bind_some, hz]
  simp only [List.all_cons, List.all_nil, List.any_cons, List.any_nil, isE, Bool.and_true, Bool.or_false]
  cases isL b <;> cases isD b <;> rfl
 | b :: c :: t =>
  have e1 : (((b :: c :: t).length : Int) == 1) = false := by rw [beq_eq_false_iff_ne]; simp; omega
  simp only [e1, cond_false, Option.bind_some, hz]
  have e2 : wiB (b :: c :: t).length 1 1 = false := by unfold wiB; simp
  rw [e2, Bool.and_false, Bool.or_false]
  cases (b :: c :: t).all isE <;> cases wiB (b :: c :: t).length 1 4 <;> cases (b :: c :: t).any isD <;> rfl
theorem m_rbase (hs : s.length < 4611686018427387904) (hN : s.length < N) : ref01_base N s = some (baseB s) := by
 have hk := cutK_le s
 unfold ref01_base baseB
 rw [m_cut hs hN, Option.bind_some, m_mixed hs hN, Option.bind_some, m_rwithin, w14]
 have e1 : ssub s 0 (cutK s : Int) = some (s.take (cutK s)) := by
  have := ssub_nat (a := s) (lo := 0) (hi := cutK s) (Nat.zero_le _) hk
  simpa using this
 have e2 : W64 ((s.length : Int) - (cutK s : Int)) = ((s.length - cutK s : Nat) : Int) := by rw [W64_id (by omega) (by omega)]; omega
 rw [e1, e2, m_rwithin, w14]
 have e3 := m_lettered (N := N) (s := s.take (cutK s)) (by rw [List.length_take]; omega) (by rw [List.length_take]; omega)
 simp only [Option.bind_some, e3]
 cases s.all isE <;> cases wiB (cutK s) 1 4 <;> cases (s.take (cutK s)).any isL <;> rfl
theorem lastLt (p : Nat → Bool) (tr : Bool) (s : List UInt8) : ∀ (f i : Nat), i ≤ s.length → Go.Lib.lastIdxFuncFrom p tr ⟨s.toArray⟩ f i = -1 ∨ (0 ≤ Go.Lib.lastIdxFuncFrom p tr ⟨s.toArray⟩ f i ∧ Go.Lib.lastIdxFuncFrom p tr ⟨s.toArray⟩ f i < (i : Int))
 | 0, _, _ => .inl rfl
 | f + 1, i, hi => by
  unfold Go.Lib.lastIdxFuncFrom
  split
  ·rename_i h0
   have hw := Go.Lib.decodeLastL_width (s.take i) (by rw [List.length_take]; omega)
   simp only [List.toList_toArray] at *
   split
   ·exact .inr ⟨by omega, by omega⟩
   ·rcases lastLt p tr s f (i - (Go.Lib.decodeLastL (s.take i)).2) (by omega) with h | h
    ·exact .inl h
    ·exact .inr ⟨h.1, by omega⟩
  ·exact .inl rfl
theorem m_base (hs : s.length < 4611686018427387904) (hN : s.length < N) : ∃ x y, air_base N s = some (x, y, baseB s) ∧ (baseB s = true → x = s.take (cutK s) ∧ y = s.drop (cutK s)) := by
 have hr : ∃ k : Nat, strings_LastIndexFunc N s (fun y0 => air_digit N y0) = some ((k : Int) - 1) ∧ k ≤ s.length ∧ ((∀ b, b ∈ s → b.toNat < 128) → k = cutK s) := by
  have hsz : (⟨s.toArray⟩ : ByteArray).size = s.length := by simp [ByteArray.size]
  have e : strings_LastIndexFunc N s (fun y0 => air_digit N y0) = some (Go.Lib.lastIdxFunc (predOf fun y0 => air_digit N y0) true ⟨s.toArray⟩) := by
   unfold strings_LastIndexFunc strings_lastIndexFunc
   rw [if_pos ⟨(predD N).all, by omega⟩]
   rfl
  rw [e]
  unfold Go.Lib.lastIdxFunc
  rw [hsz]
  have hrange := lastLt (predOf fun y0 => air_digit N y0) true s s.length s.length (Nat.le_refl _)
  refine ⟨(Go.Lib.lastIdxFuncFrom (predOf fun y0 => air_digit N y0) true ⟨s.toArray⟩ s.length s.length + 1).toNat, ?_, ?_, fun ha => ?_⟩
  ·exact congrArg some (by rcases hrange with h | ⟨h, _⟩ <;> omega)
  ·rcases hrange with h | ⟨h1, h2⟩
   ·omega
   ·omega
  ·have := lastFrom_spec N s ha s.length s.length (Nat.le_refl _) (Nat.le_refl _)
   rw [List.take_length] at this
   omega
 obtain ⟨k, h1, h2, h3⟩ := hr
 have e1 : W64 ((k : Int) - 1 + 1) = (k : Int) := by rw [W64_id (by omega) (by omega)]; omega
 have e2 : ssub s 0 (k : Int) = some (s.take k) := by
  have := ssub_nat (a := s) (lo := 0) (hi := k) (Nat.zero_le _) h2
  simpa using this
 have e3 : ssub s (k : Int) (s.length : Int) = some (s.drop k) := by
  rw [ssub_nat h2 (Nat.le_refl _), List.take_of_length_le (by simp)]
 have e4 := m_area (N := N) (s := s.take k) (by rw [List.length_take]; omega) (by rw [List.length_take]; omega)
 have e5 := only_spec (predL N) (s.drop k) 4 (N := N) (by rw [List.length_drop]; omega)
 refine ⟨s.take k, s.drop k, ?_, ?_⟩
 ·unfold air_base
  rw [h1, Option.bind_some, e1, e2, Option.bind_some, e3, Option.bind_some, Option.bind_some, e4, Option.bind_some, e5, w14]
  have hbase : (decide ((k : Int) > 0) && (areaB (s.take k) && ((s.drop k).all isL && wiB (s.drop k).length 1 4))) = baseB s := by
   by_cases ha : s.all isE = true
   ·have hk : k = cutK s := h3 fun b hb => isE_asc (List.all_eq_true.1 ha b hb)
    subst hk
    have hle := cutK_le s
    have e6 : (s.take (cutK s)).all isE = true := List.all_eq_true.2 fun b hb => List.all_eq_true.1 ha b (List.mem_of_mem_take hb)
    have e7 : (s.drop (cutK s)).all isL = true := by
     rw [allL_iff]
     rw [Bool.and_eq_true]
     refine ⟨List.all_eq_true.2 fun b hb => List.all_eq_true.1 ha b (List.mem_of_mem_drop hb), ?_⟩
     rw [Bool.not_eq_true', List.any_eq_false]
     intro b hb
     rw [cutK_rest s b hb]; simp
    unfold areaB baseB
    rw [ha, e6, e7, List.length_take, Nat.min_eq_left hle, List.length_drop]
    have e8 : (decide ((cutK s : Int) > 0) && wiB (cutK s) 1 4) = wiB (cutK s) 1 4 := by
     unfold wiB
     cases hd : decide (1 ≤ cutK s) with
     | false => simp
     | true => rw [decide_eq_true (by have := of_decide_eq_true hd; omega)]; rfl
    rw [← e8]
    cases decide ((cutK s : Int) > 0) <;> cases wiB (cutK s) 1 4 <;> cases (s.take (cutK s)).any isL <;> rfl
   ·have ha' : s.all isE = false := by simpa using ha
    unfold areaB baseB
    rw [ha']
    have e9 : (s.take k).all isE = false ∨ (s.drop k).all isL = false := by
     rw [← List.take_append_drop k s, List.all_append] at ha'
     cases h5 : (s.take k).all isE with
     | false => exact .inl rfl
     | true =>
      right
      rw [h5, Bool.true_and] at ha'
      rw [allL_iff, ha']
      rfl
    rcases e9 with e9 | e9 <;> rw [e9] <;> simp
  rw [← hbase]
  cases decide ((k : Int) > 0) <;> cases areaB (s.take k) <;> rfl
 ·intro hb
  have ha : s.all isE = true := by
   unfold baseB at hb
   simp only [Bool.and_eq_true] at hb
   exact hb.1.1.1
  rw [h3 fun b hb => isE_asc (List.all_eq_true.1 ha b hb)]
  exact ⟨rfl, rfl⟩
end
end Go.Proofs.YtlddakefmfcblaaGreatDoor
namespace Go.Proofs.YtlddakefmfcblaaGreatDoor
theorem iter_first {α ρ τ : Type} {body : Int → Option (Flow ρ Int)} {l : List α} (f : α → Option ρ) (hb : ∀ i (h : i < l.length), body (i : Int) = some ((f l[i]).elim (.next ((i + 1 : Nat) : Int)) .ret))
  (he : body (l.length : Int) = some (.done (l.length : Int))) {N : Nat} (hN : l.length < N) (fd : Int → Option τ) (fr : ρ → Option τ) : ((iter body N 0).bind fun o => o.k fr fd) = (l.findSome? f).elim (fd l.length) fr := by
 obtain ⟨o, ho, hR⟩ := iter_ex (body := body) l.length (fun i s => s = (i : Int) ∧ l.findSome? f = (l.drop i).findSome? f) (fun o => (l.findSome? f = none ∧ o = .done (l.length : Int)) ∨ ∃ r, l.findSome? f = some r ∧ o = .ret r) (by
  rintro i s hi ⟨rfl, hk⟩
  by_cases h : i < l.length
  ·rw [hb i h]
   rw [List.drop_eq_getElem_cons h, List.findSome?_cons] at hk
   cases e : f l[i] with
   | some r => rw [e] at hk; exact .inr ⟨_, rfl, (fun _ h => by cases h), .inr ⟨r, hk, rfl⟩⟩
   | none => rw [e] at hk; exact .inl ⟨_, rfl, ⟨rfl, hk⟩, h⟩
  ·have : i = l.length := by omega
   subst this
   rw [he]
   rw [List.drop_length] at hk
   exact .inr ⟨_, rfl, (fun _ h => by cases h), .inl ⟨hk, rfl⟩⟩) l.length N 0 0 (by omega) ⟨rfl, by rw [List.drop_zero]⟩ hN
 rw [ho]
 rcases hR with ⟨h1, rfl⟩ | ⟨r, h1, rfl⟩ <;> rw [h1] <;> rfl
theorem pcs_le (c : UInt8) : ∀ s p, p ∈ pcs c s → p.length ≤ s.length
 | [], p, h => by simp [pcs] at h; subst h; simp
 | b :: s, p, h => by
  have ih := pcs_le c s
  unfold pcs at h
  by_cases hb : b = c
  ·rw [if_pos hb] at h
   rcases List.mem_cons.1 h with rfl | h
   ·simp
   ·exact Nat.le_succ_of_le (ih p h)
  ·rw [if_neg hb] at h
   cases hp : pcs c s with
   | nil => exact absurd hp (pcs_ne c s)
   | cons q r =>
    rw [hp] at h ih
    simp only at h
    rcases List.mem_cons.1 h with rfl | h
    ·exact Nat.succ_le_succ (ih q List.mem_cons_self)
    ·exact Nat.le_succ_of_le (ih p (List.mem_cons_of_mem _ h))
def zp : Parts := { Area := [], Prefix := [], Suffix := [], Stroke := [] }
abbrev Tri := List UInt8 × List UInt8 × List UInt8
def words (ws : List (List UInt8)) : Option Tri := match ws with
 | [w] => if baseB w then some ([], w, []) else none
 | [a, b] => if areaB a && baseB b && decide (a.length < b.length) then some (a, b, []) else if baseB a && strokeB b then some ([], a, b) else none
 | [a, b, c] => if areaB a && baseB b && strokeB c then some (a, b, c) else none
 | _ => none
def callB (s : List UInt8) : Option Tri := if s.length ≤ 16 then words (pcs 47 s) else none
def partsOf (t : Tri) : Parts := { Area := t.1, Prefix := t.2.1.take (cutK t.2.1), Suffix := t.2.1.drop (cutK t.2.1), Stroke := t.2.2 }
def splitR (s : List UInt8) : Parts × Bool := match callB s with
 | some t => (partsOf t, true)
 | none => (zp, false)
section
variable {N : Nat}
theorem m_forms1 {w : List UInt8} (hs : w.length < 4611686018427387904) (hN : w.length < N) : ∃ x y, air_forms_1 N w = some ({ Area := [], Prefix := x, Suffix := y, Stroke := [] }, baseB w) ∧ (baseB w = true → x = w.take (cutK w) ∧ y = w.drop (cutK w)) := by
 obtain ⟨x, y, h1, h2⟩ := m_base hs hN
 exact ⟨x, y, by unfold air_forms_1; rw [h1]; rfl, h2⟩
theorem f2_abs {w : List UInt8} {z0 : List UInt8 → Option (Parts × Bool)} {p : Parts} {ok : Bool} (h1 : z0 w = some (p, ok)) : air_forms_2 N [w] z0 = some (p, ok) := by
 unfold air_forms_2
 have i0 : idx [w] 0 = some w := rfl
 simp only [i0, Option.bind_some, h1]
theorem f3_abs {a b : List UInt8} {z0 : List UInt8 → Option (Parts × Bool)} {x y u v : List UInt8} {A ok : Bool} (h1 : z0 b = some ({ Area := u, Prefix := x, Suffix := y, Stroke := v }, ok)) (h3 : air_area N a = some A) : air_forms_3 N [a, b] z0 = some ({ Area := a, Prefix := x, Suffix := y, Stroke := v }, ok && A && decide (a.length < b.length)) := by
 unfold air_forms_3
 have e : decide ((a.length : Int) < (b.length : Int)) = decide (a.length < b.length) := by rw [decide_eq_decide]; omega
 have i0 : idx [a, b] 0 = some a := rfl
 have i1 : idx [a, b] 1 = some b := rfl
 rw [i0, i1]
 simp only [Option.bind_some, h1, h3]
 clear h1 h3
 rw [e]
 generalize decide (a.length < b.length) = D
 cases ok <;> cases A <;> rfl
theorem f4_abs {a b : List UInt8} {z0 : List UInt8 → Option (Parts × Bool)} {x y u v : List UInt8} {A ok : Bool} (h1 : z0 a = some ({ Area := u, Prefix := x, Suffix := y, Stroke := v }, ok)) (h3 : air_stroke N b = some A) : air_forms_4 N [a, b] z0 = some ({ Area := u, Prefix := x, Suffix := y, Stroke := b }, ok && A) := by
 unfold air_forms_4
 have i0 : idx [a, b] 0 = some a := rfl
 have i1 : idx [a, b] 1 = some b := rfl
 rw [i0, i1]
 simp only [Option.bind_some, h1, h3]
 clear h1 h3
 cases ok <;> cases A <;> rfl
theorem f5_abs {a b c : List UInt8} {z0 : List UInt8 → Option (Parts × Bool)} {x y u v : List UInt8} {A B ok : Bool} (h1 : z0 b = some ({ Area := u, Prefix := x, Suffix := y, Stroke := v }, ok)) (h3 : air_area N a = some A) (h4 : air_stroke N c = some B) : air_forms_5 N [a, b, c] z0 = some ({ Area := a, Prefix := x, Suffix := y, Stroke := c }, ok && A && B) := by
 unfold air_forms_5
 have i0 : idx [a, b, c] 0 = some a := rfl
 have i1 : idx [a, b, c] 1 = some b := rfl
 have i2 : idx [a, b, c] 2 = some c := rfl
 rw [i0, i1, i2]
 simp only [Option.bind_some, h1, h3, h4]
 clear h1 h3 h4
 cases ok <;> cases A <;> cases B <;> rfl
theorem m_form2 {w : List UInt8} (hs : w.length ≤ 16) (hN : 16 < N) : ∃ x y, air_forms_2 N [w] (fun y0 => air_forms_1 N y0) = some ({ Area := [], Prefix := x, Suffix := y, Stroke := [] }, baseB w) ∧ (baseB w = true → x = w.take (cutK w) ∧ y = w.drop (cutK w)) := by
 obtain ⟨x, y, h1, h2⟩ := m_forms1 (w := w) (N := N) (by omega) (by omega)
 exact ⟨x, y, f2_abs (z0 := fun y0 => air_forms_1 N y0) h1, h2⟩
theorem m_form3 {a b : List UInt8} (ha : a.length ≤ 16) (hb : b.length ≤ 16) (hN : 16 < N) : ∃ x y, air_forms_3 N [a, b] (fun y0 => air_forms_1 N y0) = some ({ Area := a, Prefix := x, Suffix := y, Stroke := [] }, baseB b && areaB a && decide (a.length < b.length)) ∧ (baseB b = true → x = b.take (cutK b) ∧ y = b.drop (cutK b)) := by
 obtain ⟨x, y, h1, h2⟩ := m_forms1 (w := b) (N := N) (by omega) (by omega)
 exact ⟨x, y, f3_abs (z0 := fun y0 => air_forms_1 N y0) h1 (m_area (N := N) (s := a) (by omega) (by omega)), h2⟩
theorem m_form4 {a b : List UInt8} (ha : a.length ≤ 16) (hb : b.length ≤ 16) (hN : 16 < N) : ∃ x y, air_forms_4 N [a, b] (fun y0 => air_forms_1 N y0) = some ({ Area := [], Prefix := x, Suffix := y, Stroke := b }, baseB a && strokeB b) ∧ (baseB a = true → x = a.take (cutK a) ∧ y = a.drop (cutK a)) := by
 obtain ⟨x, y, h1, h2⟩ := m_forms1 (w := a) (N := N) (by omega) (by omega)
 exact ⟨x, y, f4_abs (z0 := fun y0 => air_forms_1 N y0) h1 (m_stroke (N := N) (s := b) (by omega) (by omega)), h2⟩
theorem m_form5 {a b c : List UInt8} (ha : a.length ≤ 16) (hb : b.length ≤ 16) (hc : c.length ≤ 16) (hN : 16 < N) : ∃ x y, air_forms_5 N [a, b, c] (fun y0 => air_forms_1 N y0) = some ({ Area := a, Prefix := x, Suffix := y, Stroke := c }, baseB b && areaB a && strokeB c) ∧ (baseB b = true → x = b.take (cutK b) ∧ y = b.drop (cutK b)) := by
 obtain ⟨x, y, h1, h2⟩ := m_forms1 (w := b) (N := N) (by omega) (by omega)
 exact ⟨x, y, f5_abs (z0 := fun y0 => air_forms_1 N y0) h1 (m_area (N := N) (s := a) (by omega) (by omega)) (m_stroke (N := N) (s := c) (by omega) (by omega)), h2⟩
def tryF (ws : List (List UInt8)) (fm : air_form) : Option (Parts × Bool) := if fm.words_ = (ws.length : Int) then match fm.split_ ws with
 | some (p, true) => some (p, true)
 | _ => none
 else none
theorem split_walk {s : List UInt8} {ws : List (List UInt8)} (hle : ∀ w, w ∈ ws → w.length ≤ 16) (hN : 4 < N) (f2 f3 f4 f5 : List (List UInt8) → Option (Parts × Bool))
  (H2 : ∀ w : List UInt8, w.length ≤ 16 → ∃ x y, f2 [w] = some ({ Area := [], Prefix := x, Suffix := y, Stroke := [] }, baseB w) ∧ (baseB w = true → x = w.take (cutK w) ∧ y = w.drop (cutK w)))
  (H3 : ∀ a b : List UInt8, a.length ≤ 16 → b.length ≤ 16 → ∃ x y, f3 [a, b] = some ({ Area := a, Prefix := x, Suffix := y, Stroke := [] }, baseB b && areaB a && decide (a.length < b.length)) ∧ (baseB b = true → x = b.take (cutK b) ∧ y = b.drop (cutK b)))
  (H4 : ∀ a b : List UInt8, a.length ≤ 16 → b.length ≤ 16 → ∃ x y, f4 [a, b] = some ({ Area := [], Prefix := x, Suffix := y, Stroke := b }, baseB a && strokeB b) ∧ (baseB a = true → x = a.take (cutK a) ∧ y = a.drop (cutK a)))
  (H5 : ∀ a b c : List UInt8, a.length ≤ 16 → b.length ≤ 16 → c.length ≤ 16 → ∃ x y, f5 [a, b, c] = some ({ Area := a, Prefix := x, Suffix := y, Stroke := c }, baseB b && areaB a && strokeB c) ∧ (baseB b = true → x = b.take (cutK b) ∧ y = b.drop (cutK b))) :
  ((iter (air_split_L0 N s ws [({ words_ := 1, split_ := f2 } : air_form), { words_ := 2, split_ := f3 }, { words_ := 2, split_ := f4 }, { words_ := 3, split_ := f5 }]) N 0).bind fun o => o.k (fun r => some r) (fun _ => some (zp, false))) = some (match words ws with | some t => (partsOf t, true) | none => (zp, false)) := by
 generalize hF : ([_, _, _, _] : List air_form) = F
 have htot : ∀ fm, fm ∈ F → fm.words_ = (ws.length : Int) → ∃ r, fm.split_ ws = some r := by
  subst hF
  intro fm hfm hw
  simp only [List.mem_cons, List.not_mem_nil, or_false] at hfm
  rcases hfm with rfl | rfl | rfl | rfl <;> simp only at hw ⊢
  ·match ws, hw with
   | [w], _ => obtain ⟨_, _, h, _⟩ := H2 w (hle w (by simp)); exact ⟨_, h⟩
  ·match ws, hw with
   | [a, b], _ => obtain ⟨_, _, h, _⟩ := H3 a b (hle a (by simp)) (hle b (by simp)); exact ⟨_, h⟩
  ·match ws, hw with
   | [a, b], _ => obtain ⟨_, _, h, _⟩ := H4 a b (hle a (by simp)) (hle b (by simp)); exact ⟨_, h⟩
  ·match ws, hw with
   | [a, b, c], _ => obtain ⟨_, _, h, _⟩ := H5 a b c (hle a (by simp)) (hle b (by simp)) (hle c (by simp)); exact ⟨_, h⟩
 have hlen : F.length = 4 := by subst hF; rfl
 have hb : ∀ i (h : i < F.length), air_split_L0 N s ws F (i : Int) = some ((tryF ws F[i]).elim (.next ((i + 1 : Nat) : Int)) .ret) := by
  intro i h
  unfold air_split_L0
  have hi : idx F (i : Int) = some F[i] := by unfold idx; rw [if_pos (by omega)]; simp [h]
  rw [lt_dec h, cond_true, hi, Option.bind_some, w64s i (by omega)]
  have htt := htot _ (List.getElem_mem h)
  generalize F[i] = fm at htt
  unfold tryF
  by_cases hw : fm.words_ = (ws.length : Int)
  ·obtain ⟨⟨p, ok⟩, hr⟩ := htt hw
   rw [if_pos hw, show (fm.words_ != (ws.length : Int)) = false by simp [hw], cond_false, hr]
   cases ok <;> rfl
  ·rw [if_neg hw, show (fm.words_ != (ws.length : Int)) = true by simp [hw], cond_true]
   rfl
 have he : air_split_L0 N s ws F (F.length : Int) = some (.done (F.length : Int)) := by
  unfold air_split_L0
  rw [lt_dec', cond_false]
 rw [iter_first (l := F) (tryF ws) hb he (by omega)]
 subst hF
 match ws, hle with
 | [], _ => rfl
 | [w], hle =>
  obtain ⟨x, y, h1, h2⟩ := H2 w (hle w (by simp))
  unfold words
  have e : (([w] : List (List UInt8)).length : Int) = 1 := rfl
  simp only [List.findSome?_cons, List.findSome?_nil, tryF, e, h1]
  cases hB : baseB w with
  | false => rfl
  | true => obtain ⟨rfl, rfl⟩ := h2 hB; rfl
 | [a, b], hle =>
  have ha := hle a (by simp)
  have hb := hle b (by simp)
  obtain ⟨x, y, h1, h2⟩ := H3 a b ha hb
  obtain ⟨x', y', h3, h4⟩ := H4 a b ha hb
  unfold words
  have e : (([a, b] : List (List UInt8)).length : Int) = 2 := rfl
  simp only [List.findSome?_cons, List.findSome?_nil, tryF, e, h1, h3]
  clear h1 h3 H2 H3 H4 H5 htot hlen hb he
  generalize decide (a.length < b.length) = D
  generalize areaB a = A
  generalize strokeB b = S
  cases hB : baseB b with
  | false =>
   cases hA : baseB a with
   | false => cases A <;> cases D <;> rfl
   | true =>
    obtain ⟨rfl, rfl⟩ := h4 hA
    cases A <;> cases D <;> cases S <;> rfl
  | true =>
   obtain ⟨rfl, rfl⟩ := h2 hB
   cases hA : baseB a with
   | false => cases A <;> cases D <;> rfl
   | true =>
    obtain ⟨rfl, rfl⟩ := h4 hA
    cases A <;> cases D <;> cases S <;> rfl
 | [a, b, c], hle =>
  have ha := hle a (by simp)
  have hb := hle b (by simp)
  have hc := hle c (by simp)
  obtain ⟨x, y, h1, h2⟩ := H5 a b c ha hb hc
  unfold words
  have e : (([a, b, c] : List (List UInt8)).length : Int) = 3 := rfl
  simp only [List.findSome?_cons, List.findSome?_nil, tryF, e, h1]
  clear h1 H2 H3 H4 H5 htot hlen hb he
  generalize areaB a = A
  generalize strokeB c = S
  cases hB : baseB b with
  | false => cases A <;> cases S <;> rfl
  | true =>
   obtain ⟨rfl, rfl⟩ := h2 hB
   cases A <;> cases S <;> rfl
 | a :: b :: c :: d :: t, _ =>
  unfold words
  have e : ∀ k : Int, k ≤ 3 → ¬ k = ((a :: b :: c :: d :: t).length : Int) := by intro k hk; simp only [List.length_cons]; omega
  simp only [List.findSome?_cons, List.findSome?_nil, tryF, if_neg (e 1 (by decide)), if_neg (e 2 (by decide)), if_neg (e 3 (by decide))]
  rfl
theorem m_split (s : List UInt8) (hN : 4294967300 < N) : air_split N s = some (splitR s) := by
 unfold air_split splitR callB
 by_cases hl : s.length ≤ 16
 ·rw [decide_eq_false (by omega), cond_false, if_pos hl, m_Split 47 (by omega), Option.bind_some]
  have hle := pcs_le 47 s
  generalize pcs 47 s = ws at hle
  unfold air_forms
  rw [Option.bind_some]
  exact split_walk (fun w h => Nat.le_trans (hle w h) hl) (by omega) _ _ _ _ (fun w h => m_form2 h (by omega)) (fun a b h h' => m_form3 h h' (by omega)) (fun a b h h' => m_form4 h h' (by omega)) (fun a b c h h' h'' => m_form5 h h' h'' (by omega))
 ·rw [decide_eq_true (by omega), cond_true, if_neg hl]
  rfl
def triR (s : List UInt8) : List UInt8 × List UInt8 × List UInt8 × Bool := match callB s with
 | some t => (t.1, t.2.1, t.2.2, true)
 | none => ([], [], [], false)
theorem m_rparts (s : List UInt8) (hN : 4294967300 < N) : ref01_parts N s = some (triR s) := by
 unfold ref01_parts triR callB
 by_cases hl : s.length ≤ 16
 ·rw [decide_eq_false (by omega), cond_false, if_pos hl, m_rpieces s (by omega) (by omega), Option.bind_some]
  have hle := pcs_le 47 s
  generalize pcs 47 s = ws at hle
  match ws, hle with
  | [], _ => rfl
  | [w], hle =>
   have hw := hle w (by simp)
   have h1 := m_rbase (N := N) (s := w) (by omega) (by omega)
   simp only [show ((([w] : List (List UInt8)).length : Int) == 1) = true from rfl, show ((([w] : List (List UInt8)).length : Int) == 2) = false from rfl, show ((([w] : List (List UInt8)).length : Int) == 3) = false from rfl, cond_true, cond_false, show idx [w] 0 = some w from rfl, Option.bind_some, h1, words]
   cases baseB w <;> rfl
  | [a, b], hle =>
   have ha := hle a (by simp)
   have hb := hle b (by simp)
   have h1 := m_rbase (N := N) (s := a) (by omega) (by omega)
   have h2 := m_rbase (N := N) (s := b) (by omega) (by omega)
   have h3 := m_rarea (N := N) (s := a) (by omega) (by omega)
   have h4 := m_rstroke (N := N) (s := b) (by omega) (by omega)
   have e : decide ((a.length : Int) < (b.length : Int)) = decide (a.length < b.length) := by rw [decide_eq_decide]; omega
   simp only [show ((([a, b] : List (List UInt8)).length : Int) == 1) = false from rfl, show ((([a, b] : List (List UInt8)).length : Int) == 2) = true from rfl, show ((([a, b] : List (List UInt8)).length : Int) == 3) = false from rfl, cond_true, cond_false, show idx [a, b] 0 = some a from rfl, show idx [a, b] 1 = some b from rfl, Option.bind_some, h1, h2, h3, h4, e, words]
   cases areaB a <;> cases baseB b <;> cases decide (a.length < b.length) <;> cases baseB a <;> cases strokeB b <;> rfl
  | [a, b, c], hle =>
   have ha := hle a (by simp)
   have hb := hle b (by simp)
   have hc := hle c (by simp)
   have h2 := m_rbase (N := N) (s := b) (by omega) (by omega)
   have h3 := m_rarea (N := N) (s := a) (by omega) (by omega)
   have h4 := m_rstroke (N := N) (s := c) (by omega) (by omega)
   simp only [show ((([a, b, c] : List (List UInt8)).length : Int) == 1) = false from rfl, show ((([a, b, c] : List (List UInt8)).length : Int) == 2) = false from rfl, show ((([a, b, c] : List (List UInt8)).length : Int) == 3) = true from rfl, cond_true, cond_false, show idx [a, b, c] 0 = some a from rfl, show idx [a, b, c] 1 = some b from rfl, show idx [a, b, c] 2 = some c from rfl, Option.bind_some, h2, h3, h4, words]
   cases areaB a <;> cases baseB b <;> cases strokeB c <;> rfl
  | a :: b :: c :: d :: t, _ =>
   have e : ∀ k : Int, k ≤ 3 → (((a :: b :: c :: d :: t).length : Int) == k) = false := by intro k hk; rw [beq_eq_false_iff_ne]; simp; omega
   simp only [e 1 (by decide), e 2 (by decide), e 3 (by decide), cond_false, Option.bind_some, words]
 ·rw [decide_eq_true (by omega), cond_true, if_neg hl]
end
end Go.Proofs.YtlddakefmfcblaaGreatDoor
namespace Go.Proofs.YtlddakefmfcblaaGreatDoor
theorem baseB_len {s : List UInt8} (h : baseB s = true) : 1 ≤ cutK s ∧ cutK s ≤ 4 ∧ cutK s < s.length ∧ s.length ≤ 8 := by
 unfold baseB wiB at h
 simp only [Bool.and_eq_true, decide_eq_true_eq] at h
 omega
theorem areaB_len {s : List UInt8} (h : areaB s = true) : 1 ≤ s.length ∧ s.length ≤ 4 := by
 unfold areaB wiB at h
 simp only [Bool.and_eq_true, decide_eq_true_eq] at h
 omega
theorem strokeB_len {s : List UInt8} (h : strokeB s = true) : 1 ≤ s.length ∧ s.length ≤ 4 := by
 unfold strokeB wiB at h
 simp only [Bool.and_eq_true, Bool.or_eq_true, decide_eq_true_eq] at h
 omega
theorem ssub0 {a : List UInt8} {hi : Nat} (h : hi ≤ a.length) : ssub a 0 (hi : Int) = some (a.take hi) := by
 have := ssub_nat (a := a) (lo := 0) (hi := hi) (by omega) h
 simpa using this
def joinT (t : Tri) : List UInt8 := (if t.1 = [] then t.2.1 else t.1 ++ 47 :: t.2.1) ++ (if t.2.2 = [] then [] else 47 :: t.2.2)
def okT (t : Tri) : Bool := (decide (t.1 = []) || areaB t.1) && baseB t.2.1 && (decide (t.2.2 = []) || strokeB t.2.2) && (decide (t.1 = []) || !decide (t.2.2 = []) || decide (t.1.length < t.2.1.length)) && decide ((joinT t).length ≤ 16)
theorem areaB_ne {s : List UInt8} (h : areaB s = true) : s ≠ [] := by
 rintro rfl; have := areaB_len h; simp at this
theorem strokeB_ne {s : List UInt8} (h : strokeB s = true) : s ≠ [] := by
 rintro rfl; have := strokeB_len h; simp at this
theorem words1 (w : List UInt8) : words [w] = if baseB w then some ([], w, []) else none := rfl
theorem words2 (a b : List UInt8) : words [a, b] = if (areaB a && baseB b && decide (a.length < b.length)) = true then some (a, b, []) else if (baseB a && strokeB b) = true then some ([], a, b) else none := rfl
theorem words3 (a b c : List UInt8) : words [a, b, c] = if (areaB a && baseB b && strokeB c) = true then some (a, b, c) else none := rfl
theorem callB_some {s : List UInt8} {t : Tri} (h : callB s = some t) : okT t = true ∧ s = joinT t := by
 unfold callB at h
 by_cases hl : s.length ≤ 16
 ·rw [if_pos hl] at h
  have hj := pcs_join 47 s
  suffices hh : s = joinT t ∧ ((decide (t.1 = []) || areaB t.1) && baseB t.2.1 && (decide (t.2.2 = []) || strokeB t.2.2) && (decide (t.1 = []) || !decide (t.2.2 = []) || decide (t.1.length < t.2.1.length))) = true by
   refine ⟨?_, hh.1⟩
   unfold okT
   rw [hh.2, ← hh.1, decide_eq_true hl]; rfl
  revert h hj
  generalize pcs 47 s = ws
  intro h hj
  match ws, h, hj with
  | [w], h, hj =>
   rw [words1] at h
   cases hb : baseB w with
   | false => rw [hb] at h; simp at h
   | true =>
    rw [hb] at h
    simp at h
    subst h
    have : w = s := by simpa [List.intercalate] using hj
    exact ⟨by simp [joinT, this], by simp [hb]⟩
  | [a, b], h, hj =>
   have hj' : a ++ 47 :: b = s := by simpa [List.intercalate] using hj
   rw [words2] at h
   by_cases h1 : (areaB a && baseB b && decide (a.length < b.length)) = true
   ·rw [if_pos h1] at h
    simp at h
    subst h
    simp only [Bool.and_eq_true, decide_eq_true_eq] at h1
    exact ⟨by simp [joinT, hj', areaB_ne h1.1.1], by simp [h1]⟩
   ·rw [if_neg h1] at h
    by_cases h2 : (baseB a && strokeB b) = true
    ·rw [if_pos h2] at h
     simp at h
     subst h
     simp only [Bool.and_eq_true] at h2
     exact ⟨by simp [joinT, hj', strokeB_ne h2.2], by simp [h2]⟩
    ·rw [if_neg h2] at h; cases h
  | [a, b, c], h, hj =>
   have hj' : a ++ 47 :: (b ++ 47 :: c) = s := by simpa [List.intercalate] using hj
   rw [words3] at h
   by_cases h1 : (areaB a && baseB b && strokeB c) = true
   ·rw [if_pos h1] at h
    simp at h
    subst h
    simp only [Bool.and_eq_true] at h1
    refine ⟨?_, ?_⟩
    ·rw [← hj']; simp [joinT, areaB_ne h1.1.1, strokeB_ne h1.2]
    ·simp [h1, strokeB_ne h1.2]
   ·rw [if_neg h1] at h; cases h
  | [], h, _ => cases h
  | _ :: _ :: _ :: _ :: _, h, _ => cases h
 ·rw [if_neg hl] at h; cases h
def splitS (s : List UInt8) : Parts × Int := match callB s with
 | some t => (partsOf t, 0)
 | none => (zp, 10)
def validS (s : List UInt8) : Bool := (callB s).isSome
def triP (p : Parts) : Tri := (p.Area, p.Prefix ++ p.Suffix, p.Stroke)
def joinS (p : Parts) : List UInt8 × Int := match callB (joinT (triP p)) with
 | some t => if partsOf t = p then (joinT (triP p), 0) else ([], 10)
 | none => ([], 10)
def baseS (s : List UInt8) : List UInt8 × Int := match callB s with
 | some t => (t.2.1, 0)
 | none => ([], 10)
def sameS (s u : List UInt8) : Bool × Int := match callB s, callB u with
 | some t, some v => (t.2.1 == v.2.1, 0)
 | _, _ => (false, 10)
def lastD (l : List UInt8) : Bool := (l[l.length - 1]?.map isD).getD false
def prefS (t : Tri) : List UInt8 := if t.1 = [] then (if (t.2.2.length == 1 && t.2.2.all isD) = true then (t.2.1.take (cutK t.2.1)).take (cutK t.2.1 - 1) ++ t.2.2 else t.2.1.take (cutK t.2.1)) else if lastD t.1 = true then t.1 else t.1 ++ [48]
def prefixS (s : List UInt8) : List UInt8 × Int := match callB s with
 | some t => (prefS t, 0)
 | none => ([], 10)
theorem ok_len {t : Tri} (h : okT t = true) : t.1.length ≤ 4 ∧ t.2.1.length ≤ 8 ∧ t.2.2.length ≤ 4 ∧ 1 ≤ cutK t.2.1 ∧ cutK t.2.1 ≤ 4 ∧ cutK t.2.1 < t.2.1.length := by
 unfold okT at h
 simp only [Bool.and_eq_true, Bool.or_eq_true, Bool.not_eq_true', decide_eq_true_eq, decide_eq_false_iff_not] at h
 obtain ⟨⟨⟨⟨h1, h2⟩, h3⟩, h4⟩, h5⟩ := h
 have hb := baseB_len h2
 refine ⟨?_, hb.2.2.2, ?_, hb.1, hb.2.1, hb.2.2.1⟩
 ·rcases h1 with h1 | h1
  ·rw [h1]; simp
  ·exact (areaB_len h1).2
 ·rcases h3 with h1 | h1
  ·rw [h1]; simp
  ·exact (strokeB_len h1).2
theorem ps_app (t : Tri) : (partsOf t).Prefix ++ (partsOf t).Suffix = t.2.1 := List.take_append_drop _ _
section
variable {N : Nat}
theorem s_Split (s : List UInt8) (hN : 4294967300 < N) : air_Split N s = some (splitS s) := by
 unfold air_Split splitS
 rw [m_split s hN, Option.bind_some]
 unfold splitR
 cases callB s <;> rfl
theorem s_rSplit (s : List UInt8) (hN : 4294967300 < N) : ref01_Split N s = some (splitS s) := by
 unfold ref01_Split splitS
 rw [m_rparts s hN, Option.bind_some]
 unfold triR
 cases h : callB s with
 | none => rfl
 | some t =>
  have hl := ok_len (callB_some h).1
  simp only [Bool.not_true, cond_false]
  rw [m_cut (by omega) (by omega), Option.bind_some]
  rw [ssub0 (by omega), Option.bind_some, ssub_nat (by omega) (by omega)]
  simp [partsOf, List.take_of_length_le]
theorem s_Valid (s : List UInt8) (hN : 4294967300 < N) : air_ValidCall N s = some (validS s) := by
 unfold air_ValidCall validS
 rw [m_split s hN, Option.bind_some]
 unfold splitR
 cases callB s <;> rfl
theorem s_rValid (s : List UInt8) (hN : 4294967300 < N) : ref01_ValidCall N s = some (validS s) := by
 unfold ref01_ValidCall validS
 rw [m_rparts s hN, Option.bind_some]
 unfold triR
 cases callB s <;> rfl
theorem s_Base (s : List UInt8) (hN : 4294967300 < N) : air_Base N s = some (baseS s) := by
 unfold air_Base baseS
 rw [s_Split s hN, Option.bind_some]
 unfold splitS
 cases h : callB s with
 | none => rfl
 | some t =>
  have hl := ok_len (callB_some h).1
  have : (partsOf t).Prefix.length + (partsOf t).Suffix.length = t.2.1.length := by rw [← List.length_append, ps_app]
  simp only
  rw [sadd_some (by omega), ps_app]; rfl
theorem s_rBase (s : List UInt8) (hN : 4294967300 < N) : ref01_Base N s = some (baseS s) := by
 rw [← s_Base s hN]
 unfold ref01_Base air_Base
 rw [s_Split s hN, s_rSplit s hN]
theorem s_Same (s u : List UInt8) (hN : 4294967300 < N) : air_Same N s u = some (sameS s u) := by
 unfold air_Same sameS
 rw [s_Base s hN, s_Base u hN, Option.bind_some, Option.bind_some]
 unfold baseS
 cases callB s <;> cases callB u <;> rfl
theorem s_rSame (s u : List UInt8) (hN : 4294967300 < N) : ref01_Same N s u = some (sameS s u) := by
 rw [← s_Same s u hN]
 unfold ref01_Same air_Same
 rw [s_Base s hN, s_Base u hN, s_rBase s hN, s_rBase u hN]
def peq (p q : Parts) : Bool := (p.Area == q.Area) && ((p.Prefix == q.Prefix) && ((p.Suffix == q.Suffix) && ((p.Stroke == q.Stroke) && true)))
theorem peq_dec (p q : Parts) : peq p q = decide (p = q) := by
 obtain ⟨a, b, c, d⟩ := p
 obtain ⟨a', b', c', d'⟩ := q
 unfold peq
 rw [Bool.eq_iff_iff]
 simp
theorem ne_dec (s : List UInt8) : (s != []) = !decide (s = []) := by
 cases s <;> rfl
theorem join_len (t : Tri) : (joinT t).length ≤ t.1.length + t.2.1.length + t.2.2.length + 2 ∧ t.1.length ≤ (joinT t).length ∧ t.2.1.length ≤ (joinT t).length ∧ t.2.2.length ≤ (joinT t).length := by
 obtain ⟨a, b, c⟩ := t
 unfold joinT
 by_cases ha : a = [] <;> by_cases hc : c = [] <;> simp [ha, hc] <;> omega
def shortP (p : Parts) : Prop := p.Area.length ≤ 1000000000 ∧ p.Prefix.length ≤ 1000000000 ∧ p.Suffix.length ≤ 1000000000 ∧ p.Stroke.length ≤ 1000000000
theorem s_Join (p : Parts) (hp : shortP p) (hN : 4294967300 < N) : air_Join N p = some (joinS p) := by
 obtain ⟨A, P, S, K⟩ := p
 obtain ⟨h1, h2, h3, h4⟩ := hp
 simp only at h1 h2 h3 h4
 unfold air_Join
 simp only
 rw [sadd_some (by omega), Option.bind_some, ne_dec, ne_dec]
 have e : ((bif !decide (A = []) then ((sadd A ([47] : List UInt8)).bind fun r18 => ((sadd r18 (P ++ S)).bind fun r21 => some r21)) else some (P ++ S)).bind fun j10 => ((bif !decide (K = []) then ((sadd ([47] : List UInt8) K).bind fun r36 => ((sadd j10 r36).bind fun r39 => some r39)) else some j10))) = some (joinT (A, P ++ S, K)) := by
  unfold joinT
  by_cases ha : A = []
  ·rw [decide_eq_true ha, Bool.not_true, cond_false, Option.bind_some]
   by_cases hk : K = []
   ·simp [hk, ha]
   ·rw [decide_eq_false hk, Bool.not_false, cond_true, sadd_some (by simp; omega), Option.bind_some, sadd_some (by simp; omega)]
    simp [ha, hk]
  ·rw [decide_eq_false ha, Bool.not_false, cond_true, sadd_some (by simp; omega), Option.bind_some, sadd_some (by simp; omega), Option.bind_some, Option.bind_some]
   by_cases hk : K = []
   ·simp [hk, ha]
   ·rw [decide_eq_false hk, Bool.not_false, cond_true, sadd_some (by simp; omega), Option.bind_some, sadd_some (by simp; omega)]
    simp [ha, hk]
 rw [← Option.bind_assoc, e, Option.bind_some, m_split _ hN, Option.bind_some]
 unfold joinS splitR triP
 simp only
 cases hc : callB (joinT (A, P ++ S, K)) with
 | none => rfl
 | some t =>
  simp only [Bool.not_true, Bool.false_or]
  have := peq_dec (partsOf t) { Area := A, Prefix := P, Suffix := S, Stroke := K }
  unfold peq at this
  rw [this]
  by_cases hh : partsOf t = { Area := A, Prefix := P, Suffix := S, Stroke := K }
  ·rw [decide_eq_true hh, if_pos hh]; rfl
  ·rw [decide_eq_false hh, if_neg hh]; rfl
theorem s_rJoin (p : Parts) (hp : shortP p) (hN : 4294967300 < N) : ref01_Join N p = some (joinS p) := by
 obtain ⟨A, P, S, K⟩ := p
 obtain ⟨h1, h2, h3, h4⟩ := hp
 simp only at h1 h2 h3 h4
 unfold ref01_Join
 simp only
 by_cases hb : A.length ≤ 16 ∧ P.length ≤ 16 ∧ S.length ≤ 16 ∧ K.length ≤ 16
 ·rw [decide_eq_false (by omega), decide_eq_false (by omega), decide_eq_false (by omega), decide_eq_false (by omega), Bool.or_false, Bool.or_false, Bool.or_false, cond_false]
  rw [sadd_some (by omega), Option.bind_some, ne_dec, ne_dec]
  have e : ((bif !decide (A = []) then ((sadd A ([47] : List UInt8)).bind fun r18 => ((sadd r18 (P ++ S)).bind fun r21 => some r21)) else some (P ++ S)).bind fun j10 => ((bif !decide (K = []) then ((sadd j10 ([47] : List UInt8)).bind fun r36 => ((sadd r36 K).bind fun r39 => some r39)) else some j10))) = some (joinT (A, P ++ S, K)) := by
   unfold joinT
   by_cases ha : A = []
   ·rw [decide_eq_true ha, Bool.not_true, cond_false, Option.bind_some]
    by_cases hk : K = []
    ·simp [hk, ha]
    ·rw [decide_eq_false hk, Bool.not_false, cond_true, sadd_some (by simp; omega), Option.bind_some, sadd_some (by simp; omega)]
     simp [ha, hk]
   ·rw [decide_eq_false ha, Bool.not_false, cond_true, sadd_some (by simp; omega), Option.bind_some, sadd_some (by simp; omega), Option.bind_some, Option.bind_some]
    by_cases hk : K = []
    ·simp [hk, ha]
    ·rw [decide_eq_false hk, Bool.not_false, cond_true, sadd_some (by simp; omega), Option.bind_some, sadd_some (by simp; omega)]
     simp [ha, hk]
  rw [← Option.bind_assoc, e, Option.bind_some, s_rSplit _ hN, Option.bind_some]
  unfold joinS splitS triP
  simp only
  cases hc : callB (joinT (A, P ++ S, K)) with
  | none => rfl
  | some t =>
   simp only
   have := peq_dec (partsOf t) { Area := A, Prefix := P, Suffix := S, Stroke := K }
   unfold peq at this
   rw [this]
   by_cases hh : partsOf t = { Area := A, Prefix := P, Suffix := S, Stroke := K }
   ·rw [decide_eq_true hh, if_pos hh]; rfl
   ·rw [decide_eq_false hh, if_neg hh]; rfl
 ·have hl : ¬ (joinT (A, P ++ S, K)).length ≤ 16 := by
   have := join_len (A, P ++ S, K)
   simp only [List.length_append] at this
   omega
  have hg : ((decide ((A.length : Int) > 16)) || ((decide ((P.length : Int) > 16)) || ((decide ((S.length : Int) > 16)) || (decide ((K.length : Int) > 16))))) = true := by
   simp only [Bool.or_eq_true, decide_eq_true_eq]
   omega
  rw [hg, cond_true]
  unfold joinS callB triP
  rw [if_neg hl]
theorem i32wrap (b : UInt8) : IntKind.i32.wrap (b.toNat : Int) = (b.toNat : Int) := by
 have := b.toNat_lt
 unfold IntKind.wrap
 simp [IntKind.bits, IntKind.signed]
 omega
theorem sidx_last {a : List UInt8} (h : a ≠ []) (hl : a.length < 4611686018427387904) : ∃ b, sidx a (W64 ((a.length : Int) - 1)) = some (b.toNat : Int) ∧ lastD a = isD b := by
 have hp : 0 < a.length := List.length_pos_iff.2 h
 rw [W64_id (by omega) (by omega), show (a.length : Int) - 1 = ((a.length - 1 : Nat) : Int) by omega, sidx_nat (by omega)]
 refine ⟨_, rfl, ?_⟩
 unfold lastD
 rw [List.getElem?_eq_getElem (by omega)]; rfl
theorem s_PrefixOf (s : List UInt8) (hN : 4294967300 < N) : air_PrefixOf N s = some (prefixS s) := by
 unfold air_PrefixOf prefixS
 rw [s_Split s hN, Option.bind_some]
 unfold splitS
 cases h : callB s with
 | none => rfl
 | some t =>
  have hl := ok_len (callB_some h).1
  have e0 : ((0 : Int) != 0) = false := rfl
  simp only
  rw [e0, cond_false, ne_dec]
  unfold prefS
  have eA : (partsOf t).Area = t.1 := rfl
  have eK : (partsOf t).Stroke = t.2.2 := rfl
  have eP : (partsOf t).Prefix = t.2.1.take (cutK t.2.1) := rfl
  rw [eA, eK, eP]
  by_cases ha : t.1 = []
  ·rw [decide_eq_true ha, Bool.not_true, cond_false, cond_false, Option.bind_some, cond_false, if_pos ha]
   rw [only_spec (predD N) _ 1 (by omega), Option.bind_some, w11]
   have e1 : (t.2.2.all isD && wiB t.2.2.length 1 1) = (t.2.2.length == 1 && t.2.2.all isD) := by
    rw [Bool.and_comm]
    congr 1
    unfold wiB
    rw [Bool.eq_iff_iff]
    simp
    omega
   rw [e1]
   cases hk : (t.2.2.length == 1 && t.2.2.all isD) with
   | false => rfl
   | true =>
    rw [cond_true, if_pos rfl]
    have e2 : (t.2.1.take (cutK t.2.1)).length = cutK t.2.1 := by rw [List.length_take]; omega
    rw [e2, W64_id (by omega) (by omega), show ((cutK t.2.1 : Nat) : Int) - 1 = ((cutK t.2.1 - 1 : Nat) : Int) by omega]
    rw [ssub0 (by omega), Option.bind_some, sadd_some (by simp; omega)]
    rfl
  ·rw [decide_eq_false ha, Bool.not_false, cond_true, if_neg ha]
   obtain ⟨b, h1, h2⟩ := sidx_last ha (by omega)
   rw [h1, Option.bind_some, i32wrap, m_digit, Option.bind_some, Option.bind_some, h2]
   cases isD b with
   | true => rfl
   | false =>
    rw [cond_false, cond_true, sadd_some (by simp; omega)]
    rfl
theorem s_rPrefixOf (s : List UInt8) (hN : 4294967300 < N) : ref01_PrefixOf N s = some (prefixS s) := by
 rw [← s_PrefixOf s hN]
 unfold ref01_PrefixOf air_PrefixOf
 rw [s_rSplit s hN, s_Split s hN, Option.bind_some, Option.bind_some]
 unfold splitS
 cases h : callB s with
 | none => rfl
 | some t =>
  have hl := ok_len (callB_some h).1
  have e0 : ((0 : Int) != 0) = false := rfl
  simp only
  rw [e0, cond_false, cond_false, ne_dec]
  have eA : (partsOf t).Area = t.1 := rfl
  have eK : (partsOf t).Stroke = t.2.2 := rfl
  rw [eA, eK]
  by_cases ha : t.1 = []
  ·rw [decide_eq_true ha, Bool.not_true]
   simp only [cond_false, Option.bind_some]
   rw [only_spec (predD N) _ 1 (by omega), Option.bind_some, w11]
   have e1 : ((bif ((t.2.2.length : Int) == 1) then ((sidx t.2.2 0).bind fun c60 => ((ref01_digit N c60).bind fun r63 => some r63)) else some false)) = some (t.2.2.all isD && wiB t.2.2.length 1 1) := by
    match t.2.2 with
    | [] => rfl
    | [b] =>
     have : sidx [b] 0 = some (b.toNat : Int) := rfl
     rw [this, Option.bind_some, m_rdigit]
     cases h9 : isD b <;> simp [wiB, h9]
    | b :: c :: l =>
     have h1 : ((((b :: c :: l).length : Nat) : Int) == 1) = false := by rw [beq_eq_false_iff_ne]; simp only [List.length_cons]; omega
     have h2 : wiB (b :: c :: l).length 1 1 = false := by unfold wiB; simp
     rw [h1, h2, Bool.and_false]; rfl
   rw [e1, Option.bind_some]
  ·rw [decide_eq_false ha, Bool.not_false, cond_true, cond_true]
   obtain ⟨b, h1, h2⟩ := sidx_last ha (by omega)
   rw [h1, Option.bind_some, Option.bind_some, i32wrap, m_digit, m_rdigit]
   cases isD b <;> rfl
end
end Go.Proofs.YtlddakefmfcblaaGreatDoor
namespace Go.Proofs.YtlddakefmfcblaaGreatDoor
open Go.Proofs
def air_padded (N : Nat) (x0 : Int) (x1 : Int) : Option (List UInt8) :=
 ((strconv_Itoa N x0).bind fun r1 => ((strings_Repeat N ([48] : List UInt8) (max 0 (W64 (x1 - (r1.length : Int))))).bind fun r9 => ((sadd r9 r1).bind fun r17 => some r17)))
theorem co_air_padded : CallOk Tryz.prog 75 := fun _ _ => by kernel_rfl
set_option maxHeartbeats 4000000 in
set_option maxRecDepth 100000 in
theorem c_air_padded (N : Nat) (w0 : World) (F0 : Mem) (hF : ∀ b o, F0 b = some o → w0.heap[b]? = some o) (hG : Glob F0) (x0 : Int) (x1 : Int) (r : (List UInt8)) (h : air_padded N x0 x1 = some r) :
  Calls Tryz.prog 75 ([(vi x0), (vi x1)] : List Value).toArray w0 (FRet w0 F0 fun F' v => v = (.string ⟨(r).toArray⟩)) := by
 have hs0 := HS.start hF
 refine calls_of (n := 16) (c := bodyOf Tryz.f75) Tryz.func75 (by kernel_rfl) (by kernel_rfl) (by kernel_rfl) ?_
 refine Sq (Rg [0] ?_)
 refine V 4 9 (mc (.string ⟨([] : List UInt8).toArray⟩) (.string ⟨(([] : List UInt8)).toArray⟩)) ?_
 refine Nss (Rg [0, 1, 2] ?_)
 refine V 6 3 (mv 0 (vi x0)) ?_
 obtain ⟨r1, hr2, h3⟩ := bind_some h
 refine Cl 7 9 74 #[(.tmp 6)] #[3] co_strconv_Itoa hs0 (c_strconv_Itoa N w0 F0 hs0.pers hG (x0) _ hr2) ?_
 intro v4 F1 w5 hs6 le7 hp8
 obtain rfl := hp8
 refine V 5 9 (ma 7 (.string ⟨(r1).toArray⟩)) ?_
 refine Nss (Rg [0, 1, 2, 3, 4, 5, 6, 7, 8] ?_)
 refine V 8 3 (mv 1 (vi x1)) ?_
 refine V 9 9 (mv 5 (.string ⟨(r1).toArray⟩)) ?_
 refine V 10 3 (run_slen (x := (.tmp 9)) (ats := #[9]) (t := 9) (a := r1) rfl rfl (by kernel_rfl)) ?_
 refine V 11 3 (run_sub (t := 3) (t' := 3) (x := (.tmp 8)) (y := (.tmp 10)) (k := .i64) (a := x1) (b := (r1.length : Int)) rfl rfl) ?_
 refine V 12 3 (run_max2 (x := (.const (vi 0))) (y := (.tmp 11)) (ats := #[3, 3]) (a := 0) (b := (W64 (x1 - (r1.length : Int)))) rfl rfl) ?_
 obtain ⟨r9, hr10, h11⟩ := bind_some h3
 refine Cl 13 9 110 #[(.const (.string ⟨([48] : List UInt8).toArray⟩)), (.tmp 12)] #[9, 3] co_strings_Repeat hs6 (c_strings_Repeat N w5 F1 hs6.pers (([48] : List UInt8)) ((max 0 (W64 (x1 - (r1.length : Int))))) _ hr10) ?_
 intro v12 F2 w13 hs14 le15 hp16
 obtain rfl := hp16
 refine V 14 9 (mv 5 (.string ⟨(r1).toArray⟩)) ?_
 obtain ⟨r17, hr18, h19⟩ := bind_some h11
 refine V 15 9 (run_sadd (t := 9) (t' := 9) (x := (.tmp 13)) (y := (.tmp 14)) (a := r9) (b := r1) (v := r17) rfl rfl hr18) ?_
 refine V 4 9 (ma 15 (.string ⟨(r17).toArray⟩)) ?_
 refine Nt ?_
 refine CWP.ret (by kernel_rfl) ?_
 have hfin := some_inj h19
 subst hfin
 exact ⟨rfl, (.string ⟨(r17).toArray⟩), res_of (l := [.tmp 4]) (by kernel_rfl) (vs := [(.string ⟨(r17).toArray⟩)]) ⟨rfl, trivial⟩, (.string ⟨(r17).toArray⟩), F2, rfl, hs14.clear, rfl⟩
end Go.Proofs.YtlddakefmfcblaaGreatDoor
namespace Go.Proofs.YtlddakefmfcblaaGreatDoor
open Go.Proofs
end Go.Proofs.YtlddakefmfcblaaGreatDoor
namespace Go.Proofs.YtlddakefmfcblaaGreatDoor
open Go.Proofs
def air_number (N : Nat) (x0 : (List UInt8)) : Option Int :=
 ((air_only N x0 9 (fun y0 => air_digit N y0)).bind fun r1 => (bif (!r1) then some (-1) else ((strconv_Atoi N x0).bind fun r12 => some r12.1)))
theorem co_air_number : CallOk Tryz.prog 78 := fun _ _ => by kernel_rfl
set_option maxHeartbeats 4000000 in
set_option maxRecDepth 100000 in
theorem c_air_number (N : Nat) (w0 : World) (F0 : Mem) (hF : ∀ b o, F0 b = some o → w0.heap[b]? = some o) (x0 : (List UInt8)) (r : Int) (h : air_number N x0 = some r) :
  Calls Tryz.prog 78 ([(.string ⟨(x0).toArray⟩)] : List Value).toArray w0 (FRet w0 F0 fun F' v => v = (vi r)) := by
 have hs0 := HS.start hF
 refine calls_of (n := 14) (c := bodyOf Tryz.f78) Tryz.func78 (by kernel_rfl) (by kernel_rfl) (by kernel_rfl) ?_
 refine Sq (Rg [0] ?_)
 refine V 2 3 (mc (vi 0) (vi 0)) ?_
 refine Nss ?_
 refine Sq (Rg [0, 1, 2] ?_)
 refine V 5 9 (mv 0 (.string ⟨(x0).toArray⟩)) ?_
 obtain ⟨r1, hr2, h3⟩ := bind_some h
 refine Cl 6 4 65 #[(.tmp 5), (.const (vi 9)), (.func 64)] #[9, 3, 84] co_air_only hs0 (c_air_only N w0 F0 hs0.pers (x0) (9) 64 [] [] (fun y0 => air_digit N y0) co_air_digit (fun w1 F1 y0 r le1 pe1 hr1 => c_air_digit N w1 F1 pe1  y0  r hr1) _ hr2) ?_
 intro v4 F1 w5 hs6 le7 hp8
 obtain rfl := hp8
 refine V 7 4 (run_not (t := 4) (x := (.tmp 6)) (a := r1) rfl) ?_
 refine Nt ?_
 refine CWP.cond (t := (!r1)) (by kernel_rfl) rfl (fun hb9 => ?_) (fun hb9 => ?_)
 ·have h10 := cond_t h3 hb9
  refine Sq (Rg [0] ?_)
  refine V 2 3 (mc (vi (-1)) (vi (-1))) ?_
  refine Nt ?_
  refine CWP.ret (by kernel_rfl) ?_
  refine thenQ_ret ?_
  have hfin := some_inj h10
  subst hfin
  exact ⟨rfl, (vi (-1)), res_of (l := [.tmp 2]) (by kernel_rfl) (vs := [(vi (-1))]) ⟨rfl, trivial⟩, (vi (-1)), F1, rfl, hs6.clear, rfl⟩
 ·have h11 := cond_f h3 hb9
  refine Sc ?_
  refine thenQ_nrm ?_
  refine Sq (Rg [0, 1, 2, 3, 4, 5, 6] ?_)
  refine V 9 9 (mv 0 (.string ⟨(x0).toArray⟩)) ?_
  obtain ⟨r12, hr13, h14⟩ := bind_some h11
  refine Cl 10 140 112 #[(.tmp 9)] #[9] co_strconv_Atoi hs6 (c_strconv_Atoi N w5 F1 hs6.pers (x0) _ hr13) ?_
  intro v15 F2 w16 hs17 le18 hp19
  obtain ⟨vr12_1_0, rfl, her12_1_0⟩ := hp19
  refine V 8 140 (mv 10 (.tuple #[(vi r12.1), vr12_1_0])) ?_
  refine V 11 3 (ex 8 0 (vi r12.1) (vs := #[(vi r12.1), vr12_1_0])) ?_
  refine V 12 139 (ex 8 1 vr12_1_0 (vs := #[(vi r12.1), vr12_1_0])) ?_
  refine V 3 3 (ma 11 (vi r12.1)) ?_
  refine V 4 139 (ma 12 vr12_1_0) ?_
  refine Nss (Rg [0, 1] ?_)
  refine V 13 3 (mv 3 (vi r12.1)) ?_
  refine V 2 3 (ma 13 (vi r12.1)) ?_
  refine Nt ?_
  refine CWP.ret (by kernel_rfl) ?_
  have hfin := some_inj h14
  subst hfin
  exact ⟨rfl, (vi r12.1), res_of (l := [.tmp 2]) (by kernel_rfl) (vs := [(vi r12.1)]) ⟨rfl, trivial⟩, (vi r12.1), F2, rfl, hs17.clear, rfl⟩
end Go.Proofs.YtlddakefmfcblaaGreatDoor
namespace Go.Proofs.YtlddakefmfcblaaGreatDoor
open Go.Proofs
end Go.Proofs.YtlddakefmfcblaaGreatDoor
namespace Go.Proofs.YtlddakefmfcblaaGreatDoor
open Go.Lib (decDigits)
def numF (a : Nat) (l : List UInt8) : Nat := l.foldl (fun a b => 10 * a + (b.toNat - 48)) a
def numV (l : List UInt8) : Nat := numF 0 l
theorem numF_cons (a : Nat) (b : UInt8) (l : List UInt8) : numF a (b :: l) = numF (10 * a + (b.toNat - 48)) l := by unfold numF; rw [List.foldl_cons]
theorem numF_snoc (a : Nat) (l : List UInt8) (b : UInt8) : numF a (l ++ [b]) = 10 * numF a l + (b.toNat - 48) := by unfold numF; rw [List.foldl_append]; rfl
theorem numV_snoc (l : List UInt8) (b : UInt8) : numV (l ++ [b]) = 10 * numV l + (b.toNat - 48) := numF_snoc 0 l b
theorem isD_val {b : UInt8} (h : isD b = true) : 48 ≤ b.toNat ∧ b.toNat ≤ 57 := by
 unfold isD at h
 simpa only [Bool.and_eq_true, decide_eq_true_eq] using h
theorem numF_lt (l : List UInt8) : ∀ (a k : Nat), l.all isD = true → a < 10 ^ k → numF a l < 10 ^ (k + l.length) := by
 induction l with
 | nil => intro a k _ h; exact h
 | cons b l ih =>
  intro a k hd h
  rw [numF_cons]
  simp only [List.all_cons, Bool.and_eq_true] at hd
  have hb := isD_val hd.1
  have hp : 10 ^ (k + 1) = 10 ^ k * 10 := Nat.pow_succ ..
  have := ih (10 * a + (b.toNat - 48)) (k + 1) hd.2 (by omega)
  rw [List.length_cons, show k + (l.length + 1) = k + 1 + l.length by omega]
  exact this
theorem numV_lt {l : List UInt8} (h : l.all isD = true) : numV l < 10 ^ l.length := by
 have := numF_lt l 0 0 h (by decide)
 simpa [numV] using this
theorem dig {b : UInt8} (h : isD b = true) : Go.Lib.digitVal b = some (b.toNat - 48) := by
 unfold isD at h
 simp only [Bool.and_eq_true, decide_eq_true_eq] at h
 unfold Go.Lib.digitVal
 rw [if_pos h]
theorem decFrom_numF : ∀ (l : List UInt8) (a : Nat), l.all isD = true → Go.Lib.decFrom a l = some (numF a l)
 | [], a, _ => rfl
 | b :: l, a, h => by
  simp only [List.all_cons, Bool.and_eq_true] at h
  unfold Go.Lib.decFrom
  rw [dig h.1, numF_cons, Nat.mul_comm 10 a]
  exact decFrom_numF l _ h.2
theorem atoi_num {l : List UInt8} (h : l.all isD = true) (hn : 1 ≤ l.length) : Go.Lib.atoi l = some (numV l : Int) := by
 match l, h, hn with
 | b :: r, h, _ =>
  have hb := h
  simp only [List.all_cons, Bool.and_eq_true] at hb
  have h1 : (b == 45) = false := by rw [beq_eq_false_iff_ne]; rintro rfl; exact absurd hb.1 (by decide)
  have h2 : (b == 43) = false := by rw [beq_eq_false_iff_ne]; rintro rfl; exact absurd hb.1 (by decide)
  unfold Go.Lib.atoi
  simp only [h1, h2, Bool.false_eq_true, if_false]
  unfold Go.Lib.decNat
  simp only [List.isEmpty_cons, Bool.false_eq_true, if_false]
  rw [decFrom_numF _ _ h]
  rfl
def numB (s : List UInt8) : Bool := s.all isD && wiB s.length 1 9
def numS (s : List UInt8) : Int := if numB s = true then (numV s : Int) else -1
theorem pow10_9 {k : Nat} (h : k ≤ 9) : 10 ^ k ≤ 1000000000 := Nat.le_trans (Nat.pow_le_pow_right (by decide) h) (by decide)
theorem numB_lt {s : List UInt8} (h : numB s = true) : numV s < 1000000000 ∧ 1 ≤ s.length ∧ s.length ≤ 9 ∧ s.all isD = true := by
 unfold numB wiB at h
 simp only [Bool.and_eq_true, decide_eq_true_eq] at h
 exact ⟨Nat.lt_of_lt_of_le (numV_lt h.1) (pow10_9 h.2.2), h.2.1, h.2.2, h.1⟩
section
variable {N : Nat} {s : List UInt8}
theorem m_number (hN : s.length < N) : air_number N s = some (numS s) := by
 unfold air_number numS
 rw [only_spec (predD N) s 9 hN, Option.bind_some, show (decide ((1 : Int) ≤ (s.length : Int)) && decide ((s.length : Int) ≤ (9 : Int))) = wiB s.length 1 9 from within_nat _ 1 9]
 have e : (s.all isD && wiB s.length 1 9) = numB s := rfl
 rw [e]
 cases h : numB s with
 | false => rfl
 | true =>
  have hl := numB_lt h
  rw [Bool.not_true, cond_false, if_pos rfl]
  unfold strconv_Atoi
  rw [if_pos (by omega), atoi_num hl.2.2.2 hl.2.1]
  rfl
end
def dByte (d : Nat) : UInt8 := UInt8.ofNat (48 + d)
theorem dByte_toNat {d : Nat} (h : d < 10) : (dByte d).toNat = 48 + d := by unfold dByte; rw [UInt8.toNat_ofNat']; omega
theorem dByte_D {d : Nat} (h : d < 10) : isD (dByte d) = true := by unfold isD; rw [dByte_toNat h]; simp; omega
theorem dd_small {u : Nat} (h : u < 10) : decDigits u = [dByte u] := by rw [decDigits, dif_pos h]; rfl
theorem dd_big {u : Nat} (h : ¬ u < 10) : decDigits u = decDigits (u / 10) ++ [dByte (u % 10)] := by
 conv => lhs; rw [decDigits, dif_neg h]
 rfl
theorem dd_pos (u : Nat) : 1 ≤ (decDigits u).length := by
 by_cases h : u < 10
 ·rw [dd_small h]; simp
 ·rw [dd_big h]; simp
theorem dd_all (u : Nat) : (decDigits u).all isD = true := by
 induction u using Nat.strongRecOn with
 | _ u ih =>
  by_cases h : u < 10
  ·rw [dd_small h]; simp [dByte_D h]
  ·rw [dd_big h, List.all_append, ih (u / 10) (by omega)]
   simp [dByte_D (Nat.mod_lt u (by decide : 0 < 10))]
theorem dd_num (u : Nat) : numV (decDigits u) = u := by
 induction u using Nat.strongRecOn with
 | _ u ih =>
  by_cases h : u < 10
  ·rw [dd_small h]
   show 10 * 0 + ((dByte u).toNat - 48) = u
   rw [dByte_toNat h]; omega
  ·rw [dd_big h, numV_snoc, ih (u / 10) (by omega), dByte_toNat (Nat.mod_lt u (by decide : 0 < 10))]; omega
theorem dd_len : ∀ (k u : Nat), u < 10 ^ (k + 1) → (decDigits u).length ≤ k + 1
 | 0, u, h => by rw [dd_small (by simpa using h)]; simp
 | k + 1, u, h => by
  by_cases hu : u < 10
  ·rw [dd_small hu]; simp
  ·rw [dd_big hu, List.length_append]
   have := dd_len k (u / 10) (by rw [Nat.pow_succ] at h; omega)
   simp; omega
def dP (k u : Nat) : List UInt8 := List.replicate (k - (decDigits u).length) 48 ++ decDigits u
theorem dP_all (k u : Nat) : (dP k u).all isD = true := by
 unfold dP
 rw [List.all_append, dd_all, Bool.and_true, List.all_eq_true]
 intro b hb
 rw [List.eq_of_mem_replicate hb]; decide
theorem numF_zeros (j : Nat) (l : List UInt8) : numF 0 (List.replicate j 48 ++ l) = numF 0 l := by
 induction j with
 | zero => rfl
 | succ j ih => rw [List.replicate_succ, List.cons_append, numF_cons]; exact ih
theorem dP_num (k u : Nat) : numV (dP k u) = u := by
 unfold dP numV
 rw [numF_zeros]
 exact dd_num u
theorem dP_len (k u : Nat) : k ≤ (dP k u).length ∧ 1 ≤ (dP k u).length := by
 unfold dP
 have := dd_pos u
 rw [List.length_append, List.length_replicate]
 omega
theorem dP_lenle {k j u : Nat} (h : u < 10 ^ (j + 1)) : (dP k u).length ≤ max k (j + 1) := by
 unfold dP
 have := dd_len j u h
 rw [List.length_append, List.length_replicate]
 omega
theorem repeat0 : ∀ n, Go.Lib.repeatL [48] n = List.replicate n 48
 | 0 => rfl
 | n + 1 => by unfold Go.Lib.repeatL; rw [repeat0 n]; rfl
section
variable {N : Nat}
theorem m_Itoa (u : Nat) (h : u ≤ 1000000000) : strconv_Itoa N (u : Int) = some (decDigits u) := by
 unfold strconv_Itoa
 rw [if_pos (by omega), Go.Lib.itoa_nonneg]
theorem m_padded (u k : Nat) (h : u ≤ 1000000000) (hk : k ≤ 100) : air_padded N (u : Int) (k : Int) = some (dP k u) := by
 unfold air_padded
 rw [m_Itoa u h, Option.bind_some]
 have hl : (decDigits u).length ≤ 10 := dd_len 9 u (by omega)
 rw [W64_id (by omega) (by omega)]
 have e : max (0 : Int) ((k : Int) - ((decDigits u).length : Int)) = ((k - (decDigits u).length : Nat) : Int) := by omega
 rw [e]
 unfold strings_Repeat
 rw [if_pos (by simp; omega), Option.bind_some, Int.toNat_natCast, repeat0]
 rw [sadd_some (by simp; omega)]
 rfl
end
end Go.Proofs.YtlddakefmfcblaaGreatDoor
namespace Go.Proofs.YtlddakefmfcblaaGreatDoor
open Go.Proofs
def air_PrintTime (N : Nat) (x0 : Int) : Option ((List UInt8) × Int) :=
 ((air_within N x0 0 20000).bind fun r1 => (bif (!r1) then some (([] : List UInt8), 1) else ((strconv_Itoa N (W64 ((W64 (Int.tdiv x0 1440)) + 1))).bind fun r12 => ((sadd r12 ([32] : List UInt8)).bind fun r20 => ((air_padded N (Int.tmod (W64 (Int.tdiv x0 60)) 24) 2).bind fun r23 => ((sadd r20 r23).bind fun r31 => ((air_padded N (Int.tmod x0 60) 2).bind fun r34 => ((sadd r31 r34).bind fun r42 => some (r42, 0)))))))))
theorem co_air_PrintTime : CallOk Tryz.prog 28 := fun _ _ => by kernel_rfl
set_option maxHeartbeats 4000000 in
set_option maxRecDepth 100000 in
theorem c_air_PrintTime (N : Nat) (w0 : World) (F0 : Mem) (hF : ∀ b o, F0 b = some o → w0.heap[b]? = some o) (hG : Glob F0) (x0 : Int) (r : ((List UInt8) × Int)) (h : air_PrintTime N x0 = some r) :
  Calls Tryz.prog 28 ([(vi x0)] : List Value).toArray w0 (FRet w0 F0 fun F' v => v = (.tuple #[(.string ⟨(r.1).toArray⟩), (vi r.2)])) := by
 have hs0 := HS.start hF
 refine calls_of (n := 21) (c := bodyOf Tryz.f28) Tryz.func28 (by kernel_rfl) (by kernel_rfl) (by kernel_rfl) ?_
 refine Sq (Rg [0, 1] ?_)
 refine V 2 9 (mc (.string ⟨([] : List UInt8).toArray⟩) (.string ⟨(([] : List UInt8)).toArray⟩)) ?_
 refine V 3 23 (mc (vi 0) (vi 0)) ?_
 refine Nss ?_
 refine Sq (Rg [0, 1, 2] ?_)
 refine V 4 3 (mv 0 (vi x0)) ?_
 obtain ⟨r1, hr2, h3⟩ := bind_some h
 refine Cl 5 4 73 #[(.tmp 4), (.const (vi 0)), (.const (vi 20000))] #[3, 3, 3] co_air_within hs0 (c_air_within N w0 F0 hs0.pers (x0) (0) (20000) _ hr2) ?_
 intro v4 F1 w5 hs6 le7 hp8
 obtain rfl := hp8
 refine V 6 4 (run_not (t := 4) (x := (.tmp 5)) (a := r1) rfl) ?_
 refine Nt ?_
 refine CWP.cond (t := (!r1)) (by kernel_rfl) rfl (fun hb9 => ?_) (fun hb9 => ?_)
 ·have h10 := cond_t h3 hb9
  refine Sq (Rg [0, 1] ?_)
  refine V 2 9 (mc (.string ⟨([] : List UInt8).toArray⟩) (.string ⟨(([] : List UInt8)).toArray⟩)) ?_
  refine V 3 23 (mc (vi 1) (vi 1)) ?_
  refine Nt ?_
  refine CWP.ret (by kernel_rfl) ?_
  refine thenQ_ret ?_
  have hfin := some_inj h10
  subst hfin
  exact ⟨rfl, (.tuple #[(.string ⟨(([] : List UInt8)).toArray⟩), (vi 1)]), res_of (l := [.tmp 2, .tmp 3]) (by kernel_rfl) (vs := [(.string ⟨(([] : List UInt8)).toArray⟩), (vi 1)]) ⟨rfl, ⟨rfl, trivial⟩⟩, (.tuple #[(.string ⟨(([] : List UInt8)).toArray⟩), (vi 1)]), F1, rfl, hs6.clear, rfl⟩
 ·have h11 := cond_f h3 hb9
  refine Sc ?_
  refine thenQ_nrm ?_
  refine Sq (Rg [0, 1, 2, 3, 4, 5, 6, 7, 8, 9, 10, 11, 12, 13, 14, 15] ?_)
  refine V 7 3 (mv 0 (vi x0)) ?_
  refine V 8 3 (run_quo (t := 3) (t' := 3) (x := (.tmp 7)) (y := (.const (vi 1440))) (k := .i64) (a := x0) (b := 1440) rfl rfl (by decide)) ?_
  refine V 9 3 (run_add (t := 3) (t' := 3) (x := (.tmp 8)) (y := (.const (vi 1))) (k := .i64) (a := (W64 (Int.tdiv x0 1440))) (b := 1) rfl rfl) ?_
  obtain ⟨r12, hr13, h14⟩ := bind_some h11
  refine Cl 10 9 74 #[(.tmp 9)] #[3] co_strconv_Itoa hs6 (c_strconv_Itoa N w5 F1 hs6.pers (hG.mono le7) ((W64 ((W64 (Int.tdiv x0 1440)) + 1))) _ hr13) ?_
  intro v15 F2 w16 hs17 le18 hp19
  obtain rfl := hp19
  obtain ⟨r20, hr21, h22⟩ := bind_some h14
  refine V 11 9 (run_sadd (t := 9) (t' := 9) (x := (.tmp 10)) (y := (.const (.string ⟨([32] : List UInt8).toArray⟩))) (a := r12) (b := ([32] : List UInt8)) (v := r20) rfl rfl hr21) ?_
  refine V 12 3 (mv 0 (vi x0)) ?_
  refine V 13 3 (run_quo (t := 3) (t' := 3) (x := (.tmp 12)) (y := (.const (vi 60))) (k := .i64) (a := x0) (b := 60) rfl rfl (by decide)) ?_
  refine V 14 3 (run_rem (t := 3) (t' := 3) (x := (.tmp 13)) (y := (.const (vi 24))) (k := .i64) (a := (W64 (Int.tdiv x0 60))) (b := 24) rfl rfl (by decide)) ?_
  obtain ⟨r23, hr24, h25⟩ := bind_some h22
  refine Cl 15 9 75 #[(.tmp 14), (.const (vi 2))] #[3, 3] co_air_padded hs17 (c_air_padded N w16 F2 hs17.pers (hG.mono (le7.trans le18)) ((Int.tmod (W64 (Int.tdiv x0 60)) 24)) (2) _ hr24) ?_
  intro v26 F3 w27 hs28 le29 hp30
  obtain rfl := hp30
  obtain ⟨r31, hr32, h33⟩ := bind_some h25
  refine V 16 9 (run_sadd (t := 9) (t' := 9) (x := (.tmp 11)) (y := (.tmp 15)) (a := r20) (b := r23) (v := r31) rfl rfl hr32) ?_
  refine V 17 3 (mv 0 (vi x0)) ?_
  refine V 18 3 (run_rem (t := 3) (t' := 3) (x := (.tmp 17)) (y := (.const (vi 60))) (k := .i64) (a := x0) (b := 60) rfl rfl (by decide)) ?_
  obtain ⟨r34, hr35, h36⟩ := bind_some h33
  refine Cl 19 9 75 #[(.tmp 18), (.const (vi 2))] #[3, 3] co_air_padded hs28 (c_air_padded N w27 F3 hs28.pers (hG.mono ((le7.trans le18).trans le29)) ((Int.tmod x0 60)) (2) _ hr35) ?_
  intro v37 F4 w38 hs39 le40 hp41
  obtain rfl := hp41
  obtain ⟨r42, hr43, h44⟩ := bind_some h36
  refine V 20 9 (run_sadd (t := 9) (t' := 9) (x := (.tmp 16)) (y := (.tmp 19)) (a := r31) (b := r34) (v := r42) rfl rfl hr43) ?_
  refine V 2 9 (ma 20 (.string ⟨(r42).toArray⟩)) ?_
  refine V 3 23 (mc (vi 0) (vi 0)) ?_
  refine Nt ?_
  refine CWP.ret (by kernel_rfl) ?_
  have hfin := some_inj h44
  subst hfin
  exact ⟨rfl, (.tuple #[(.string ⟨(r42).toArray⟩), (vi 0)]), res_of (l := [.tmp 2, .tmp 3]) (by kernel_rfl) (vs := [(.string ⟨(r42).toArray⟩), (vi 0)]) ⟨rfl, ⟨rfl, trivial⟩⟩, (.tuple #[(.string ⟨(r42).toArray⟩), (vi 0)]), F4, rfl, hs39.clear, rfl⟩
end Go.Proofs.YtlddakefmfcblaaGreatDoor
namespace Go.Proofs.YtlddakefmfcblaaGreatDoor
open Go.Proofs
end Go.Proofs.YtlddakefmfcblaaGreatDoor
namespace Go.Proofs.YtlddakefmfcblaaGreatDoor
open Go.Proofs
def air_ParseTime (N : Nat) (x0 : (List UInt8)) : Option (Int × Int) :=
 ((strings_Cut N x0 ([32] : List UInt8)).bind fun r1 => ((air_number N r1.1).bind fun r9 => ((air_number N r1.2.1).bind fun r17 => (bif ((decide (r9 < 1)) || ((decide (r9 > 20000)) || (decide (r17 < 0)))) then some (0, 13) else ((air_PrintTime N (W64 ((W64 ((W64 ((W64 (r9 - 1)) * 1440)) + (W64 ((W64 (Int.tdiv r17 100)) * 60)))) + (Int.tmod r17 100)))).bind fun r38 => (bif ((r38.2 != 0) || (r38.1 != x0)) then some (0, 13) else some ((W64 ((W64 ((W64 ((W64 (r9 - 1)) * 1440)) + (W64 ((W64 (Int.tdiv r17 100)) * 60)))) + (Int.tmod r17 100))), 0)))))))
theorem co_air_ParseTime : CallOk Tryz.prog 30 := fun _ _ => by kernel_rfl
set_option maxHeartbeats 4000000 in
set_option maxRecDepth 100000 in
theorem c_air_ParseTime (N : Nat) (w0 : World) (F0 : Mem) (hF : ∀ b o, F0 b = some o → w0.heap[b]? = some o) (hG : Glob F0) (x0 : (List UInt8)) (r : (Int × Int)) (h : air_ParseTime N x0 = some r) :
  Calls Tryz.prog 30 ([(.string ⟨(x0).toArray⟩)] : List Value).toArray w0 (FRet w0 F0 fun F' v => v = (.tuple #[(vi r.1), (vi r.2)])) := by
 have hs0 := HS.start hF
 refine calls_of (n := 55) (c := bodyOf Tryz.f30) Tryz.func30 (by kernel_rfl) (by kernel_rfl) (by kernel_rfl) ?_
 refine Sq (Rg [0, 1] ?_)
 refine V 2 3 (mc (vi 0) (vi 0)) ?_
 refine V 3 23 (mc (vi 0) (vi 0)) ?_
 refine Nss (Rg [0, 1, 2, 3, 4, 5, 6, 7, 8] ?_)
 refine V 13 9 (mv 0 (.string ⟨(x0).toArray⟩)) ?_
 obtain ⟨r1, hr2, h3⟩ := bind_some h
 refine Cl 14 96 77 #[(.tmp 13), (.const (.string ⟨([32] : List UInt8).toArray⟩))] #[9, 9] co_strings_Cut hs0 (c_strings_Cut N w0 F0 hs0.pers hG (x0) (([32] : List UInt8)) _ hr2) ?_
 intro v4 F1 w5 hs6 le7 hp8
 obtain rfl := hp8
 refine V 12 96 (mv 14 (.tuple #[(.string ⟨(r1.1).toArray⟩), (.string ⟨(r1.2.1).toArray⟩), (.bool r1.2.2)])) ?_
 refine V 15 9 (ex 12 0 (.string ⟨(r1.1).toArray⟩) (vs := #[(.string ⟨(r1.1).toArray⟩), (.string ⟨(r1.2.1).toArray⟩), (.bool r1.2.2)])) ?_
 refine V 16 9 (ex 12 1 (.string ⟨(r1.2.1).toArray⟩) (vs := #[(.string ⟨(r1.1).toArray⟩), (.string ⟨(r1.2.1).toArray⟩), (.bool r1.2.2)])) ?_
 refine V 17 4 (ex 12 2 (.bool r1.2.2) (vs := #[(.string ⟨(r1.1).toArray⟩), (.string ⟨(r1.2.1).toArray⟩), (.bool r1.2.2)])) ?_
 refine V 4 9 (ma 15 (.string ⟨(r1.1).toArray⟩)) ?_
 refine V 5 9 (ma 16 (.string ⟨(r1.2.1).toArray⟩)) ?_
 refine V 6 4 (ma 17 (.bool r1.2.2)) ?_
 refine Nss (Rg [0, 1, 2, 3, 4, 5] ?_)
 refine V 18 9 (mv 4 (.string ⟨(r1.1).toArray⟩)) ?_
 obtain ⟨r9, hr10, h11⟩ := bind_some h3
 refine Cl 19 3 78 #[(.tmp 18)] #[9] co_air_number hs6 (c_air_number N w5 F1 hs6.pers (r1.1) _ hr10) ?_
 intro v12 F2 w13 hs14 le15 hp16
 obtain rfl := hp16
 refine V 20 9 (mv 5 (.string ⟨(r1.2.1).toArray⟩)) ?_
 obtain ⟨r17, hr18, h19⟩ := bind_some h11
 refine Cl 21 3 78 #[(.tmp 20)] #[9] co_air_number hs14 (c_air_number N w13 F2 hs14.pers (r1.2.1) _ hr18) ?_
 intro v20 F3 w21 hs22 le23 hp24
 obtain rfl := hp24
 refine V 7 3 (ma 19 (vi r9)) ?_
 refine V 8 3 (ma 21 (vi r17)) ?_
 refine Nss ?_
 refine Sq (Rg [0, 1, 2, 3, 4, 5, 6, 7, 8, 9] ?_)
 refine RWP.cut (fun f w => ∃ (F4 : Mem), HS w0 F0 w F4 [] ∧ Mem.le F3 F4 ∧ f.d = [] ∧ f 0 = (.string ⟨(x0).toArray⟩) ∧ f 7 = (vi r9) ∧ f 8 = (vi r17) ∧ f 31 = (.bool ((decide (r9 < 1)) || ((decide (r9 > 20000)) || (decide (r17 < 0)))))) ?_ ?_
 ·refine V 22 3 (mv 7 (vi r9)) ?_
  refine V 23 4 (run_lss (t := 3) (t' := 3) (x := (.tmp 22)) (y := (.const (vi 1))) (k := .i64) (a := r9) (b := 1) rfl rfl) ?_
  refine V 24 4 (mv 23 (.bool (decide (r9 < 1)))) ?_
  refine RWP.split (decide (r9 < 1)) (fun hb33 => ?_) (fun hb33 => ?_)
  ·refine Sk [25, 26] 2 false 24 hb33 ?_
   refine V 27 4 (p1 24 (.const (.bool true)) (.tmp 26) (.bool true) hb33) ?_
   refine V 28 4 (mv 27 (.bool true)) ?_
   refine Sk [29, 30] 6 false 28 rfl ?_
   refine V 31 4 (p1 28 (.const (.bool true)) (.tmp 30) (.bool true) rfl) ?_
   exact RWP.nil ⟨rfl, F3, hs22, (Mem.le.refl _), rfl, rfl, rfl, rfl, (congrArg Value.bool (or_t hb33 (rfl)))⟩
  ·refine Vg 25 3 2 false 24 hb33 (mv 7 (vi r9)) ?_
   refine Vg 26 4 2 false 24 hb33 (run_gtr (t := 3) (t' := 3) (x := (.tmp 25)) (y := (.const (vi 20000))) (k := .i64) (a := r9) (b := 20000) rfl rfl) ?_
   refine V 27 4 (p0 24 (.const (.bool true)) (.tmp 26) (.bool (decide (r9 > 20000))) hb33) ?_
   refine V 28 4 (mv 27 (.bool (decide (r9 > 20000)))) ?_
   refine RWP.split (decide (r9 > 20000)) (fun hb34 => ?_) (fun hb34 => ?_)
   ·refine Sk [29, 30] 6 false 28 hb34 ?_
    refine V 31 4 (p1 28 (.const (.bool true)) (.tmp 30) (.bool true) hb34) ?_
    exact RWP.nil ⟨rfl, F3, hs22, (Mem.le.refl _), rfl, rfl, rfl, rfl, (congrArg Value.bool (or_f hb33 (or_t hb34 (rfl))))⟩
   ·refine Vg 29 3 6 false 28 hb34 (mv 8 (vi r17)) ?_
    refine Vg 30 4 6 false 28 hb34 (run_lss (t := 3) (t' := 3) (x := (.tmp 29)) (y := (.const (vi 0))) (k := .i64) (a := r17) (b := 0) rfl rfl) ?_
    refine V 31 4 (p0 28 (.const (.bool true)) (.tmp 30) (.bool (decide (r17 < 0))) hb34) ?_
    exact RWP.nil ⟨rfl, F3, hs22, (Mem.le.refl _), rfl, rfl, rfl, rfl, (congrArg Value.bool (or_f hb33 (or_f hb34 (rfl))))⟩
 ·rintro f w25 ⟨F4, hs26, le27, e28, e29, e30, e31, e32⟩
  refine thenQ_nrm ?_
  refine CWP.cond (t := ((decide (r9 < 1)) || ((decide (r9 > 20000)) || (decide (r17 < 0))))) (by kernel_rfl) e32 (fun hb35 => ?_) (fun hb35 => ?_)
  ·have h36 := cond_t h19 hb35
   refine Sq (Rg [0, 1] ?_)
   refine V 2 3 (mc (vi 0) (vi 0)) ?_
   refine V 3 23 (mc (vi 13) (vi 13)) ?_
   refine Nt ?_
   refine CWP.ret (by kernel_rfl) ?_
   refine thenQ_ret ?_
   have hfin := some_inj h36
   subst hfin
   exact ⟨e28, (.tuple #[(vi 0), (vi 13)]), res_of (l := [.tmp 2, .tmp 3]) (by kernel_rfl) (vs := [(vi 0), (vi 13)]) ⟨rfl, ⟨rfl, trivial⟩⟩, (.tuple #[(vi 0), (vi 13)]), F4, rfl, hs26.clear, rfl⟩
  ·have h37 := cond_f h19 hb35
   refine Sc ?_
   refine thenQ_nrm ?_
   refine Sq (Rg [0, 1, 2, 3, 4, 5, 6, 7, 8, 9, 10] ?_)
   refine V 32 3 (mv 7 (vi r9) e30) ?_
   refine V 33 3 (run_sub (t := 3) (t' := 3) (x := (.tmp 32)) (y := (.const (vi 1))) (k := .i64) (a := r9) (b := 1) rfl rfl) ?_
   refine V 34 3 (run_mul (t := 3) (t' := 3) (x := (.tmp 33)) (y := (.const (vi 1440))) (k := .i64) (a := (W64 (r9 - 1))) (b := 1440) rfl rfl) ?_
   refine V 35 3 (mv 8 (vi r17) e31) ?_
   refine V 36 3 (run_quo (t := 3) (t' := 3) (x := (.tmp 35)) (y := (.const (vi 100))) (k := .i64) (a := r17) (b := 100) rfl rfl (by decide)) ?_
   refine V 37 3 (run_mul (t := 3) (t' := 3) (x := (.tmp 36)) (y := (.const (vi 60))) (k := .i64) (a := (W64 (Int.tdiv r17 100))) (b := 60) rfl rfl) ?_
   refine V 38 3 (run_add (t := 3) (t' := 3) (x := (.tmp 34)) (y := (.tmp 37)) (k := .i64) (a := (W64 ((W64 (r9 - 1)) * 1440))) (b := (W64 ((W64 (Int.tdiv r17 100)) * 60))) rfl rfl) ?_
   refine V 39 3 (mv 8 (vi r17) e31) ?_
   refine V 40 3 (run_rem (t := 3) (t' := 3) (x := (.tmp 39)) (y := (.const (vi 100))) (k := .i64) (a := r17) (b := 100) rfl rfl (by decide)) ?_
   refine V 41 3 (run_add (t := 3) (t' := 3) (x := (.tmp 38)) (y := (.tmp 40)) (k := .i64) (a := (W64 ((W64 ((W64 (r9 - 1)) * 1440)) + (W64 ((W64 (Int.tdiv r17 100)) * 60))))) (b := (Int.tmod r17 100)) rfl rfl) ?_
   refine V 9 3 (ma 41 (vi (W64 ((W64 ((W64 ((W64 (r9 - 1)) * 1440)) + (W64 ((W64 (Int.tdiv r17 100)) * 60)))) + (Int.tmod r17 100))))) ?_
   refine Nss ?_
   refine Sq (Rg [0, 1, 2, 3, 4, 5, 6] ?_)
   refine V 43 3 (mv 9 (vi (W64 ((W64 ((W64 ((W64 (r9 - 1)) * 1440)) + (W64 ((W64 (Int.tdiv r17 100)) * 60)))) + (Int.tmod r17 100))))) ?_
   obtain ⟨r38, hr39, h40⟩ := bind_some h37
   refine Cl 44 24 28 #[(.tmp 43)] #[3] co_air_PrintTime hs26 (c_air_PrintTime N w25 F4 hs26.pers (hG.mono (((le7.trans le15).trans le23).trans le27)) ((W64 ((W64 ((W64 ((W64 (r9 - 1)) * 1440)) + (W64 ((W64 (Int.tdiv r17 100)) * 60)))) + (Int.tmod r17 100)))) _ hr39) ?_
   intro v41 F5 w42 hs43 le44 hp45
   obtain rfl := hp45
   refine V 42 24 (mv 44 (.tuple #[(.string ⟨(r38.1).toArray⟩), (vi r38.2)])) ?_
   refine V 45 9 (ex 42 0 (.string ⟨(r38.1).toArray⟩) (vs := #[(.string ⟨(r38.1).toArray⟩), (vi r38.2)])) ?_
   refine V 46 23 (ex 42 1 (vi r38.2) (vs := #[(.string ⟨(r38.1).toArray⟩), (vi r38.2)])) ?_
   refine V 10 9 (ma 45 (.string ⟨(r38.1).toArray⟩)) ?_
   refine V 11 23 (ma 46 (vi r38.2)) ?_
   refine Nss (Rg [0, 1, 2, 3, 4, 5, 6] ?_)
   refine RWP.cut (fun f w => ∃ (F6 : Mem), HS w0 F0 w F6 [] ∧ Mem.le F5 F6 ∧ f.d = [] ∧ f 9 = (vi (W64 ((W64 ((W64 ((W64 (r9 - 1)) * 1440)) + (W64 ((W64 (Int.tdiv r17 100)) * 60)))) + (Int.tmod r17 100)))) ∧ f 53 = (.bool ((r38.2 != 0) || (r38.1 != x0)))) ?_ ?_
   ·refine V 47 23 (mv 11 (vi r38.2)) ?_
    refine V 48 4 (run_neq (t := 23) (t' := 23) (x := (.tmp 47)) (y := (.const (vi 0))) (k := .i64) (a := r38.2) (b := 0) rfl rfl) ?_
    refine V 49 4 (mv 48 (.bool (r38.2 != 0))) ?_
    refine RWP.split (r38.2 != 0) (fun hb52 => ?_) (fun hb52 => ?_)
    ·refine Sk [50, 51, 52] 2 false 49 hb52 ?_
     refine V 53 4 (p1 49 (.const (.bool true)) (.tmp 52) (.bool true) hb52) ?_
     exact RWP.nil ⟨rfl, F5, hs43, (Mem.le.refl _), e28, rfl, (congrArg Value.bool (or_t hb52 (rfl)))⟩
    ·refine Vg 50 9 2 false 49 hb52 (mv 10 (.string ⟨(r38.1).toArray⟩)) ?_
     refine Vg 51 9 2 false 49 hb52 (mv 0 (.string ⟨(x0).toArray⟩) e29) ?_
     refine Vg 52 4 2 false 49 hb52 (run_scmp (t := 9) (t' := 9) (x := (.tmp 50)) (y := (.tmp 51)) (op := .neq) (a := r38.1) (b := x0) (v := (r38.1 != x0)) rfl rfl rfl) ?_
     refine V 53 4 (p0 49 (.const (.bool true)) (.tmp 52) (.bool (r38.1 != x0)) hb52) ?_
     exact RWP.nil ⟨rfl, F5, hs43, (Mem.le.refl _), e28, rfl, (congrArg Value.bool (or_f hb52 (rfl)))⟩
   ·rintro f w46 ⟨F6, hs47, le48, e49, e50, e51⟩
    refine thenQ_nrm ?_
    refine CWP.cond (t := ((r38.2 != 0) || (r38.1 != x0))) (by kernel_rfl) e51 (fun hb53 => ?_) (fun hb53 => ?_)
    ·have h54 := cond_t h40 hb53
     refine Sq (Rg [0, 1] ?_)
     refine V 2 3 (mc (vi 0) (vi 0)) ?_
     refine V 3 23 (mc (vi 13) (vi 13)) ?_
     refine Nt ?_
     refine CWP.ret (by kernel_rfl) ?_
     refine thenQ_ret ?_
     have hfin := some_inj h54
     subst hfin
     exact ⟨e49, (.tuple #[(vi 0), (vi 13)]), res_of (l := [.tmp 2, .tmp 3]) (by kernel_rfl) (vs := [(vi 0), (vi 13)]) ⟨rfl, ⟨rfl, trivial⟩⟩, (.tuple #[(vi 0), (vi 13)]), F6, rfl, hs47.clear, rfl⟩
    ·have h55 := cond_f h40 hb53
     refine Sc ?_
     refine thenQ_nrm ?_
     refine Sq (Rg [0, 1, 2] ?_)
     refine V 54 3 (mv 9 (vi (W64 ((W64 ((W64 ((W64 (r9 - 1)) * 1440)) + (W64 ((W64 (Int.tdiv r17 100)) * 60)))) + (Int.tmod r17 100)))) e50) ?_
     refine V 2 3 (ma 54 (vi (W64 ((W64 ((W64 ((W64 (r9 - 1)) * 1440)) + (W64 ((W64 (Int.tdiv r17 100)) * 60)))) + (Int.tmod r17 100))))) ?_
     refine V 3 23 (mc (vi 0) (vi 0)) ?_
     refine Nt ?_
     refine CWP.ret (by kernel_rfl) ?_
     have hfin := some_inj h55
     subst hfin
     exact ⟨e49, (.tuple #[(vi (W64 ((W64 ((W64 ((W64 (r9 - 1)) * 1440)) + (W64 ((W64 (Int.tdiv r17 100)) * 60)))) + (Int.tmod r17 100)))), (vi 0)]), res_of (l := [.tmp 2, .tmp 3]) (by kernel_rfl) (vs := [(vi (W64 ((W64 ((W64 ((W64 (r9 - 1)) * 1440)) + (W64 ((W64 (Int.tdiv r17 100)) * 60)))) + (Int.tmod r17 100)))), (vi 0)]) ⟨rfl, ⟨rfl, trivial⟩⟩, (.tuple #[(vi (W64 ((W64 ((W64 ((W64 (r9 - 1)) * 1440)) + (W64 ((W64 (Int.tdiv r17 100)) * 60)))) + (Int.tmod r17 100)))), (vi 0)]), F6, rfl, hs47.clear, rfl⟩
end Go.Proofs.YtlddakefmfcblaaGreatDoor
namespace Go.Proofs.YtlddakefmfcblaaGreatDoor
open Go.Proofs
end Go.Proofs.YtlddakefmfcblaaGreatDoor
namespace Go.Proofs.YtlddakefmfcblaaGreatDoor
open Go.Proofs
end Go.Proofs.YtlddakefmfcblaaGreatDoor
namespace Go.Proofs.YtlddakefmfcblaaGreatDoor
open Go.Proofs
end Go.Proofs.YtlddakefmfcblaaGreatDoor
namespace Go.Proofs.YtlddakefmfcblaaGreatDoor
open Go.Lib (decDigits)
def tText (u : Nat) : List UInt8 := decDigits (u / 1440 + 1) ++ 32 :: (dP 2 (u / 60 % 24) ++ dP 2 (u % 60))
def printT (x : Int) : List UInt8 × Int := if 0 ≤ x ∧ x ≤ 20000 then (tText x.toNat, 0) else ([], 1)
theorem tdivN (u k : Nat) (h : u < 4611686018427387904) : W64 (Int.tdiv (u : Int) (k : Int)) = ((u / k : Nat) : Int) := by
 have : Int.tdiv (u : Int) (k : Int) = ((u / k : Nat) : Int) := by rw [Int.tdiv_eq_ediv_of_nonneg (by omega)]; rfl
 have h2 : u / k ≤ u := Nat.div_le_self _ _
 rw [this]
 generalize u / k = v at h2
 rw [W64_id (by omega) (by omega)]
theorem tmodN (u k : Nat) : Int.tmod (u : Int) (k : Int) = ((u % k : Nat) : Int) := by
 rw [Int.tmod_eq_emod_of_nonneg (by omega)]; rfl
theorem dd_len5 {u : Nat} (h : u < 100000) : (decDigits u).length ≤ 5 := dd_len 4 u (by omega)
theorem dP2_len {u : Nat} (h : u < 100) : (dP 2 u).length = 2 := by
 have h1 := dP_len 2 u
 have h2 := dP_lenle (k := 2) (j := 1) (u := u) (by omega)
 omega
section
variable {N : Nat}
theorem s_PrintTime (x : Int) : air_PrintTime N x = some (printT x) := by
 unfold air_PrintTime printT
 rw [m_within, Option.bind_some]
 by_cases h : 0 ≤ x ∧ x ≤ 20000
 ·rw [if_pos h, decide_eq_true h.1, decide_eq_true h.2]
  obtain ⟨u, rfl⟩ : ∃ u : Nat, x = u := ⟨x.toNat, by omega⟩
  have hu : u ≤ 20000 := by omega
  simp only [Bool.and_self, Bool.not_true, cond_false]
  have e1 := tdivN u 1440 (by omega)
  have e2 := tdivN u 60 (by omega)
  simp only [Int.cast_ofNat_Int] at e1 e2
  have e3 := tmodN (u / 60) 24
  have e4 := tmodN u 60
  simp only [Int.cast_ofNat_Int] at e3 e4
  rw [e1, e2, e3, e4, w64s (u / 1440) (by omega), m_Itoa _ (by omega), Option.bind_some]
  have hl1 := dd_len5 (u := u / 1440 + 1) (by omega)
  have hl2 := dP2_len (u := u / 60 % 24) (by omega)
  have hl3 := dP2_len (u := u % 60) (by omega)
  have p1 := m_padded (N := N) (u / 60 % 24) 2 (by omega) (by omega)
  have p2 := m_padded (N := N) (u % 60) 2 (by omega) (by omega)
  simp only [Int.cast_ofNat_Int] at p1 p2
  rw [sadd_some (by simp; omega), Option.bind_some, p1, Option.bind_some, sadd_some (by simp; omega), Option.bind_some, p2, Option.bind_some, sadd_some (by simp; omega), Option.bind_some]
  unfold tText
  simp
 ·rw [if_neg h]
  have : (decide (0 ≤ x) && decide (x ≤ 20000)) = false := by
   rw [Bool.and_eq_false_iff, decide_eq_false_iff_not, decide_eq_false_iff_not]; omega
  rw [this]; rfl
def tval (p q : Nat) : Nat := (p - 1) * 1440 + q / 100 * 60 + q % 100
theorem tval_eq {p q : Nat} (h1 : 1 ≤ p) (hp : p < 1000000000) (hq : q < 1000000000) : W64 ((W64 ((W64 ((W64 ((p : Int) - 1)) * 1440)) + (W64 ((W64 (Int.tdiv (q : Int) 100)) * 60)))) + (Int.tmod (q : Int) 100)) = (tval p q : Int) := by
 have e1 := tdivN q 100 (by omega)
 have e2 := tmodN q 100
 simp only [Int.cast_ofNat_Int] at e1 e2
 rw [e1, e2, W64_id (n := (p : Int) - 1) (by omega) (by omega), W64_id (n := ((p : Int) - 1) * 1440) (by omega) (by omega), W64_id (n := ((q / 100 : Nat) : Int) * 60) (by omega) (by omega)]
 rw [W64_id (n := ((p : Int) - 1) * 1440 + ((q / 100 : Nat) : Int) * 60) (by omega) (by omega), W64_id (by omega) (by omega)]
 unfold tval
 omega
def parse2 (s a b : List UInt8) : Int × Int := if numB a && numB b && decide (1 ≤ numV a) && decide (printT (tval (numV a) (numV b)) = (s, 0)) then ((tval (numV a) (numV b) : Int), 0) else (0, 13)
def parseT (s : List UInt8) : Int × Int := match pcs 32 s with
 | [a, b] => parse2 s a b
 | _ => (0, 13)
theorem numB_no32 {s : List UInt8} (h : (32 : UInt8) ∈ s) : numB s = false := by
 cases hh : numB s with
 | false => rfl
 | true =>
  have := List.all_eq_true.1 (numB_lt hh).2.2.2 _ h
  revert this; decide
theorem numB_nil : numB [] = false := rfl
theorem ok_dec (s t : List UInt8) (e : Int) : ((e != 0) || (t != s)) = !decide ((t, e) = (s, 0)) := by
 by_cases h1 : e = 0
 ·by_cases h2 : t = s
  ·subst h1; subst h2; simp
  ·rw [decide_eq_false (fun h => h2 (by injection h))]; simp [h2]
 ·rw [decide_eq_false (fun h => h1 (by injection h))]; simp [h1]
theorem parse_air (s a b : List UInt8) (ha : a.length < N) (hb : b.length < N) :
  ((air_number N a).bind fun r9 => ((air_number N b).bind fun r17 => (bif ((decide (r9 < 1)) || ((decide (r9 > 20000)) || (decide (r17 < 0)))) then some ((0 : Int), (13 : Int)) else ((air_PrintTime N (W64 ((W64 ((W64 ((W64 (r9 - 1)) * 1440)) + (W64 ((W64 (Int.tdiv r17 100)) * 60)))) + (Int.tmod r17 100)))).bind fun r38 => (bif ((r38.2 != 0) || (r38.1 != s)) then some (0, 13) else some ((W64 ((W64 ((W64 ((W64 (r9 - 1)) * 1440)) + (W64 ((W64 (Int.tdiv r17 100)) * 60)))) + (Int.tmod r17 100))), 0)))))) = some (parse2 s a b) := by
 rw [m_number ha, m_number hb, Option.bind_some, Option.bind_some]
 unfold numS parse2
 cases hA : numB a with
 | false =>
  simp only [Bool.false_eq_true, if_false, Bool.false_and]
  rfl
 | true =>
  cases hB : numB b with
  | false =>
   simp only [Bool.false_eq_true, if_false, if_true, Bool.and_false, Bool.false_and]
   rw [show decide ((-1 : Int) < 0) = true from rfl, Bool.or_true, Bool.or_true]; rfl
  | true =>
   simp only [if_true, Bool.and_self, Bool.true_and]
   have hp := numB_lt hA
   have hq := numB_lt hB
   generalize numV a = p at hp ⊢
   generalize numV b = q at hq ⊢
   by_cases h1 : 1 ≤ p
   ·rw [decide_eq_false (show ¬ (p : Int) < 1 by omega), decide_eq_true h1, decide_eq_false (show ¬ (q : Int) < 0 by omega), Bool.false_or, Bool.or_false, Bool.true_and, tval_eq h1 hp.1 hq.1]
    by_cases h2 : p ≤ 20000
    ·rw [decide_eq_false (show ¬ (p : Int) > 20000 by omega), cond_false, s_PrintTime, Option.bind_some, ok_dec]
     have : ((printT (tval p q : Int)).1, (printT (tval p q : Int)).2) = printT (tval p q : Int) := rfl
     rw [this]
     by_cases h3 : printT (tval p q : Int) = (s, 0)
     ·rw [decide_eq_true h3, if_pos rfl]; rfl
     ·rw [decide_eq_false h3]; rfl
    ·rw [decide_eq_true (show (p : Int) > 20000 by omega), cond_true]
     have h3 : ¬ printT (tval p q : Int) = (s, 0) := by
      unfold printT tval
      rw [if_neg (by omega)]
      intro h; injection h with h1 h2; exact absurd h2 (by decide)
     rw [decide_eq_false h3]; rfl
   ·rw [decide_eq_true (show (p : Int) < 1 by omega), decide_eq_false h1]; rfl
theorem parse2_err {s a b : List UInt8} (h : numB b = false) : parse2 s a b = (0, 13) := by unfold parse2; rw [h]; simp
theorem s_ParseTime (s : List UInt8) (hs : s.length < 4294967281) (hN : 4294967300 < N) : air_ParseTime N s = some (parseT s) := by
 unfold air_ParseTime
 have hc : strings_Cut N s [32] = some (Go.Lib.cut s [32]) := by unfold strings_Cut; rw [if_pos hs]
 rw [hc, Option.bind_some]
 unfold parseT
 by_cases h : (32 : UInt8) ∈ s
 ·obtain ⟨a, t, rfl, ha⟩ := split_at_first h
  simp only [List.length_append, List.length_cons] at hs
  rw [cut_some ha, pcs_app ha]
  simp only
  rw [parse_air _ a t (by omega) (by omega)]
  by_cases ht : (32 : UInt8) ∈ t
  ·obtain ⟨a', t', rfl, ha'⟩ := split_at_first ht
   rw [pcs_app ha', parse2_err (numB_no32 ht)]
   cases hp : pcs 32 t' with
   | nil => exact absurd hp (pcs_ne 32 t')
   | cons x l => rfl
  ·rw [pcs_none ht]
 ·rw [cut_none h, pcs_none h]
  simp only
  rw [parse_air _ s [] (by omega) (by simp; omega), parse2_err numB_nil]
end
theorem numF_mul (a : Nat) (l : List UInt8) : numF a l = a * 10 ^ l.length + numF 0 l := by
 induction l generalizing a with
 | nil => simp [numF]
 | cons b l ih =>
  rw [numF_cons, numF_cons, ih (10 * a + (b.toNat - 48)), ih (10 * 0 + (b.toNat - 48)), List.length_cons, Nat.pow_succ, Nat.add_mul, Nat.mul_comm (10 ^ l.length) 10, ← Nat.mul_assoc, Nat.mul_comm a 10, Nat.mul_zero, Nat.zero_add, Nat.add_assoc]
theorem numV_app (l m : List UInt8) : numV (l ++ m) = numV l * 10 ^ m.length + numV m := by
 unfold numV
 rw [show numF 0 (l ++ m) = numF (numF 0 l) m by unfold numF; rw [List.foldl_append], numF_mul]
theorem no32 {l : List UInt8} (h : l.all isD = true) : (32 : UInt8) ∉ l := fun hm => by
 have := List.all_eq_true.1 h _ hm
 revert this; decide
theorem parse_text {u : Nat} (h : u ≤ 20000) : parseT (tText u) = ((u : Int), 0) := by
 have hl1 := dd_len5 (u := u / 1440 + 1) (by omega)
 have hl2 := dP2_len (u := u / 60 % 24) (by omega)
 have hl3 := dP2_len (u := u % 60) (by omega)
 have hall : (dP 2 (u / 60 % 24) ++ dP 2 (u % 60)).all isD = true := by rw [List.all_append, dP_all, dP_all]; rfl
 have hp : pcs 32 (tText u) = [decDigits (u / 1440 + 1), dP 2 (u / 60 % 24) ++ dP 2 (u % 60)] := by
  unfold tText
  rw [pcs_app (no32 (dd_all _)), pcs_none (no32 hall)]
 unfold parseT
 rw [hp]
 simp only
 unfold parse2
 have n1 : numB (decDigits (u / 1440 + 1)) = true := by
  unfold numB wiB; have := dd_pos (u / 1440 + 1); rw [dd_all]; simp; omega
 have n2 : numB (dP 2 (u / 60 % 24) ++ dP 2 (u % 60)) = true := by
  unfold numB wiB; rw [hall]; simp [hl2, hl3]
 have v2 : numV (dP 2 (u / 60 % 24) ++ dP 2 (u % 60)) = u / 60 % 24 * 100 + u % 60 := by
  rw [numV_app, dP_num, dP_num, hl3]
 have e : tval (u / 1440 + 1) (u / 60 % 24 * 100 + u % 60) = u := by unfold tval; omega
 have hpr : printT (u : Int) = (tText u, 0) := by unfold printT; rw [if_pos (by omega)]; rfl
 rw [n1, n2, dd_num, v2, e, hpr, decide_eq_true (show 1 ≤ u / 1440 + 1 by omega), decide_eq_true rfl]
 rfl
end Go.Proofs.YtlddakefmfcblaaGreatDoor
namespace Go.Proofs.YtlddakefmfcblaaGreatDoor
open Go.Proofs
def air_ValidBands_L0 (N : Nat) (x0 : (List Band)) : Int → Option (Flow Bool Int) := fun s4 =>
 (bif (decide (s4 < (x0.length : Int))) then ((idx x0 s4).bind fun x27 => (((air_within N x27.ID 1 65535).bind fun r60 => (bif (!r60) then some true else ((air_within N x27.Lo 1 x27.Hi).bind fun r72 => (bif (!r72) then some true else (bif (decide (x27.Hi > 10000000)) then some true else (bif (decide (s4 > 0)) then ((idx x0 (W64 (s4 - 1))).bind fun x90 => (bif (decide (x27.ID ≤ x90.ID)) then some true else ((idx x0 (W64 (s4 - 1))).bind fun x100 => some (decide (x27.Lo ≤ x100.Hi))))) else some false)))))).bind fun j51 => (bif j51 then some (.ret false) else some (.next (W64 (s4 + 1)))))) else some (.done s4))
def air_ValidBands (N : Nat) (x0 : (List Band)) : Option Bool :=
 ((iter (air_ValidBands_L0 N x0) N 0).bind fun o => o.k (fun r => some r) (fun s13 => some (decide ((x0.length : Int) ≤ 16))))
theorem co_air_ValidBands : CallOk Tryz.prog 26 := fun _ _ => by kernel_rfl
set_option maxHeartbeats 4000000 in
set_option maxRecDepth 100000 in
theorem c_air_ValidBands (N : Nat) (w0 : World) (F0 : Mem) (hF : ∀ b o, F0 b = some o → w0.heap[b]? = some o) (x0 : (List Band)) (a0_0 : Option Addr) (n0_0 : Nat) (hb0_0 : LC x0.length n0_0) (hs0_0 : SlA tBand F0 a0_0 x0) (r : Bool) (h : air_ValidBands N x0 = some r) :
  Calls Tryz.prog 26 ([(.slice a0_0 x0.length n0_0)] : List Value).toArray w0 (FRet w0 F0 fun F' v => v = (.bool r)) := by
 have hs0 := HS.start hF
 refine calls_of (n := 59) (c := bodyOf Tryz.f26) Tryz.func26 (by kernel_rfl) (by kernel_rfl) (by kernel_rfl) ?_
 refine Sq (Rg [0] ?_)
 refine V 2 4 (mc (.bool false) (.bool false)) ?_
 refine Nss ?_
 refine Sq (Rg [0, 1, 2] ?_)
 refine V 5 32 (mv 0 (.slice a0_0 x0.length n0_0)) ?_
 refine V 6 3 (ln 5 32 a0_0 x0.length n0_0 40 3 24) ?_
 refine V 7 3 (run_move (x := (.const (vi 0))) (v := (vi 0)) rfl) ?_
 refine Nt ?_
 obtain ⟨o1, ho2, h3⟩ := bind_some h
 refine CWP.cut (fun f w => ∃ (s13 : Int) (F2 : Mem), o1 = .done s13 ∧ HS w0 F0 w F2 [] ∧ Mem.le F0 F2 ∧ f.d = [] ∧ f 0 = (.slice a0_0 x0.length n0_0)) ?_ ?_
 ·refine Bk ?_
  refine CWP.loop (by kernel_rfl) (fun m f w => ∃ (s4 : Int) (F1 : Mem), iter (air_ValidBands_L0 N x0) m s4 = some o1 ∧ HS w0 F0 w F1 [] ∧ Mem.le F0 F1 ∧ f.d = [] ∧ f 0 = (.slice a0_0 x0.length n0_0) ∧ f 5 = (.slice a0_0 x0.length n0_0) ∧ f 6 = (vi (x0.length : Int)) ∧ f 7 = (vi s4)) N ⟨0, F0, ho2, hs0, (Mem.le.refl _), rfl, rfl, rfl, rfl, rfl⟩ ?_
  rintro m19 f w5 ⟨s4, F1, hit20, hs6, le7, e8, e9, e10, e11, e12⟩
  obtain ⟨m21, fl22, rfl, hb23, hnx24⟩ := iter_step hit20
  refine Sq (Rg [0] ?_)
  refine V 8 0 (run_lss (t := 3) (t' := 3) (x := (.tmp 7)) (y := (.tmp 6)) (k := .i64) (a := s4) (b := (x0.length : Int)) e12 e11) ?_
  refine Nss ?_
  refine CWP.cond (t := (decide (s4 < (x0.length : Int)))) (by kernel_rfl) rfl (fun hb25 => ?_) (fun hb25 => ?_)
  ·have h26 := cond_t hb23 hb25
   refine Sc ?_
   refine thenQ_nrm ?_
   refine Sq ?_
   refine Bk ?_
   refine Sq (Rg [0, 1, 2, 3, 4, 5] ?_)
   refine V 9 3 (mv 7 (vi s4) e12) ?_
   obtain ⟨x27, hx28, h30⟩ := bind_some h26
   obtain ⟨hi29, hx28'⟩ := idx_spec hx28
   obtain ⟨b31, o32, C33, E34, fz35, rfl, hF37, hE38⟩ := SlA.open (SlA.mono hs0_0 le7) hx28'
   have hc40 := hE38 _ _ hx28'
   refine V 10 0 (run_index (t := 32) (x := (.tmp 5)) (y := (.tmp 7)) (b := b31) (o := o32) (E := 40) (s := 3) (by_ := 24) e10 e12 (by kernel_rfl) hi29) ?_
   refine V 11 40 (lx 40 10 0 3 true 3 (.agg (kBand x27)) (hs6.pers _ _ hF37) hc40) ?_
   refine Al 4 0 40 #[(vi 0), (vi 0), (vi 0)] hs6 (fun b41 w42 (hs43 : HS w0 F0 w42 F1 [(sb b41 #[(vi 0), (vi 0), (vi 0)] 40)]) => ?_)
   refine V 3 3 (ma 9 (vi s4)) ?_
   refine RWP.store (ty := 0) (g := none) (by kernel_rfl) rfl (x := (.tmp 4)) (y := (.tmp 11)) (t := 40) (gg := true) (s := 3) (v := (.agg (kBand x27))) (b := b41) (o := 0) (C := #[(vi 0), (vi 0), (vi 0)]) rfl rfl (by kernel_rfl) hs43 (k := 0) rfl rfl rfl rfl (C' := (kBand x27)) rfl (fun w44 (hs45 : HS w0 F0 w44 F1 [(sb b41 (kBand x27) 40)]) => ?_)
   refine Nss ?_
   obtain ⟨j51, hj58, h59⟩ := bind_some h30
   refine CWP.regionD (by kernel_rfl) (by kernel_rfl) (by kernel_rfl) (by kernel_rfl) (z := 43) (F := F1) (Lc := [(sb b41 (kBand x27) 40)]) (Lz := []) (l := [false, false, false, false, false, false, false, false, false, false, false, false, false, false, false, false, false, false, false, false, false, false, false, false, false, false, false, false, false, false, false, false, false, false, false, false, false, false, false, false, false, false, false]) (fuel := 43) (by kernel_rfl) (by kernel_rfl) hs45 (by simp) (by simp) (fun f w => ∃ (F3 : Mem), HS w0 F0 w F3 [] ∧ Mem.le F1 F3 ∧ f.d = [] ∧ f 0 = (.slice (some ⟨b31, o32, none⟩) x0.length n0_0) ∧ f 5 = (.slice (some ⟨b31, o32, none⟩) x0.length n0_0) ∧ f 6 = (vi (x0.length : Int)) ∧ f 7 = (vi s4) ∧ f 54 = (.bool j51)) (fun wd46 hw47 => ?_) ?_
   ·refine Dtl 0 12 0 (.pointer (some ⟨b41, 0, none⟩)) [tt, ff, ff, ff, ff, ff, ff, ff, ff, ff, ff, ff, ff, ff, ff, ff, ff, ff, ff, ff, ff, ff, ff, ff, ff, ff, ff, ff, ff, ff, ff, ff, ff, ff, ff, ff, ff, ff, ff, ff, ff, ff, ff] (fun _ hq => fa 40 4 0 0 1 b41 0 0) ?_
    refine Dtl 1 13 3 _ [tt, tt, ff, ff, ff, ff, ff, ff, ff, ff, ff, ff, ff, ff, ff, ff, ff, ff, ff, ff, ff, ff, ff, ff, ff, ff, ff, ff, ff, ff, ff, ff, ff, ff, ff, ff, ff, ff, ff, ff, ff, ff, ff] (fun _ hq => ld 3 12 b41 0 false 1 (vi x27.ID) (hq.1.2 0 _ _ rfl)) ?_
    refine DWP.one (i := 2) (by kernel_rfl) ?_
    obtain ⟨r60, hr61, h62⟩ := bind_some hj58
    refine DStep.call (l' := [true, true, true, false, false, false, false, false, false, false, false, false, false, false, false, false, false, false, false, false, false, false, false, false, false, false, false, false, false, false, false, false, false, false, false, false, false, false, false, false, false, false, false]) (zd := true) (by kernel_rfl) (by kernel_rfl) (by kernel_rfl) (dst := (some 14)) (ty := 4) (g := none) (by kernel_rfl) rfl (f0 := (.func 73)) (aos := #[(.tmp 13), (.const (vi 1)), (.const (vi 65535))]) (ats := #[3, 3, 3]) (fid := 73) (first := #[]) (cap := #[]) (args := [(vi x27.ID), (vi 1), (vi 65535)]) rfl co_air_within (rfl) hw47 (c_air_within N wd46 F1 hw47.pers (x27.ID) (1) (65535) _ hr61) ?_
    intro v63 F4 w64 hs65 le66 hp67
    obtain rfl := hp67
    refine Dtl 3 15 4 (.bool (!r60)) [tt, tt, tt, tt, ff, ff, ff, ff, ff, ff, ff, ff, ff, ff, ff, ff, ff, ff, ff, ff, ff, ff, ff, ff, ff, ff, ff, ff, ff, ff, ff, ff, ff, ff, ff, ff, ff, ff, ff, ff, ff, ff, ff] (fun _ hq => run_not (t := 4) (x := (.tmp 14)) (a := r60) rfl) ?_
    refine Dtl 4 16 4 _ [tt, tt, tt, tt, tt, ff, ff, ff, ff, ff, ff, ff, ff, ff, ff, ff, ff, ff, ff, ff, ff, ff, ff, ff, ff, ff, ff, ff, ff, ff, ff, ff, ff, ff, ff, ff, ff, ff, ff, ff, ff, ff, ff] (fun _ hq => mv 15 (.bool (!r60))) ?_
    refine DWP.split (!r60) (fun hb68 => ?_) (fun hb68 => ?_)
    ·have h69 := cond_t h62 hb68
     refine Dkl [(5, 17), (6, 18), (7, 19), (8, 20), (9, 21), (10, 22)] 4 false 16 hb68 [tt, tt, tt, tt, tt, tt, tt, tt, tt, tt, tt, ff, ff, ff, ff, ff, ff, ff, ff, ff, ff, ff, ff, ff, ff, ff, ff, ff, ff, ff, ff, ff, ff, ff, ff, ff, ff, ff, ff, ff, ff, ff, ff] ?_
     refine Dtl 11 23 4 _ [tt, tt, tt, tt, tt, tt, tt, tt, tt, tt, tt, tt, ff, ff, ff, ff, ff, ff, ff, ff, ff, ff, ff, ff, ff, ff, ff, ff, ff, ff, ff, ff, ff, ff, ff, ff, ff, ff, ff, ff, ff, ff, ff] (fun _ hq => p1 16 (.const (.bool true)) (.tmp 22) (.bool true) hb68) ?_
     refine Dtl 12 24 4 _ [tt, tt, tt, tt, tt, tt, tt, tt, tt, tt, tt, tt, tt, ff, ff, ff, ff, ff, ff, ff, ff, ff, ff, ff, ff, ff, ff, ff, ff, ff, ff, ff, ff, ff, ff, ff, ff, ff, ff, ff, ff, ff, ff] (fun _ hq => mv 23 (.bool true)) ?_
     refine Dkl [(13, 25), (14, 26), (15, 27)] 12 false 24 rfl [tt, tt, tt, tt, tt, tt, tt, tt, tt, tt, tt, tt, tt, tt, tt, tt, ff, ff, ff, ff, ff, ff, ff, ff, ff, ff, ff, ff, ff, ff, ff, ff, ff, ff, ff, ff, ff, ff, ff, ff, ff, ff, ff] ?_
     refine Dtl 16 28 4 _ [tt, tt, tt, tt, tt, tt, tt, tt, tt, tt, tt, tt, tt, tt, tt, tt, tt, ff, ff, ff, ff, ff, ff, ff, ff, ff, ff, ff, ff, ff, ff, ff, ff, ff, ff, ff, ff, ff, ff, ff, ff, ff, ff] (fun _ hq => p1 24 (.const (.bool true)) (.tmp 27) (.bool true) rfl) ?_
     refine Dtl 17 29 4 _ [tt, tt, tt, tt, tt, tt, tt, tt, tt, tt, tt, tt, tt, tt, tt, tt, tt, tt, ff, ff, ff, ff, ff, ff, ff, ff, ff, ff, ff, ff, ff, ff, ff, ff, ff, ff, ff, ff, ff, ff, ff, ff, ff] (fun _ hq => mv 28 (.bool true)) ?_
     refine Dkl [(18, 30), (19, 31), (20, 32)] 17 false 29 rfl [tt, tt, tt, tt, tt, tt, tt, tt, tt, tt, tt, tt, tt, tt, tt, tt, tt, tt, tt, tt, tt, ff, ff, ff, ff, ff, ff, ff, ff, ff, ff, ff, ff, ff, ff, ff, ff, ff, ff, ff, ff, ff, ff] ?_
     refine Dul [(21, 33), (22, 34), (23, 35), (24, 36), (25, 37), (26, 38)] 20 true 32 [tt, tt, tt, tt, tt, tt, tt, tt, tt, tt, tt, tt, tt, tt, tt, tt, tt, tt, tt, tt, tt, tt, tt, tt, tt, tt, tt, ff, ff, ff, ff, ff, ff, ff, ff, ff, ff, ff, ff, ff, ff, ff, ff] ?_
     refine Dul [(27, 39), (28, 40), (29, 41), (30, 42)] 20 true 32 [tt, tt, tt, tt, tt, tt, tt, tt, tt, tt, tt, tt, tt, tt, tt, tt, tt, tt, tt, tt, tt, tt, tt, tt, tt, tt, tt, tt, tt, tt, tt, ff, ff, ff, ff, ff, ff, ff, ff, ff, ff, ff, ff] ?_
     refine Dul [(31, 43), (32, 44), (33, 45), (34, 46), (35, 47), (36, 48)] 30 false 42 [tt, tt, tt, tt, tt, tt, tt, tt, tt, tt, tt, tt, tt, tt, tt, tt, tt, tt, tt, tt, tt, tt, tt, tt, tt, tt, tt, tt, tt, tt, tt, tt, tt, tt, tt, tt, tt, ff, ff, ff, ff, ff, ff] ?_
     refine Dul [(37, 49), (38, 50), (39, 51)] 30 false 42 [tt, tt, tt, tt, tt, tt, tt, tt, tt, tt, tt, tt, tt, tt, tt, tt, tt, tt, tt, tt, tt, tt, tt, tt, tt, tt, tt, tt, tt, tt, tt, tt, tt, tt, tt, tt, tt, tt, tt, tt, ff, ff, ff] ?_
     refine Dul [(40, 52)] 20 true 32 [tt, tt, tt, tt, tt, tt, tt, tt, tt, tt, tt, tt, tt, tt, tt, tt, tt, tt, tt, tt, tt, tt, tt, tt, tt, tt, tt, tt, tt, tt, tt, tt, tt, tt, tt, tt, tt, tt, tt, tt, tt, ff, ff] ?_
     refine Dkl [(41, 53)] 17 false 29 rfl [tt, tt, tt, tt, tt, tt, tt, tt, tt, tt, tt, tt, tt, tt, tt, tt, tt, tt, tt, tt, tt, tt, tt, tt, tt, tt, tt, tt, tt, tt, tt, tt, tt, tt, tt, tt, tt, tt, tt, tt, tt, tt, ff] ?_
     refine Dtl 42 54 4 _ [tt, tt, tt, tt, tt, tt, tt, tt, tt, tt, tt, tt, tt, tt, tt, tt, tt, tt, tt, tt, tt, tt, tt, tt, tt, tt, tt, tt, tt, tt, tt, tt, tt, tt, tt, tt, tt, tt, tt, tt, tt, tt, tt] (fun _ hq => p1 29 (.const (.bool true)) (.tmp 53) (.bool true) rfl) ?_
     obtain rfl := some_inj h69
     have hs70 : HS w0 F0 w64 F4 [] := hs65.drop 0
     exact DWP.done (by kernel_rfl) ⟨F4, hs70, le66, e8, e9, e10, e11, e12, rfl⟩
    ·have h71 := cond_f h62 hb68
     refine Dgl 5 17 0 (.pointer (some ⟨b41, 1, none⟩)) [tt, tt, tt, tt, tt, tt, ff, ff, ff, ff, ff, ff, ff, ff, ff, ff, ff, ff, ff, ff, ff, ff, ff, ff, ff, ff, ff, ff, ff, ff, ff, ff, ff, ff, ff, ff, ff, ff, ff, ff, ff, ff, ff] 4 false 16 hb68 (fun _ hq => fa 40 4 1 1 1 b41 0 1) ?_
     refine Dgl 6 18 3 _ [tt, tt, tt, tt, tt, tt, tt, ff, ff, ff, ff, ff, ff, ff, ff, ff, ff, ff, ff, ff, ff, ff, ff, ff, ff, ff, ff, ff, ff, ff, ff, ff, ff, ff, ff, ff, ff, ff, ff, ff, ff, ff, ff] 4 false 16 hb68 (fun _ hq => ld 3 17 b41 1 false 1 (vi x27.Lo) (hq.1.2 0 _ _ rfl)) ?_
     refine Dgl 7 19 0 (.pointer (some ⟨b41, 2, none⟩)) [tt, tt, tt, tt, tt, tt, tt, tt, ff, ff, ff, ff, ff, ff, ff, ff, ff, ff, ff, ff, ff, ff, ff, ff, ff, ff, ff, ff, ff, ff, ff, ff, ff, ff, ff, ff, ff, ff, ff, ff, ff, ff, ff] 4 false 16 hb68 (fun _ hq => fa 40 4 2 2 1 b41 0 2) ?_
     refine Dgl 8 20 3 _ [tt, tt, tt, tt, tt, tt, tt, tt, tt, ff, ff, ff, ff, ff, ff, ff, ff, ff, ff, ff, ff, ff, ff, ff, ff, ff, ff, ff, ff, ff, ff, ff, ff, ff, ff, ff, ff, ff, ff, ff, ff, ff, ff] 4 false 16 hb68 (fun _ hq => ld 3 19 b41 2 false 1 (vi x27.Hi) (hq.1.2 0 _ _ rfl)) ?_
     refine DWP.one (i := 9) (by kernel_rfl) ?_
     obtain ⟨r72, hr73, h74⟩ := bind_some h71
     refine DStep.call (l' := [true, true, true, true, true, true, true, true, true, true, false, false, false, false, false, false, false, false, false, false, false, false, false, false, false, false, false, false, false, false, false, false, false, false, false, false, false, false, false, false, false, false, false]) (zd := true) (by kernel_rfl) (by kernel_rfl) (by kernel_rfl) (dst := (some 21)) (ty := 4) (g := (some (4, false))) (by kernel_rfl) (gd_y (d := 16) (by kernel_rfl) rfl hb68) (f0 := (.func 73)) (aos := #[(.tmp 18), (.const (vi 1)), (.tmp 20)]) (ats := #[3, 3, 3]) (fid := 73) (first := #[]) (cap := #[]) (args := [(vi x27.Lo), (vi 1), (vi x27.Hi)]) rfl co_air_within (rfl) hs65 (c_air_within N w64 F4 hs65.pers (x27.Lo) (1) (x27.Hi) _ hr73) ?_
     intro v75 F5 w76 hs77 le78 hp79
     obtain rfl := hp79
     refine Dgl 10 22 4 (.bool (!r72)) [tt, tt, tt, tt, tt, tt, tt, tt, tt, tt, tt, ff, ff, ff, ff, ff, ff, ff, ff, ff, ff, ff, ff, ff, ff, ff, ff, ff, ff, ff, ff, ff, ff, ff, ff, ff, ff, ff, ff, ff, ff, ff, ff] 4 false 16 hb68 (fun _ hq => run_not (t := 4) (x := (.tmp 21)) (a := r72) rfl) ?_
     refine Dtl 11 23 4 _ [tt, tt, tt, tt, tt, tt, tt, tt, tt, tt, tt, tt, ff, ff, ff, ff, ff, ff, ff, ff, ff, ff, ff, ff, ff, ff, ff, ff, ff, ff, ff, ff, ff, ff, ff, ff, ff, ff, ff, ff, ff, ff, ff] (fun _ hq => p0 16 (.const (.bool true)) (.tmp 22) (.bool (!r72)) hb68) ?_
     refine Dtl 12 24 4 _ [tt, tt, tt, tt, tt, tt, tt, tt, tt, tt, tt, tt, tt, ff, ff, ff, ff, ff, ff, ff, ff, ff, ff, ff, ff, ff, ff, ff, ff, ff, ff, ff, ff, ff, ff, ff, ff, ff, ff, ff, ff, ff, ff] (fun _ hq => mv 23 (.bool (!r72))) ?_
     refine DWP.split (!r72) (fun hb80 => ?_) (fun hb80 => ?_)
     ·have h81 := cond_t h74 hb80
      refine Dkl [(13, 25), (14, 26), (15, 27)] 12 false 24 hb80 [tt, tt, tt, tt, tt, tt, tt, tt, tt, tt, tt, tt, tt, tt, tt, tt, ff, ff, ff, ff, ff, ff, ff, ff, ff, ff, ff, ff, ff, ff, ff, ff, ff, ff, ff, ff, ff, ff, ff, ff, ff, ff, ff] ?_
      refine Dtl 16 28 4 _ [tt, tt, tt, tt, tt, tt, tt, tt, tt, tt, tt, tt, tt, tt, tt, tt, tt, ff, ff, ff, ff, ff, ff, ff, ff, ff, ff, ff, ff, ff, ff, ff, ff, ff, ff, ff, ff, ff, ff, ff, ff, ff, ff] (fun _ hq => p1 24 (.const (.bool true)) (.tmp 27) (.bool true) hb80) ?_
      refine Dtl 17 29 4 _ [tt, tt, tt, tt, tt, tt, tt, tt, tt, tt, tt, tt, tt, tt, tt, tt, tt, tt, ff, ff, ff, ff, ff, ff, ff, ff, ff, ff, ff, ff, ff, ff, ff, ff, ff, ff, ff, ff, ff, ff, ff, ff, ff] (fun _ hq => mv 28 (.bool true)) ?_
      refine Dkl [(18, 30), (19, 31), (20, 32)] 17 false 29 rfl [tt, tt, tt, tt, tt, tt, tt, tt, tt, tt, tt, tt, tt, tt, tt, tt, tt, tt, tt, tt, tt, ff, ff, ff, ff, ff, ff, ff, ff, ff, ff, ff, ff, ff, ff, ff, ff, ff, ff, ff, ff, ff, ff] ?_
      refine Dul [(21, 33), (22, 34), (23, 35), (24, 36), (25, 37), (26, 38)] 20 true 32 [tt, tt, tt, tt, tt, tt, tt, tt, tt, tt, tt, tt, tt, tt, tt, tt, tt, tt, tt, tt, tt, tt, tt, tt, tt, tt, tt, ff, ff, ff, ff, ff, ff, ff, ff, ff, ff, ff, ff, ff, ff, ff, ff] ?_
      refine Dul [(27, 39), (28, 40), (29, 41), (30, 42)] 20 true 32 [tt, tt, tt, tt, tt, tt, tt, tt, tt, tt, tt, tt, tt, tt, tt, tt, tt, tt, tt, tt, tt, tt, tt, tt, tt, tt, tt, tt, tt, tt, tt, ff, ff, ff, ff, ff, ff, ff, ff, ff, ff, ff, ff] ?_
      refine Dul [(31, 43), (32, 44), (33, 45), (34, 46), (35, 47), (36, 48)] 30 false 42 [tt, tt, tt, tt, tt, tt, tt, tt, tt, tt, tt, tt, tt, tt, tt, tt, tt, tt, tt, tt, tt, tt, tt, tt, tt, tt, tt, tt, tt, tt, tt, tt, tt, tt, tt, tt, tt, ff, ff, ff, ff, ff, ff] ?_
      refine Dul [(37, 49), (38, 50), (39, 51)] 30 false 42 [tt, tt, tt, tt, tt, tt, tt, tt, tt, tt, tt, tt, tt, tt, tt, tt, tt, tt, tt, tt, tt, tt, tt, tt, tt, tt, tt, tt, tt, tt, tt, tt, tt, tt, tt, tt, tt, tt, tt, tt, ff, ff, ff] ?_
      refine Dul [(40, 52)] 20 true 32 [tt, tt, tt, tt, tt, tt, tt, tt, tt, tt, tt, tt, tt, tt, tt, tt, tt, tt, tt, tt, tt, tt, tt, tt, tt, tt, tt, tt, tt, tt, tt, tt, tt, tt, tt, tt, tt, tt, tt, tt, tt, ff, ff] ?_
      refine Dkl [(41, 53)] 17 false 29 rfl [tt, tt, tt, tt, tt, tt, tt, tt, tt, tt, tt, tt, tt, tt, tt, tt, tt, tt, tt, tt, tt, tt, tt, tt, tt, tt, tt, tt, tt, tt, tt, tt, tt, tt, tt, tt, tt, tt, tt, tt, tt, tt, ff] ?_
      refine Dtl 42 54 4 _ [tt, tt, tt, tt, tt, tt, tt, tt, tt, tt, tt, tt, tt, tt, tt, tt, tt, tt, tt, tt, tt, tt, tt, tt, tt, tt, tt, tt, tt, tt, tt, tt, tt, tt, tt, tt, tt, tt, tt, tt, tt, tt, tt] (fun _ hq => p1 29 (.const (.bool true)) (.tmp 53) (.bool true) rfl) ?_
      obtain rfl := some_inj h81
      have hs82 : HS w0 F0 w76 F5 [] := hs77.drop 0
      exact DWP.done (by kernel_rfl) ⟨F5, hs82, (le66.trans le78), e8, e9, e10, e11, e12, rfl⟩
     ·have h83 := cond_f h74 hb80
      refine Dgl 13 25 0 (.pointer (some ⟨b41, 2, none⟩)) [tt, tt, tt, tt, tt, tt, tt, tt, tt, tt, tt, tt, tt, tt, ff, ff, ff, ff, ff, ff, ff, ff, ff, ff, ff, ff, ff, ff, ff, ff, ff, ff, ff, ff, ff, ff, ff, ff, ff, ff, ff, ff, ff] 12 false 24 hb80 (fun _ hq => fa 40 4 2 2 1 b41 0 2) ?_
      refine Dgl 14 26 3 _ [tt, tt, tt, tt, tt, tt, tt, tt, tt, tt, tt, tt, tt, tt, tt, ff, ff, ff, ff, ff, ff, ff, ff, ff, ff, ff, ff, ff, ff, ff, ff, ff, ff, ff, ff, ff, ff, ff, ff, ff, ff, ff, ff] 12 false 24 hb80 (fun _ hq => ld 3 25 b41 2 false 1 (vi x27.Hi) (hq.1.2 0 _ _ rfl)) ?_
      refine Dgl 15 27 4 (.bool (decide (x27.Hi > 10000000))) [tt, tt, tt, tt, tt, tt, tt, tt, tt, tt, tt, tt, tt, tt, tt, tt, ff, ff, ff, ff, ff, ff, ff, ff, ff, ff, ff, ff, ff, ff, ff, ff, ff, ff, ff, ff, ff, ff, ff, ff, ff, ff, ff] 12 false 24 hb80 (fun _ hq => run_gtr (t := 3) (t' := 3) (x := (.tmp 26)) (y := (.const (vi 10000000))) (k := .i64) (a := x27.Hi) (b := 10000000) rfl rfl) ?_
      refine Dtl 16 28 4 _ [tt, tt, tt, tt, tt, tt, tt, tt, tt, tt, tt, tt, tt, tt, tt, tt, tt, ff, ff, ff, ff, ff, ff, ff, ff, ff, ff, ff, ff, ff, ff, ff, ff, ff, ff, ff, ff, ff, ff, ff, ff, ff, ff] (fun _ hq => p0 24 (.const (.bool true)) (.tmp 27) (.bool (decide (x27.Hi > 10000000))) hb80) ?_
      refine Dtl 17 29 4 _ [tt, tt, tt, tt, tt, tt, tt, tt, tt, tt, tt, tt, tt, tt, tt, tt, tt, tt, ff, ff, ff, ff, ff, ff, ff, ff, ff, ff, ff, ff, ff, ff, ff, ff, ff, ff, ff, ff, ff, ff, ff, ff, ff] (fun _ hq => mv 28 (.bool (decide (x27.Hi > 10000000)))) ?_
      refine DWP.split (decide (x27.Hi > 10000000)) (fun hb84 => ?_) (fun hb84 => ?_)
      ·have h85 := cond_t h83 hb84
       refine Dkl [(18, 30), (19, 31), (20, 32)] 17 false 29 hb84 [tt, tt, tt, tt, tt, tt, tt, tt, tt, tt, tt, tt, tt, tt, tt, tt, tt, tt, tt, tt, tt, ff, ff, ff, ff, ff, ff, ff, ff, ff, ff, ff, ff, ff, ff, ff, ff, ff, ff, ff, ff, ff, ff] ?_
       refine Dul [(21, 33), (22, 34), (23, 35), (24, 36), (25, 37), (26, 38)] 20 true 32 [tt, tt, tt, tt, tt, tt, tt, tt, tt, tt, tt, tt, tt, tt, tt, tt, tt, tt, tt, tt, tt, tt, tt, tt, tt, tt, tt, ff, ff, ff, ff, ff, ff, ff, ff, ff, ff, ff, ff, ff, ff, ff, ff] ?_
       refine Dul [(27, 39), (28, 40), (29, 41), (30, 42)] 20 true 32 [tt, tt, tt, tt, tt, tt, tt, tt, tt, tt, tt, tt, tt, tt, tt, tt, tt, tt, tt, tt, tt, tt, tt, tt, tt, tt, tt, tt, tt, tt, tt, ff, ff, ff, ff, ff, ff, ff, ff, ff, ff, ff, ff] ?_
       refine Dul [(31, 43), (32, 44), (33, 45), (34, 46), (35, 47), (36, 48)] 30 false 42 [tt, tt, tt, tt, tt, tt, tt, tt, tt, tt, tt, tt, tt, tt, tt, tt, tt, tt, tt, tt, tt, tt, tt, tt, tt, tt, tt, tt, tt, tt, tt, tt, tt, tt, tt, tt, tt, ff, ff, ff, ff, ff, ff] ?_
       refine Dul [(37, 49), (38, 50), (39, 51)] 30 false 42 [tt, tt, tt, tt, tt, tt, tt, tt, tt, tt, tt, tt, tt, tt, tt, tt, tt, tt, tt, tt, tt, tt, tt, tt, tt, tt, tt, tt, tt, tt, tt, tt, tt, tt, tt, tt, tt, tt, tt, tt, ff, ff, ff] ?_
       refine Dul [(40, 52)] 20 true 32 [tt, tt, tt, tt, tt, tt, tt, tt, tt, tt, tt, tt, tt, tt, tt, tt, tt, tt, tt, tt, tt, tt, tt, tt, tt, tt, tt, tt, tt, tt, tt, tt, tt, tt, tt, tt, tt, tt, tt, tt, tt, ff, ff] ?_
       refine Dkl [(41, 53)] 17 false 29 hb84 [tt, tt, tt, tt, tt, tt, tt, tt, tt, tt, tt, tt, tt, tt, tt, tt, tt, tt, tt, tt, tt, tt, tt, tt, tt, tt, tt, tt, tt, tt, tt, tt, tt, tt, tt, tt, tt, tt, tt, tt, tt, tt, ff] ?_
       refine Dtl 42 54 4 _ [tt, tt, tt, tt, tt, tt, tt, tt, tt, tt, tt, tt, tt, tt, tt, tt, tt, tt, tt, tt, tt, tt, tt, tt, tt, tt, tt, tt, tt, tt, tt, tt, tt, tt, tt, tt, tt, tt, tt, tt, tt, tt, tt] (fun _ hq => p1 29 (.const (.bool true)) (.tmp 53) (.bool true) hb84) ?_
       obtain rfl := some_inj h85
       have hs86 : HS w0 F0 w76 F5 [] := hs77.drop 0
       exact DWP.done (by kernel_rfl) ⟨F5, hs86, (le66.trans le78), e8, e9, e10, e11, e12, rfl⟩
      ·have h87 := cond_f h83 hb84
       refine Dgl 18 30 3 _ [tt, tt, tt, tt, tt, tt, tt, tt, tt, tt, tt, tt, tt, tt, tt, tt, tt, tt, tt, ff, ff, ff, ff, ff, ff, ff, ff, ff, ff, ff, ff, ff, ff, ff, ff, ff, ff, ff, ff, ff, ff, ff, ff] 17 false 29 hb84 (fun _ hq => mv 3 (vi s4)) ?_
       refine Dgl 19 31 4 (.bool (decide (s4 > 0))) [tt, tt, tt, tt, tt, tt, tt, tt, tt, tt, tt, tt, tt, tt, tt, tt, tt, tt, tt, tt, ff, ff, ff, ff, ff, ff, ff, ff, ff, ff, ff, ff, ff, ff, ff, ff, ff, ff, ff, ff, ff, ff, ff] 17 false 29 hb84 (fun _ hq => run_gtr (t := 3) (t' := 3) (x := (.tmp 30)) (y := (.const (vi 0))) (k := .i64) (a := s4) (b := 0) rfl rfl) ?_
       refine Dgl 20 32 4 _ [tt, tt, tt, tt, tt, tt, tt, tt, tt, tt, tt, tt, tt, tt, tt, tt, tt, tt, tt, tt, tt, ff, ff, ff, ff, ff, ff, ff, ff, ff, ff, ff, ff, ff, ff, ff, ff, ff, ff, ff, ff, ff, ff] 17 false 29 hb84 (fun _ hq => mv 31 (.bool (decide (s4 > 0)))) ?_
       refine DWP.split (decide (s4 > 0)) (fun hb88 => ?_) (fun hb88 => ?_)
       ·have h89 := cond_t h87 hb88
        refine Dgl 21 33 0 (.pointer (some ⟨b41, 0, none⟩)) [tt, tt, tt, tt, tt, tt, tt, tt, tt, tt, tt, tt, tt, tt, tt, tt, tt, tt, tt, tt, tt, tt, ff, ff, ff, ff, ff, ff, ff, ff, ff, ff, ff, ff, ff, ff, ff, ff, ff, ff, ff, ff, ff] 20 true 32 hb88 (fun _ hq => fa 40 4 0 0 1 b41 0 0) ?_
        refine Dgl 22 34 3 _ [tt, tt, tt, tt, tt, tt, tt, tt, tt, tt, tt, tt, tt, tt, tt, tt, tt, tt, tt, tt, tt, tt, tt, ff, ff, ff, ff, ff, ff, ff, ff, ff, ff, ff, ff, ff, ff, ff, ff, ff, ff, ff, ff] 20 true 32 hb88 (fun _ hq => ld 3 33 b41 0 false 1 (vi x27.ID) (hq.1.2 0 _ _ rfl)) ?_
        refine Dgl 23 35 32 _ [tt, tt, tt, tt, tt, tt, tt, tt, tt, tt, tt, tt, tt, tt, tt, tt, tt, tt, tt, tt, tt, tt, tt, tt, ff, ff, ff, ff, ff, ff, ff, ff, ff, ff, ff, ff, ff, ff, ff, ff, ff, ff, ff] 20 true 32 hb88 (fun _ hq => mv 0 (.slice (some ⟨b31, o32, none⟩) x0.length n0_0) e9) ?_
        refine Dgl 24 36 3 _ [tt, tt, tt, tt, tt, tt, tt, tt, tt, tt, tt, tt, tt, tt, tt, tt, tt, tt, tt, tt, tt, tt, tt, tt, tt, ff, ff, ff, ff, ff, ff, ff, ff, ff, ff, ff, ff, ff, ff, ff, ff, ff, ff] 20 true 32 hb88 (fun _ hq => mv 3 (vi s4)) ?_
        refine Dgl 25 37 3 (vi (W64 (s4 - 1))) [tt, tt, tt, tt, tt, tt, tt, tt, tt, tt, tt, tt, tt, tt, tt, tt, tt, tt, tt, tt, tt, tt, tt, tt, tt, tt, ff, ff, ff, ff, ff, ff, ff, ff, ff, ff, ff, ff, ff, ff, ff, ff, ff] 20 true 32 hb88 (fun _ hq => run_sub (t := 3) (t' := 3) (x := (.tmp 36)) (y := (.const (vi 1))) (k := .i64) (a := s4) (b := 1) rfl rfl) ?_
        obtain ⟨x90, hx91, h93⟩ := bind_some h89
        obtain ⟨hi92, hx91'⟩ := idx_spec hx91
        have hc95 := hE38 _ _ hx91'
        refine Dgl 26 38 0 (.pointer (some ⟨b31, (o32 + ((W64 (s4 - 1)) : Int).toNat * 3), none⟩)) [tt, tt, tt, tt, tt, tt, tt, tt, tt, tt, tt, tt, tt, tt, tt, tt, tt, tt, tt, tt, tt, tt, tt, tt, tt, tt, tt, ff, ff, ff, ff, ff, ff, ff, ff, ff, ff, ff, ff, ff, ff, ff, ff] 20 true 32 hb88 (fun _ hq => ix 32 35 37 b31 o32 40 3 24 hi92) ?_
        refine Dgl 27 39 0 (.pointer (some ⟨b31, (o32 + ((W64 (s4 - 1)) : Int).toNat * 3), none⟩)) [tt, tt, tt, tt, tt, tt, tt, tt, tt, tt, tt, tt, tt, tt, tt, tt, tt, tt, tt, tt, tt, tt, tt, tt, tt, tt, tt, tt, ff, ff, ff, ff, ff, ff, ff, ff, ff, ff, ff, ff, ff, ff, ff] 20 true 32 hb88 (fun _ hq => fa 40 38 0 0 1 b31 (o32 + ((W64 (s4 - 1)) : Int).toNat * 3) (o32 + ((W64 (s4 - 1)) : Int).toNat * 3)) ?_
        refine Dgl 28 40 3 _ [tt, tt, tt, tt, tt, tt, tt, tt, tt, tt, tt, tt, tt, tt, tt, tt, tt, tt, tt, tt, tt, tt, tt, tt, tt, tt, tt, tt, tt, ff, ff, ff, ff, ff, ff, ff, ff, ff, ff, ff, ff, ff, ff] 20 true 32 hb88 (fun _ hq => lx 3 39 0 3 false 1 (vi x90.ID) (hq.1.1 _ _ hF37) hc95) ?_
        refine Dgl 29 41 4 (.bool (decide (x27.ID ≤ x90.ID))) [tt, tt, tt, tt, tt, tt, tt, tt, tt, tt, tt, tt, tt, tt, tt, tt, tt, tt, tt, tt, tt, tt, tt, tt, tt, tt, tt, tt, tt, tt, ff, ff, ff, ff, ff, ff, ff, ff, ff, ff, ff, ff, ff] 20 true 32 hb88 (fun _ hq => run_leq (t := 3) (t' := 3) (x := (.tmp 34)) (y := (.tmp 40)) (k := .i64) (a := x27.ID) (b := x90.ID) rfl rfl) ?_
        refine Dgl 30 42 4 _ [tt, tt, tt, tt, tt, tt, tt, tt, tt, tt, tt, tt, tt, tt, tt, tt, tt, tt, tt, tt, tt, tt, tt, tt, tt, tt, tt, tt, tt, tt, tt, ff, ff, ff, ff, ff, ff, ff, ff, ff, ff, ff, ff] 20 true 32 hb88 (fun _ hq => mv 41 (.bool (decide (x27.ID ≤ x90.ID)))) ?_
        refine DWP.split (decide (x27.ID ≤ x90.ID)) (fun hb96 => ?_) (fun hb96 => ?_)
        ·have h97 := cond_t h93 hb96
         refine Dkl [(31, 43), (32, 44), (33, 45), (34, 46), (35, 47), (36, 48)] 30 false 42 hb96 [tt, tt, tt, tt, tt, tt, tt, tt, tt, tt, tt, tt, tt, tt, tt, tt, tt, tt, tt, tt, tt, tt, tt, tt, tt, tt, tt, tt, tt, tt, tt, tt, tt, tt, tt, tt, tt, ff, ff, ff, ff, ff, ff] ?_
         refine Dkl [(37, 49), (38, 50), (39, 51)] 30 false 42 hb96 [tt, tt, tt, tt, tt, tt, tt, tt, tt, tt, tt, tt, tt, tt, tt, tt, tt, tt, tt, tt, tt, tt, tt, tt, tt, tt, tt, tt, tt, tt, tt, tt, tt, tt, tt, tt, tt, tt, tt, tt, ff, ff, ff] ?_
         refine Dgl 40 52 4 _ [tt, tt, tt, tt, tt, tt, tt, tt, tt, tt, tt, tt, tt, tt, tt, tt, tt, tt, tt, tt, tt, tt, tt, tt, tt, tt, tt, tt, tt, tt, tt, tt, tt, tt, tt, tt, tt, tt, tt, tt, tt, ff, ff] 20 true 32 hb88 (fun _ hq => p1 42 (.const (.bool true)) (.tmp 51) (.bool true) hb96) ?_
         refine Dgl 41 53 4 _ [tt, tt, tt, tt, tt, tt, tt, tt, tt, tt, tt, tt, tt, tt, tt, tt, tt, tt, tt, tt, tt, tt, tt, tt, tt, tt, tt, tt, tt, tt, tt, tt, tt, tt, tt, tt, tt, tt, tt, tt, tt, tt, ff] 17 false 29 hb84 (fun _ hq => p1 32 (.tmp 52) (.const (.bool false)) (.bool true) hb88) ?_
         refine Dtl 42 54 4 _ [tt, tt, tt, tt, tt, tt, tt, tt, tt, tt, tt, tt, tt, tt, tt, tt, tt, tt, tt, tt, tt, tt, tt, tt, tt, tt, tt, tt, tt, tt, tt, tt, tt, tt, tt, tt, tt, tt, tt, tt, tt, tt, tt] (fun _ hq => p0 29 (.const (.bool true)) (.tmp 53) (.bool true) hb84) ?_
         obtain rfl := some_inj h97
         have hs98 : HS w0 F0 w76 F5 [] := hs77.drop 0
         exact DWP.done (by kernel_rfl) ⟨F5, hs98, (le66.trans le78), e8, e9, e10, e11, e12, rfl⟩
        ·have h99 := cond_f h93 hb96
         refine Dgl 31 43 0 (.pointer (some ⟨b41, 1, none⟩)) [tt, tt, tt, tt, tt, tt, tt, tt, tt, tt, tt, tt, tt, tt, tt, tt, tt, tt, tt, tt, tt, tt, tt, tt, tt, tt, tt, tt, tt, tt, tt, tt, ff, ff, ff, ff, ff, ff, ff, ff, ff, ff, ff] 30 false 42 hb96 (fun _ hq => fa 40 4 1 1 1 b41 0 1) ?_
         refine Dgl 32 44 3 _ [tt, tt, tt, tt, tt, tt, tt, tt, tt, tt, tt, tt, tt, tt, tt, tt, tt, tt, tt, tt, tt, tt, tt, tt, tt, tt, tt, tt, tt, tt, tt, tt, tt, ff, ff, ff, ff, ff, ff, ff, ff, ff, ff] 30 false 42 hb96 (fun _ hq => ld 3 43 b41 1 false 1 (vi x27.Lo) (hq.1.2 0 _ _ rfl)) ?_
         refine Dgl 33 45 32 _ [tt, tt, tt, tt, tt, tt, tt, tt, tt, tt, tt, tt, tt, tt, tt, tt, tt, tt, tt, tt, tt, tt, tt, tt, tt, tt, tt, tt, tt, tt, tt, tt, tt, tt, ff, ff, ff, ff, ff, ff, ff, ff, ff] 30 false 42 hb96 (fun _ hq => mv 0 (.slice (some ⟨b31, o32, none⟩) x0.length n0_0) e9) ?_
         refine Dgl 34 46 3 _ [tt, tt, tt, tt, tt, tt, tt, tt, tt, tt, tt, tt, tt, tt, tt, tt, tt, tt, tt, tt, tt, tt, tt, tt, tt, tt, tt, tt, tt, tt, tt, tt, tt, tt, tt, ff, ff, ff, ff, ff, ff, ff, ff] 30 false 42 hb96 (fun _ hq => mv 3 (vi s4)) ?_
         refine Dgl 35 47 3 (vi (W64 (s4 - 1))) [tt, tt, tt, tt, tt, tt, tt, tt, tt, tt, tt, tt, tt, tt, tt, tt, tt, tt, tt, tt, tt, tt, tt, tt, tt, tt, tt, tt, tt, tt, tt, tt, tt, tt, tt, tt, ff, ff, ff, ff, ff, ff, ff] 30 false 42 hb96 (fun _ hq => run_sub (t := 3) (t' := 3) (x := (.tmp 46)) (y := (.const (vi 1))) (k := .i64) (a := s4) (b := 1) rfl rfl) ?_
         obtain ⟨x100, hx101, h103⟩ := bind_some h99
         obtain ⟨hi102, hx101'⟩ := idx_spec hx101
         have hc105 := hE38 _ _ hx101'
         refine Dgl 36 48 0 (.pointer (some ⟨b31, (o32 + ((W64 (s4 - 1)) : Int).toNat * 3), none⟩)) [tt, tt, tt, tt, tt, tt, tt, tt, tt, tt, tt, tt, tt, tt, tt, tt, tt, tt, tt, tt, tt, tt, tt, tt, tt, tt, tt, tt, tt, tt, tt, tt, tt, tt, tt, tt, tt, ff, ff, ff, ff, ff, ff] 30 false 42 hb96 (fun _ hq => ix 32 45 47 b31 o32 40 3 24 hi102) ?_
         refine Dgl 37 49 0 (.pointer (some ⟨b31, ((o32 + ((W64 (s4 - 1)) : Int).toNat * 3) + 2), none⟩)) [tt, tt, tt, tt, tt, tt, tt, tt, tt, tt, tt, tt, tt, tt, tt, tt, tt, tt, tt, tt, tt, tt, tt, tt, tt, tt, tt, tt, tt, tt, tt, tt, tt, tt, tt, tt, tt, tt, ff, ff, ff, ff, ff] 30 false 42 hb96 (fun _ hq => fa 40 48 2 2 1 b31 (o32 + ((W64 (s4 - 1)) : Int).toNat * 3) ((o32 + ((W64 (s4 - 1)) : Int).toNat * 3) + 2)) ?_
         refine Dgl 38 50 3 _ [tt, tt, tt, tt, tt, tt, tt, tt, tt, tt, tt, tt, tt, tt, tt, tt, tt, tt, tt, tt, tt, tt, tt, tt, tt, tt, tt, tt, tt, tt, tt, tt, tt, tt, tt, tt, tt, tt, tt, ff, ff, ff, ff] 30 false 42 hb96 (fun _ hq => lx 3 49 2 3 false 1 (vi x100.Hi) (hq.1.1 _ _ hF37) hc105) ?_
         refine Dgl 39 51 4 (.bool (decide (x27.Lo ≤ x100.Hi))) [tt, tt, tt, tt, tt, tt, tt, tt, tt, tt, tt, tt, tt, tt, tt, tt, tt, tt, tt, tt, tt, tt, tt, tt, tt, tt, tt, tt, tt, tt, tt, tt, tt, tt, tt, tt, tt, tt, tt, tt, ff, ff, ff] 30 false 42 hb96 (fun _ hq => run_leq (t := 3) (t' := 3) (x := (.tmp 44)) (y := (.tmp 50)) (k := .i64) (a := x27.Lo) (b := x100.Hi) rfl rfl) ?_
         refine Dgl 40 52 4 _ [tt, tt, tt, tt, tt, tt, tt, tt, tt, tt, tt, tt, tt, tt, tt, tt, tt, tt, tt, tt, tt, tt, tt, tt, tt, tt, tt, tt, tt, tt, tt, tt, tt, tt, tt, tt, tt, tt, tt, tt, tt, ff, ff] 20 true 32 hb88 (fun _ hq => p0 42 (.const (.bool true)) (.tmp 51) (.bool (decide (x27.Lo ≤ x100.Hi))) hb96) ?_
         refine Dgl 41 53 4 _ [tt, tt, tt, tt, tt, tt, tt, tt, tt, tt, tt, tt, tt, tt, tt, tt, tt, tt, tt, tt, tt, tt, tt, tt, tt, tt, tt, tt, tt, tt, tt, tt, tt, tt, tt, tt, tt, tt, tt, tt, tt, tt, ff] 17 false 29 hb84 (fun _ hq => p1 32 (.tmp 52) (.const (.bool false)) (.bool (decide (x27.Lo ≤ x100.Hi))) hb88) ?_
         refine Dtl 42 54 4 _ [tt, tt, tt, tt, tt, tt, tt, tt, tt, tt, tt, tt, tt, tt, tt, tt, tt, tt, tt, tt, tt, tt, tt, tt, tt, tt, tt, tt, tt, tt, tt, tt, tt, tt, tt, tt, tt, tt, tt, tt, tt, tt, tt] (fun _ hq => p0 29 (.const (.bool true)) (.tmp 53) (.bool (decide (x27.Lo ≤ x100.Hi))) hb84) ?_
         obtain rfl := some_inj h103
         have hs106 : HS w0 F0 w76 F5 [] := hs77.drop 0
         exact DWP.done (by kernel_rfl) ⟨F5, hs106, (le66.trans le78), e8, e9, e10, e11, e12, rfl⟩
       ·have h107 := cond_f h87 hb88
        refine Dkl [(21, 33), (22, 34), (23, 35), (24, 36), (25, 37), (26, 38)] 20 true 32 hb88 [tt, tt, tt, tt, tt, tt, tt, tt, tt, tt, tt, tt, tt, tt, tt, tt, tt, tt, tt, tt, tt, tt, tt, tt, tt, tt, tt, ff, ff, ff, ff, ff, ff, ff, ff, ff, ff, ff, ff, ff, ff, ff, ff] ?_
        refine Dkl [(27, 39), (28, 40), (29, 41), (30, 42)] 20 true 32 hb88 [tt, tt, tt, tt, tt, tt, tt, tt, tt, tt, tt, tt, tt, tt, tt, tt, tt, tt, tt, tt, tt, tt, tt, tt, tt, tt, tt, tt, tt, tt, tt, ff, ff, ff, ff, ff, ff, ff, ff, ff, ff, ff, ff] ?_
        refine Dul [(31, 43), (32, 44), (33, 45), (34, 46), (35, 47), (36, 48)] 30 false 42 [tt, tt, tt, tt, tt, tt, tt, tt, tt, tt, tt, tt, tt, tt, tt, tt, tt, tt, tt, tt, tt, tt, tt, tt, tt, tt, tt, tt, tt, tt, tt, tt, tt, tt, tt, tt, tt, ff, ff, ff, ff, ff, ff] ?_
        refine Dul [(37, 49), (38, 50), (39, 51)] 30 false 42 [tt, tt, tt, tt, tt, tt, tt, tt, tt, tt, tt, tt, tt, tt, tt, tt, tt, tt, tt, tt, tt, tt, tt, tt, tt, tt, tt, tt, tt, tt, tt, tt, tt, tt, tt, tt, tt, tt, tt, tt, ff, ff, ff] ?_
        refine Dkl [(40, 52)] 20 true 32 hb88 [tt, tt, tt, tt, tt, tt, tt, tt, tt, tt, tt, tt, tt, tt, tt, tt, tt, tt, tt, tt, tt, tt, tt, tt, tt, tt, tt, tt, tt, tt, tt, tt, tt, tt, tt, tt, tt, tt, tt, tt, tt, ff, ff] ?_
        refine Dgl 41 53 4 _ [tt, tt, tt, tt, tt, tt, tt, tt, tt, tt, tt, tt, tt, tt, tt, tt, tt, tt, tt, tt, tt, tt, tt, tt, tt, tt, tt, tt, tt, tt, tt, tt, tt, tt, tt, tt, tt, tt, tt, tt, tt, tt, ff] 17 false 29 hb84 (fun _ hq => p0 32 (.tmp 52) (.const (.bool false)) (.bool false) hb88) ?_
        refine Dtl 42 54 4 _ [tt, tt, tt, tt, tt, tt, tt, tt, tt, tt, tt, tt, tt, tt, tt, tt, tt, tt, tt, tt, tt, tt, tt, tt, tt, tt, tt, tt, tt, tt, tt, tt, tt, tt, tt, tt, tt, tt, tt, tt, tt, tt, tt] (fun _ hq => p0 29 (.const (.bool true)) (.tmp 53) (.bool false) hb84) ?_
        obtain rfl := some_inj h107
        have hs108 : HS w0 F0 w76 F5 [] := hs77.drop 0
        exact DWP.done (by kernel_rfl) ⟨F5, hs108, (le66.trans le78), e8, e9, e10, e11, e12, rfl⟩
   ·rintro f w48 ⟨F3, hs49, le50, e52, e53, e54, e55, e56, e57⟩
    refine thenQ_nrm ?_
    refine CWP.cond (t := j51) (by kernel_rfl) e57 (fun hb109 => ?_) (fun hb109 => ?_)
    ·have h110 := cond_t h59 hb109
     refine Sq (Rg [0] ?_)
     refine V 2 4 (mc (.bool false) (.bool false)) ?_
     refine Nt ?_
     refine CWP.ret (by kernel_rfl) ?_
     refine blockQ_ret ?_
     refine thenQ_ret ?_
     refine thenQ_ret ?_
     refine blockQ_ret ?_
     have hret := iter_ret h110 hnx24
     subst hret
     refine .inr ?_
     refine thenQ_ret ?_
     have hfin := some_inj h3
     subst hfin
     exact ⟨e52, (.bool false), res_of (l := [.tmp 2]) (by kernel_rfl) (vs := [(.bool false)]) ⟨rfl, trivial⟩, (.bool false), F3, rfl, hs49.clear, rfl⟩
    ·have h111 := cond_f h59 hb109
     refine Sc ?_
     refine blockQ_nrm ?_
     refine thenQ_nrm ?_
     refine Rg [0, 1] ?_
     refine V 55 3 (run_add (t := 3) (t' := 3) (x := (.tmp 7)) (y := (.const (vi 1))) (k := .i64) (a := s4) (b := 1) e56 rfl) ?_
     refine V 7 3 (mv 55 (vi (W64 (s4 + 1)))) ?_
     refine RWP.nil ?_
     have hn112 := iter_next h111 hnx24
     exact ⟨m21, Nat.lt_succ_self _, (W64 (s4 + 1)), F3, hn112, hs49, (le7.trans le50), e52, e53, e54, e55, rfl⟩
  ·have h113 := cond_f hb23 hb25
   refine CWP.exit (by kernel_rfl) ?_
   refine thenQ_ex ?_
   refine thenQ_ex ?_
   refine blockQ_hit rfl ?_
   have ho114 := iter_done h113 hnx24
   exact .inl ⟨rfl, s4, F1, ho114, hs6, le7, e8, e9⟩
 ·rintro f w14 ⟨s13, F2, rfl, hs15, le16, e17, e18⟩
  have h115 := k_done h3
  refine thenQ_nrm ?_
  refine Sq (Rg [0, 1, 2, 3] ?_)
  refine V 56 32 (mv 0 (.slice a0_0 x0.length n0_0) e18) ?_
  refine V 57 3 (ln 56 32 a0_0 x0.length n0_0 40 3 24) ?_
  refine V 58 4 (run_leq (t := 3) (t' := 3) (x := (.tmp 57)) (y := (.const (vi 16))) (k := .i64) (a := (x0.length : Int)) (b := 16) rfl rfl) ?_
  refine V 2 4 (ma 58 (.bool (decide ((x0.length : Int) ≤ 16)))) ?_
  refine Nt ?_
  refine CWP.ret (by kernel_rfl) ?_
  have hfin := some_inj h115
  subst hfin
  exact ⟨e17, (.bool (decide ((x0.length : Int) ≤ 16))), res_of (l := [.tmp 2]) (by kernel_rfl) (vs := [(.bool (decide ((x0.length : Int) ≤ 16)))]) ⟨rfl, trivial⟩, (.bool (decide ((x0.length : Int) ≤ 16))), F2, rfl, hs15.clear, rfl⟩
end Go.Proofs.YtlddakefmfcblaaGreatDoor
namespace Go.Proofs.YtlddakefmfcblaaGreatDoor
open Go.Proofs
def air_wrongBands (N : Nat) (x0 : (List Band)) (x1 : Int) : Option Int :=
 ((air_ValidBands N x0).bind fun r1 => (bif (!r1) then some 11 else ((air_within N x1 1 10000000).bind fun r12 => (bif (!r12) then some 1 else some 0))))
theorem co_air_wrongBands : CallOk Tryz.prog 68 := fun _ _ => by kernel_rfl
set_option maxHeartbeats 4000000 in
set_option maxRecDepth 100000 in
theorem c_air_wrongBands (N : Nat) (w0 : World) (F0 : Mem) (hF : ∀ b o, F0 b = some o → w0.heap[b]? = some o) (x0 : (List Band)) (a0_0 : Option Addr) (n0_0 : Nat) (hb0_0 : LC x0.length n0_0) (hs0_0 : SlA tBand F0 a0_0 x0) (x1 : Int) (r : Int) (h : air_wrongBands N x0 x1 = some r) :
  Calls Tryz.prog 68 ([(.slice a0_0 x0.length n0_0), (vi x1)] : List Value).toArray w0 (FRet w0 F0 fun F' v => v = (vi r)) := by
 have hs0 := HS.start hF
 refine calls_of (n := 13) (c := bodyOf Tryz.f68) Tryz.func68 (by kernel_rfl) (by kernel_rfl) (by kernel_rfl) ?_
 refine Sq (Rg [0] ?_)
 refine V 4 23 (mc (vi 0) (vi 0)) ?_
 refine Nss ?_
 refine Bk ?_
 refine Sq (Rg [0, 1, 2, 3] ?_)
 refine V 6 32 (mv 0 (.slice a0_0 x0.length n0_0)) ?_
 obtain ⟨r1, hr2, h3⟩ := bind_some h
 refine Cl 7 4 26 #[(.tmp 6)] #[32] co_air_ValidBands hs0 (c_air_ValidBands N w0 F0 hs0.pers (x0) a0_0 n0_0 hb0_0 hs0_0 _ hr2) ?_
 intro v4 F1 w5 hs6 le7 hp8
 obtain rfl := hp8
 refine V 8 4 (run_not (t := 4) (x := (.tmp 7)) (a := r1) rfl) ?_
 refine V 5 4 (ma 8 (.bool (!r1))) ?_
 refine Nt ?_
 refine CWP.cond (t := (!r1)) (by kernel_rfl) rfl (fun hb9 => ?_) (fun hb9 => ?_)
 ·have h10 := cond_t h3 hb9
  refine Sq (Rg [0] ?_)
  refine V 4 23 (mc (vi 11) (vi 11)) ?_
  refine Nt ?_
  refine CWP.ret (by kernel_rfl) ?_
  refine blockQ_ret ?_
  refine thenQ_ret ?_
  have hfin := some_inj h10
  subst hfin
  exact ⟨rfl, (vi 11), res_of (l := [.tmp 4]) (by kernel_rfl) (vs := [(vi 11)]) ⟨rfl, trivial⟩, (vi 11), F1, rfl, hs6.clear, rfl⟩
 ·have h11 := cond_f h3 hb9
  refine Sq (Rg [0, 1, 2, 3] ?_)
  refine V 10 3 (mv 1 (vi x1)) ?_
  obtain ⟨r12, hr13, h14⟩ := bind_some h11
  refine Cl 11 4 73 #[(.tmp 10), (.const (vi 1)), (.const (vi 10000000))] #[3, 3, 3] co_air_within hs6 (c_air_within N w5 F1 hs6.pers (x1) (1) (10000000) _ hr13) ?_
  intro v15 F2 w16 hs17 le18 hp19
  obtain rfl := hp19
  refine V 12 4 (run_not (t := 4) (x := (.tmp 11)) (a := r12) rfl) ?_
  refine V 9 4 (ma 12 (.bool (!r12))) ?_
  refine Nt ?_
  refine CWP.cond (t := (!r12)) (by kernel_rfl) rfl (fun hb20 => ?_) (fun hb20 => ?_)
  ·have h21 := cond_t h14 hb20
   refine Sq (Rg [0] ?_)
   refine V 4 23 (mc (vi 1) (vi 1)) ?_
   refine Nt ?_
   refine CWP.ret (by kernel_rfl) ?_
   refine blockQ_ret ?_
   refine thenQ_ret ?_
   have hfin := some_inj h21
   subst hfin
   exact ⟨rfl, (vi 1), res_of (l := [.tmp 4]) (by kernel_rfl) (vs := [(vi 1)]) ⟨rfl, trivial⟩, (vi 1), F2, rfl, hs17.clear, rfl⟩
  ·have h22 := cond_f h14 hb20
   refine Sc ?_
   refine blockQ_nrm ?_
   refine thenQ_nrm ?_
   refine Sq (Rg [0] ?_)
   refine V 4 23 (mc (vi 0) (vi 0)) ?_
   refine Nt ?_
   refine CWP.ret (by kernel_rfl) ?_
   have hfin := some_inj h22
   subst hfin
   exact ⟨rfl, (vi 0), res_of (l := [.tmp 4]) (by kernel_rfl) (vs := [(vi 0)]) ⟨rfl, trivial⟩, (vi 0), F2, rfl, hs17.clear, rfl⟩
end Go.Proofs.YtlddakefmfcblaaGreatDoor
namespace Go.Proofs.YtlddakefmfcblaaGreatDoor
open Go.Proofs
def air_Nearest_1 (N : Nat) (x0 : Band) (z0 : Int) : Option Int :=
 some (max (max 0 (W64 (x0.Lo - z0))) (W64 (z0 - x0.Hi)))
theorem co_air_Nearest_1 : CallOk Tryz.prog 69 := fun _ _ => by kernel_rfl
set_option maxHeartbeats 4000000 in
set_option maxRecDepth 100000 in
theorem c_air_Nearest_1 (N : Nat) (w0 : World) (F0 : Mem) (hF : ∀ b o, F0 b = some o → w0.heap[b]? = some o) (x0 : Band) (bz0 : Nat) (z0 : Int) (hz0 : F0 bz0 = some (oc #[(vi z0)] 3)) (r : Int) (h : air_Nearest_1 N x0 z0 = some r) :
  Calls Tryz.prog 69 ([(.agg (kBand x0)), (.pointer (some ⟨bz0, 0, none⟩))] : List Value).toArray w0 (FRet w0 F0 fun F' v => v = (vi r)) := by
 have hs0 := HS.start hF
 refine calls_of (n := 13) (c := bodyOf Tryz.f69) Tryz.func69 (by kernel_rfl) (by kernel_rfl) (by kernel_rfl) ?_
 refine Sq (Rg [0, 1] ?_)
 refine Bx 2 0 0 40 (kBand x0) hs0 (fun b1 w2 (hs3 : HS w0 F0 w2 F0 [(sb b1 (kBand x0) 40)]) => ?_)
 refine V 3 3 (mc (vi 0) (vi 0)) ?_
 refine Nss (Rg [0, 1, 2, 3, 4, 5, 6, 7, 8, 9] ?_)
 refine V 4 0 (fa 40 2 1 1 1 b1 0 1) ?_
 refine V 5 3 (ld 3 4 b1 1 false 1 (vi x0.Lo) (hs3.ownAt (k := 0) rfl)) ?_
 refine V 6 3 (ld 3 1 bz0 0 false 1 (vi z0) (hs3.pers _ _ hz0)) ?_
 refine V 7 3 (run_sub (t := 3) (t' := 3) (x := (.tmp 5)) (y := (.tmp 6)) (k := .i64) (a := x0.Lo) (b := z0) rfl rfl) ?_
 refine V 8 3 (ld 3 1 bz0 0 false 1 (vi z0) (hs3.pers _ _ hz0)) ?_
 refine V 9 0 (fa 40 2 2 2 1 b1 0 2) ?_
 refine V 10 3 (ld 3 9 b1 2 false 1 (vi x0.Hi) (hs3.ownAt (k := 0) rfl)) ?_
 refine V 11 3 (run_sub (t := 3) (t' := 3) (x := (.tmp 8)) (y := (.tmp 10)) (k := .i64) (a := z0) (b := x0.Hi) rfl rfl) ?_
 refine V 12 3 (run_max3 (x := (.const (vi 0))) (y := (.tmp 7)) (z := (.tmp 11)) (ats := #[3, 3, 3]) (a := 0) (b := (W64 (x0.Lo - z0))) (c := (W64 (z0 - x0.Hi))) rfl rfl rfl) ?_
 refine V 3 3 (ma 12 (vi (max (max 0 (W64 (x0.Lo - z0))) (W64 (z0 - x0.Hi))))) ?_
 refine Nt ?_
 refine CWP.ret (by kernel_rfl) ?_
 have hfin := some_inj h
 subst hfin
 exact ⟨rfl, (vi (max (max 0 (W64 (x0.Lo - z0))) (W64 (z0 - x0.Hi)))), res_of (l := [.tmp 3]) (by kernel_rfl) (vs := [(vi (max (max 0 (W64 (x0.Lo - z0))) (W64 (z0 - x0.Hi))))]) ⟨rfl, trivial⟩, (vi (max (max 0 (W64 (x0.Lo - z0))) (W64 (z0 - x0.Hi)))), F0, rfl, hs3.clear, rfl⟩
end Go.Proofs.YtlddakefmfcblaaGreatDoor
namespace Go.Proofs.YtlddakefmfcblaaGreatDoor
open Go.Proofs
def slices_MinFunc_api_Band_api_Band_L0 (N : Nat) (x0 : (List Band)) (x1 : (Band → Band → Option Int)) (x7 : Band) : (Int × Int × Int × Int) → Option (Flow Band (Int × Int × Int × Int)) := fun s29 =>
 (bif (decide (s29.1 < (x0.length : Int))) then (((idx x0 s29.1).bind fun x69 => ((x1 x69 ({ ID := s29.2.1, Lo := s29.2.2.1, Hi := s29.2.2.2 } : Band)).bind fun r75 => some (decide (r75 < 0)))).bind fun j59 => ((bif j59 then ((idx x0 s29.1).bind fun x97 => some (x97.ID, x97.Lo, x97.Hi)) else some (s29.2.1, s29.2.2.1, s29.2.2.2)).bind fun j86 => some (.next ((W64 (s29.1 + 1)), j86.1, j86.2.1, j86.2.2)))) else some (.done (s29.1, s29.2.1, s29.2.2.1, s29.2.2.2)))
def slices_MinFunc_api_Band_api_Band (N : Nat) (x0 : (List Band)) (x1 : (Band → Band → Option Int)) : Option Band :=
 (bif (decide ((x0.length : Int) < 1)) then none else ((idx x0 0).bind fun x7 => ((iter (slices_MinFunc_api_Band_api_Band_L0 N x0 x1 x7) N (1, x7.ID, x7.Lo, x7.Hi)).bind fun o => o.k (fun r => some r) (fun s39 => some ({ ID := s39.2.1, Lo := s39.2.2.1, Hi := s39.2.2.2 } : Band)))))
theorem co_slices_MinFunc_api_Band_api_Band : CallOk Tryz.prog 70 := fun _ _ => by kernel_rfl
set_option maxHeartbeats 4000000 in
set_option maxRecDepth 100000 in
theorem c_slices_MinFunc_api_Band_api_Band (N : Nat) (w0 : World) (F0 : Mem) (hF : ∀ b o, F0 b = some o → w0.heap[b]? = some o) (x0 : (List Band)) (a0_0 : Option Addr) (n0_0 : Nat) (hb0_0 : LC x0.length n0_0) (hs0_0 : SlA tBand F0 a0_0 x0) (gx1 : FuncId) (fx1 kx1 : List Value) (x1 : Band → Band → Option Int) (hox1 : CallOk Tryz.prog gx1) (hpx1 : Fn93 F0 gx1 fx1 kx1 x1) (r : Band) (h : slices_MinFunc_api_Band_api_Band N x0 x1 = some r) :
  Calls Tryz.prog 70 ([(.slice a0_0 x0.length n0_0), (.func (.func gx1) fx1.toArray kx1.toArray)] : List Value).toArray w0 (FRet w0 F0 fun F' v => v = (.agg (kBand r))) := by
 have hs0 := HS.start hF
 refine calls_of (n := 33) (c := bodyOf Tryz.f70) Tryz.func70 (by kernel_rfl) (by kernel_rfl) (by kernel_rfl) ?_
 refine Sq (Rg [0] ?_)
 refine Al 4 0 40 #[(vi 0), (vi 0), (vi 0)] hs0 (fun b1 w2 (hs3 : HS w0 F0 w2 F0 [(sb b1 #[(vi 0), (vi 0), (vi 0)] 40)]) => ?_)
 refine Nss ?_
 refine Sq (Rg [0, 1, 2] ?_)
 refine V 7 32 (mv 0 (.slice a0_0 x0.length n0_0)) ?_
 refine V 8 3 (ln 7 32 a0_0 x0.length n0_0 40 3 24) ?_
 refine V 9 4 (run_lss (t := 3) (t' := 3) (x := (.tmp 8)) (y := (.const (vi 1))) (k := .i64) (a := (x0.length : Int)) (b := 1) rfl rfl) ?_
 refine Nt ?_
 refine CWP.cond (t := (decide ((x0.length : Int) < 1))) (by kernel_rfl) rfl (fun hb4 => ?_) (fun hb4 => ?_)
 ·have h5 := cond_t h hb4
  refine Rg [0, 1] ?_
  refine V 10 20 (run_mkIface' (t := 9) (x := (.const (.string ⟨([115, 108, 105, 99, 101, 115, 46, 77, 105, 110, 70, 117, 110, 99, 58, 32, 101, 109, 112, 116, 121, 32, 108, 105, 115, 116] : List UInt8).toArray⟩))) (v := (.string ⟨(([115, 108, 105, 99, 101, 115, 46, 77, 105, 110, 70, 117, 110, 99, 58, 32, 101, 109, 112, 116, 121, 32, 108, 105, 115, 116] : List UInt8)).toArray⟩)) rfl (by kernel_rfl)) ?_
  cases h5
 ·have h6 := cond_f h hb4
  refine Sc ?_
  refine thenQ_nrm ?_
  refine Sq (Rg [0, 1, 2, 3, 4] ?_)
  refine V 11 32 (mv 0 (.slice a0_0 x0.length n0_0)) ?_
  obtain ⟨x7, hx8, h10⟩ := bind_some h6
  obtain ⟨hi9, hx8'⟩ := idx_spec hx8
  obtain ⟨b11, o12, C13, E14, fz15, rfl, hF17, hE18⟩ := SlA.open hs0_0 hx8'
  have hc20 := hE18 _ _ hx8'
  refine V 12 0 (run_index (t := 32) (x := (.tmp 11)) (y := (.const (vi 0))) (b := b11) (o := o12) (E := 40) (s := 3) (by_ := 24) rfl rfl (by kernel_rfl) hi9) ?_
  refine V 13 40 (lx 40 12 0 3 true 3 (.agg (kBand x7)) (hs3.pers _ _ hF17) hc20) ?_
  refine Al 5 0 40 #[(vi 0), (vi 0), (vi 0)] hs3 (fun b21 w22 (hs23 : HS w0 F0 w22 F0 [(sb b21 #[(vi 0), (vi 0), (vi 0)] 40), (sb b1 #[(vi 0), (vi 0), (vi 0)] 40)]) => ?_)
  refine RWP.store (ty := 0) (g := none) (by kernel_rfl) rfl (x := (.tmp 5)) (y := (.tmp 13)) (t := 40) (gg := true) (s := 3) (v := (.agg (kBand x7))) (b := b21) (o := 0) (C := #[(vi 0), (vi 0), (vi 0)]) rfl rfl (by kernel_rfl) hs23 (k := 0) rfl rfl rfl rfl (C' := (kBand x7)) rfl (fun w24 (hs25 : HS w0 F0 w24 F0 [(sb b21 (kBand x7) 40), (sb b1 #[(vi 0), (vi 0), (vi 0)] 40)]) => ?_)
  refine Nss ?_
  refine Sq (Rg [0] ?_)
  refine V 6 3 (mc (vi 1) (vi 1)) ?_
  refine Nt ?_
  obtain ⟨o26, ho27, h28⟩ := bind_some h10
  refine CWP.cut (fun f w => ∃ (s39 : (Int × Int × Int × Int)) (F2 : Mem), o26 = .done s39 ∧ HS w0 F0 w F2 [(sb b21 #[(vi s39.2.1), (vi s39.2.2.1), (vi s39.2.2.2)] 40), (sb b1 #[(vi 0), (vi 0), (vi 0)] 40)] ∧ Mem.le F0 F2 ∧ f.d = [] ∧ f 4 = (.pointer (some ⟨b1, 0, none⟩)) ∧ f 5 = (.pointer (some ⟨b21, 0, none⟩))) ?_ ?_
  ·refine Bk ?_
   refine CWP.loop (by kernel_rfl) (fun m f w => ∃ (s29 : (Int × Int × Int × Int)) (F1 : Mem), iter (slices_MinFunc_api_Band_api_Band_L0 N x0 x1 x7) m s29 = some o26 ∧ HS w0 F0 w F1 [(sb b21 #[(vi s29.2.1), (vi s29.2.2.1), (vi s29.2.2.2)] 40), (sb b1 #[(vi 0), (vi 0), (vi 0)] 40)] ∧ Mem.le F0 F1 ∧ f.d = [] ∧ f 0 = (.slice (some ⟨b11, o12, none⟩) x0.length n0_0) ∧ f 1 = (.func (.func gx1) fx1.toArray kx1.toArray) ∧ f 4 = (.pointer (some ⟨b1, 0, none⟩)) ∧ f 5 = (.pointer (some ⟨b21, 0, none⟩)) ∧ f 6 = (vi s29.1)) N ⟨(1, x7.ID, x7.Lo, x7.Hi), F0, ho27, hs25, (Mem.le.refl _), rfl, rfl, rfl, rfl, rfl, rfl⟩ ?_
   rintro m46 f w30 ⟨s29, F1, hit47, hs31, le32, e33, e34, e35, e36, e37, e38⟩
   obtain ⟨m48, fl49, rfl, hb50, hnx51⟩ := iter_step hit47
   refine Sq ?_
   refine Sq (Rg [0, 1, 2, 3] ?_)
   refine V 14 3 (mv 6 (vi s29.1) e38) ?_
   refine V 15 32 (mv 0 (.slice (some ⟨b11, o12, none⟩) x0.length n0_0) e34) ?_
   refine V 16 3 (ln 15 32 (some ⟨b11, o12, none⟩) x0.length n0_0 40 3 24) ?_
   refine V 17 4 (run_lss (t := 3) (t' := 3) (x := (.tmp 14)) (y := (.tmp 16)) (k := .i64) (a := s29.1) (b := (x0.length : Int)) rfl rfl) ?_
   refine Nt ?_
   refine CWP.cond (t := (decide (s29.1 < (x0.length : Int)))) (by kernel_rfl) rfl (fun hb52 => ?_) (fun hb52 => ?_)
   ·have h53 := cond_t hb50 hb52
    refine Sc ?_
    refine thenQ_nrm ?_
    refine Sq ?_
    refine Bk ?_
    refine Sq ?_
    obtain ⟨j59, hj67, h68⟩ := bind_some h53
    refine CWP.regionD (by kernel_rfl) (by kernel_rfl) (by kernel_rfl) (by kernel_rfl) (z := 8) (F := F1) (Lc := [(sb b21 #[(vi s29.2.1), (vi s29.2.2.1), (vi s29.2.2.2)] 40), (sb b1 #[(vi 0), (vi 0), (vi 0)] 40)]) (Lz := []) (l := [false, false, false, false, false, false, false, false]) (fuel := 8) (by kernel_rfl) (by kernel_rfl) hs31 (by simp) (by simp) (fun f w => ∃ (F3 : Mem), HS w0 F0 w F3 [(sb b21 #[(vi s29.2.1), (vi s29.2.2.1), (vi s29.2.2.2)] 40), (sb b1 #[(vi 0), (vi 0), (vi 0)] 40)] ∧ Mem.le F1 F3 ∧ f.d = [] ∧ f 0 = (.slice (some ⟨b11, o12, none⟩) x0.length n0_0) ∧ f 1 = (.func (.func gx1) fx1.toArray kx1.toArray) ∧ f 4 = (.pointer (some ⟨b1, 0, none⟩)) ∧ f 5 = (.pointer (some ⟨b21, 0, none⟩)) ∧ f 6 = (vi s29.1) ∧ f 27 = (.bool j59)) (fun wd54 hw55 => ?_) ?_
    ·refine Dt 0 20 93 _ (fun _ hq => mv 1 (.func (.func gx1) fx1.toArray kx1.toArray) e35) ?_
     refine Dt 1 21 32 _ (fun _ hq => mv 0 (.slice (some ⟨b11, o12, none⟩) x0.length n0_0) e34) ?_
     refine Dt 2 22 3 _ (fun _ hq => mv 6 (vi s29.1) e38) ?_
     obtain ⟨x69, hx70, h72⟩ := bind_some hj67
     obtain ⟨hi71, hx70'⟩ := idx_spec hx70
     have hc74 := hE18 _ _ hx70'
     refine Dt 3 23 0 (.pointer (some ⟨b11, (o12 + (s29.1 : Int).toNat * 3), none⟩)) (fun _ hq => ix 32 21 22 b11 o12 40 3 24 hi71) ?_
     refine Dt 4 24 40 _ (fun _ hq => lx 40 23 0 3 true 3 (.agg (kBand x69)) (hq.1.1 _ _ (le32 _ _ hF17)) hc74) ?_
     refine Dt 5 25 40 _ (fun _ hq => ld 40 5 b21 0 true 3 (.agg #[(vi s29.2.1), (vi s29.2.2.1), (vi s29.2.2.2)]) (hq.1.2 0 _ _ rfl) e37) ?_
     refine DWP.one (i := 6) (by kernel_rfl) ?_
     obtain ⟨r75, hr76, h77⟩ := bind_some h72
     refine DStep.call (l' := [true, true, true, true, true, true, true, false]) (zd := true) (by kernel_rfl) (by kernel_rfl) (by kernel_rfl) (dst := (some 26)) (ty := 3) (g := none) (by kernel_rfl) rfl (f0 := (.tmp 20)) (aos := #[(.tmp 24), (.tmp 25)]) (ats := #[40, 40]) (fid := gx1) (first := fx1.toArray) (cap := kx1.toArray) (args := (fx1 ++ (([(.agg (kBand x69)), (.agg #[(vi s29.2.1), (vi s29.2.2.1), (vi s29.2.2.2)])] : List Value) ++ kx1))) rfl hox1 (app_args2 (l := [(.agg (kBand x69)), (.agg #[(vi s29.2.1), (vi s29.2.2.1), (vi s29.2.2.2)])]) (fi := fx1) (k := kx1) (rfl)) hw55 (hpx1 wd54 F1 (x69) (({ ID := s29.2.1, Lo := s29.2.2.1, Hi := s29.2.2.2 } : Band)) _ le32 hw55.pers hr76) ?_
     intro v78 F4 w79 hs80 le81 hp82
     obtain rfl := hp82
     refine Dt 7 27 4 (.bool (decide (r75 < 0))) (fun _ hq => run_lss (t := 3) (t' := 3) (x := (.tmp 26)) (y := (.const (vi 0))) (k := .i64) (a := r75) (b := 0) rfl rfl) ?_
     obtain rfl := some_inj h77
     exact DWP.done (by kernel_rfl) ⟨F4, hs80, le81, e33, e34, e35, e36, e37, e38, rfl⟩
    ·rintro f w56 ⟨F3, hs57, le58, e60, e61, e62, e63, e64, e65, e66⟩
     refine thenQ_nrm ?_
     obtain ⟨j86, hj93, h94⟩ := bind_some h68
     refine CWP.cut (fun f w => ∃ (F5 : Mem), HS w0 F0 w F5 [(sb b21 #[(vi j86.1), (vi j86.2.1), (vi j86.2.2)] 40), (sb b1 #[(vi 0), (vi 0), (vi 0)] 40)] ∧ Mem.le F3 F5 ∧ f.d = [] ∧ f 0 = (.slice (some ⟨b11, o12, none⟩) x0.length n0_0) ∧ f 1 = (.func (.func gx1) fx1.toArray kx1.toArray) ∧ f 4 = (.pointer (some ⟨b1, 0, none⟩)) ∧ f 5 = (.pointer (some ⟨b21, 0, none⟩)) ∧ f 6 = (vi s29.1)) ?_ ?_
     ·refine CWP.cond (t := j59) (by kernel_rfl) e66 (fun hb95 => ?_) (fun hb95 => ?_)
      ·have h96 := cond_t hj93 hb95
       refine Rg [0, 1, 2, 3, 4] ?_
       refine V 28 32 (mv 0 (.slice (some ⟨b11, o12, none⟩) x0.length n0_0) e61) ?_
       refine V 29 3 (mv 6 (vi s29.1) e65) ?_
       obtain ⟨x97, hx98, h100⟩ := bind_some h96
       obtain ⟨hi99, hx98'⟩ := idx_spec hx98
       have hc102 := hE18 _ _ hx98'
       refine V 30 0 (ix 32 28 29 b11 o12 40 3 24 hi99) ?_
       refine V 31 40 (lx 40 30 0 3 true 3 (.agg (kBand x97)) (hs57.pers _ _ ((le32.trans le58) _ _ hF17)) hc102) ?_
       refine RWP.store (ty := 0) (g := none) (by kernel_rfl) rfl (x := (.tmp 5)) (y := (.tmp 31)) (t := 40) (gg := true) (s := 3) (v := (.agg (kBand x97))) (b := b21) (o := 0) (C := #[(vi s29.2.1), (vi s29.2.2.1), (vi s29.2.2.2)]) e64 rfl (by kernel_rfl) hs57 (k := 0) rfl rfl rfl rfl (C' := (kBand x97)) rfl (fun w103 (hs104 : HS w0 F0 w103 F3 [(sb b21 (kBand x97) 40), (sb b1 #[(vi 0), (vi 0), (vi 0)] 40)]) => ?_)
       refine RWP.nil ?_
       obtain rfl := some_inj h100
       exact .inl ⟨rfl, F3, hs104, (Mem.le.refl _), e60, e61, e62, e63, e64, e65⟩
      ·have h105 := cond_f hj93 hb95
       refine Sc ?_
       obtain rfl := some_inj h105
       exact .inl ⟨rfl, F3, hs57, (Mem.le.refl _), e60, e61, e62, e63, e64, e65⟩
     ·rintro f w83 ⟨F5, hs84, le85, e87, e88, e89, e90, e91, e92⟩
      refine blockQ_nrm ?_
      refine thenQ_nrm ?_
      refine Rg [0, 1, 2] ?_
      refine V 18 3 (mv 6 (vi s29.1) e92) ?_
      refine V 19 3 (run_add (t := 3) (t' := 3) (x := (.tmp 18)) (y := (.const (vi 1))) (k := .i64) (a := s29.1) (b := 1) rfl rfl) ?_
      refine V 6 3 (ma 19 (vi (W64 (s29.1 + 1)))) ?_
      refine RWP.nil ?_
      have hn106 := iter_next h94 hnx51
      exact ⟨m48, Nat.lt_succ_self _, ((W64 (s29.1 + 1)), j86.1, j86.2.1, j86.2.2), F5, hn106, hs84, ((le32.trans le58).trans le85), e87, e88, e89, e90, e91, rfl⟩
   ·have h107 := cond_f hb50 hb52
    refine CWP.exit (by kernel_rfl) ?_
    refine thenQ_ex ?_
    refine thenQ_ex ?_
    refine blockQ_hit rfl ?_
    have ho108 := iter_done h107 hnx51
    exact .inl ⟨rfl, (s29.1, s29.2.1, s29.2.2.1, s29.2.2.2), F1, ho108, hs31, le32, e33, e36, e37⟩
  ·rintro f w40 ⟨s39, F2, rfl, hs41, le42, e43, e44, e45⟩
   have h109 := k_done h28
   refine thenQ_nrm ?_
   refine Sq (Rg [0, 1] ?_)
   refine V 32 40 (ld 40 5 b21 0 true 3 (.agg #[(vi s39.2.1), (vi s39.2.2.1), (vi s39.2.2.2)]) (hs41.ownAt (k := 0) rfl) e45) ?_
   refine RWP.store (ty := 0) (g := none) (by kernel_rfl) rfl (x := (.tmp 4)) (y := (.tmp 32)) (t := 40) (gg := true) (s := 3) (v := (.agg #[(vi s39.2.1), (vi s39.2.2.1), (vi s39.2.2.2)])) (b := b1) (o := 0) (C := #[(vi 0), (vi 0), (vi 0)]) e44 rfl (by kernel_rfl) hs41 (k := 1) rfl rfl rfl rfl (C' := #[(vi s39.2.1), (vi s39.2.2.1), (vi s39.2.2.2)]) rfl (fun w110 (hs111 : HS w0 F0 w110 F2 [(sb b21 #[(vi s39.2.1), (vi s39.2.2.1), (vi s39.2.2.2)] 40), (sb b1 #[(vi s39.2.1), (vi s39.2.2.1), (vi s39.2.2.2)] 40)]) => ?_)
   refine Nt ?_
   refine CWP.ret (by kernel_rfl) ?_
   have hfin := some_inj h109
   subst hfin
   exact ⟨e43, (.agg #[(vi s39.2.1), (vi s39.2.2.1), (vi s39.2.2.2)]), res_of (l := [.cell 4 40]) (by kernel_rfl) (vs := [(.agg #[(vi s39.2.1), (vi s39.2.2.1), (vi s39.2.2.2)])]) ⟨b1, 0, e44, run_loadVar' (t := 40) (g := true) (s := 3) (by kernel_rfl) (hs111.ownAt (k := 1) rfl) rfl (by decide), trivial⟩, (.agg #[(vi s39.2.1), (vi s39.2.2.1), (vi s39.2.2.2)]), F2, rfl, hs111.clear, rfl⟩
end Go.Proofs.YtlddakefmfcblaaGreatDoor
namespace Go.Proofs.YtlddakefmfcblaaGreatDoor
open Go.Proofs
def cmp_isNaN_int (N : Nat) (x0 : Int) : Option Bool :=
 some (x0 != x0)
theorem co_cmp_isNaN_int : CallOk Tryz.prog 108 := fun _ _ => by kernel_rfl
set_option maxHeartbeats 4000000 in
set_option maxRecDepth 100000 in
theorem c_cmp_isNaN_int (N : Nat) (w0 : World) (F0 : Mem) (hF : ∀ b o, F0 b = some o → w0.heap[b]? = some o) (x0 : Int) (r : Bool) (h : cmp_isNaN_int N x0 = some r) :
  Calls Tryz.prog 108 ([(vi x0)] : List Value).toArray w0 (FRet w0 F0 fun F' v => v = (.bool r)) := by
 have hs0 := HS.start hF
 refine calls_of (n := 6) (c := bodyOf Tryz.f108) Tryz.func108 (by kernel_rfl) (by kernel_rfl) (by kernel_rfl) ?_
 refine Sq (Rg [0] ?_)
 refine V 2 4 (mc (.bool false) (.bool false)) ?_
 refine Nss (Rg [0, 1, 2, 3] ?_)
 refine V 3 3 (mv 0 (vi x0)) ?_
 refine V 4 3 (mv 0 (vi x0)) ?_
 refine V 5 4 (run_neq (t := 3) (t' := 3) (x := (.tmp 3)) (y := (.tmp 4)) (k := .i64) (a := x0) (b := x0) rfl rfl) ?_
 refine V 2 4 (ma 5 (.bool (x0 != x0))) ?_
 refine Nt ?_
 refine CWP.ret (by kernel_rfl) ?_
 have hfin := some_inj h
 subst hfin
 exact ⟨rfl, (.bool (x0 != x0)), res_of (l := [.tmp 2]) (by kernel_rfl) (vs := [(.bool (x0 != x0))]) ⟨rfl, trivial⟩, (.bool (x0 != x0)), F0, rfl, hs0.clear, rfl⟩
end Go.Proofs.YtlddakefmfcblaaGreatDoor
namespace Go.Proofs.YtlddakefmfcblaaGreatDoor
open Go.Proofs
def cmp_Compare_int (N : Nat) (x0 : Int) (x1 : Int) : Option Int :=
 ((cmp_isNaN_int N x0).bind fun r1 => ((cmp_isNaN_int N x1).bind fun r9 => (bif r1 then (bif r9 then some 0 else some (-1)) else (bif r9 then some 1 else (bif (decide (x0 < x1)) then some (-1) else (bif (decide (x0 > x1)) then some 1 else some 0))))))
theorem co_cmp_Compare_int : CallOk Tryz.prog 72 := fun _ _ => by kernel_rfl
set_option maxHeartbeats 4000000 in
set_option maxRecDepth 100000 in
theorem c_cmp_Compare_int (N : Nat) (w0 : World) (F0 : Mem) (hF : ∀ b o, F0 b = some o → w0.heap[b]? = some o) (x0 : Int) (x1 : Int) (r : Int) (h : cmp_Compare_int N x0 x1 = some r) :
  Calls Tryz.prog 72 ([(vi x0), (vi x1)] : List Value).toArray w0 (FRet w0 F0 fun F' v => v = (vi r)) := by
 have hs0 := HS.start hF
 refine calls_of (n := 20) (c := bodyOf Tryz.f72) Tryz.func72 (by kernel_rfl) (by kernel_rfl) (by kernel_rfl) ?_
 refine Sq (Rg [0] ?_)
 refine V 4 3 (mc (vi 0) (vi 0)) ?_
 refine Nss (Rg [0, 1, 2] ?_)
 refine V 7 3 (mv 0 (vi x0)) ?_
 obtain ⟨r1, hr2, h3⟩ := bind_some h
 refine Cl 8 4 108 #[(.tmp 7)] #[3] co_cmp_isNaN_int hs0 (c_cmp_isNaN_int N w0 F0 hs0.pers (x0) _ hr2) ?_
 intro v4 F1 w5 hs6 le7 hp8
 obtain rfl := hp8
 refine V 5 4 (ma 8 (.bool r1)) ?_
 refine Nss (Rg [0, 1, 2] ?_)
 refine V 9 3 (mv 1 (vi x1)) ?_
 obtain ⟨r9, hr10, h11⟩ := bind_some h3
 refine Cl 10 4 108 #[(.tmp 9)] #[3] co_cmp_isNaN_int hs6 (c_cmp_isNaN_int N w5 F1 hs6.pers (x1) _ hr10) ?_
 intro v12 F2 w13 hs14 le15 hp16
 obtain rfl := hp16
 refine V 6 4 (ma 10 (.bool r9)) ?_
 refine Nss ?_
 refine Sq (Rg [0] ?_)
 refine V 11 4 (mv 5 (.bool r1)) ?_
 refine Nt ?_
 refine CWP.cond (t := r1) (by kernel_rfl) rfl (fun hb17 => ?_) (fun hb17 => ?_)
 ·have h18 := cond_t h11 hb17
  refine Sq ?_
  refine Sq (Rg [0] ?_)
  refine V 12 4 (mv 6 (.bool r9)) ?_
  refine Nt ?_
  refine CWP.cond (t := r9) (by kernel_rfl) rfl (fun hb19 => ?_) (fun hb19 => ?_)
  ·have h20 := cond_t h18 hb19
   refine Sq (Rg [0] ?_)
   refine V 4 3 (mc (vi 0) (vi 0)) ?_
   refine Nt ?_
   refine CWP.ret (by kernel_rfl) ?_
   refine thenQ_ret ?_
   refine thenQ_ret ?_
   have hfin := some_inj h20
   subst hfin
   exact ⟨rfl, (vi 0), res_of (l := [.tmp 4]) (by kernel_rfl) (vs := [(vi 0)]) ⟨rfl, trivial⟩, (vi 0), F2, rfl, hs14.clear, rfl⟩
  ·have h21 := cond_f h18 hb19
   refine Sc ?_
   refine thenQ_nrm ?_
   refine Sq (Rg [0] ?_)
   refine V 4 3 (mc (vi (-1)) (vi (-1))) ?_
   refine Nt ?_
   refine CWP.ret (by kernel_rfl) ?_
   refine thenQ_ret ?_
   have hfin := some_inj h21
   subst hfin
   exact ⟨rfl, (vi (-1)), res_of (l := [.tmp 4]) (by kernel_rfl) (vs := [(vi (-1))]) ⟨rfl, trivial⟩, (vi (-1)), F2, rfl, hs14.clear, rfl⟩
 ·have h22 := cond_f h11 hb17
  refine Sc ?_
  refine thenQ_nrm ?_
  refine Sq ?_
  refine Sq (Rg [0] ?_)
  refine V 13 4 (mv 6 (.bool r9)) ?_
  refine Nt ?_
  refine CWP.cond (t := r9) (by kernel_rfl) rfl (fun hb23 => ?_) (fun hb23 => ?_)
  ·have h24 := cond_t h22 hb23
   refine Sq (Rg [0] ?_)
   refine V 4 3 (mc (vi 1) (vi 1)) ?_
   refine Nt ?_
   refine CWP.ret (by kernel_rfl) ?_
   refine thenQ_ret ?_
   have hfin := some_inj h24
   subst hfin
   exact ⟨rfl, (vi 1), res_of (l := [.tmp 4]) (by kernel_rfl) (vs := [(vi 1)]) ⟨rfl, trivial⟩, (vi 1), F2, rfl, hs14.clear, rfl⟩
  ·have h25 := cond_f h22 hb23
   refine Sc ?_
   refine thenQ_nrm ?_
   refine Sq ?_
   refine Sq (Rg [0, 1, 2] ?_)
   refine V 14 3 (mv 0 (vi x0)) ?_
   refine V 15 3 (mv 1 (vi x1)) ?_
   refine V 16 4 (run_lss (t := 3) (t' := 3) (x := (.tmp 14)) (y := (.tmp 15)) (k := .i64) (a := x0) (b := x1) rfl rfl) ?_
   refine Nt ?_
   refine CWP.cond (t := (decide (x0 < x1))) (by kernel_rfl) rfl (fun hb26 => ?_) (fun hb26 => ?_)
   ·have h27 := cond_t h25 hb26
    refine Sq (Rg [0] ?_)
    refine V 4 3 (mc (vi (-1)) (vi (-1))) ?_
    refine Nt ?_
    refine CWP.ret (by kernel_rfl) ?_
    refine thenQ_ret ?_
    have hfin := some_inj h27
    subst hfin
    exact ⟨rfl, (vi (-1)), res_of (l := [.tmp 4]) (by kernel_rfl) (vs := [(vi (-1))]) ⟨rfl, trivial⟩, (vi (-1)), F2, rfl, hs14.clear, rfl⟩
   ·have h28 := cond_f h25 hb26
    refine Sc ?_
    refine thenQ_nrm ?_
    refine Sq ?_
    refine Sq (Rg [0, 1, 2] ?_)
    refine V 17 3 (mv 0 (vi x0)) ?_
    refine V 18 3 (mv 1 (vi x1)) ?_
    refine V 19 4 (run_gtr (t := 3) (t' := 3) (x := (.tmp 17)) (y := (.tmp 18)) (k := .i64) (a := x0) (b := x1) rfl rfl) ?_
    refine Nt ?_
    refine CWP.cond (t := (decide (x0 > x1))) (by kernel_rfl) rfl (fun hb29 => ?_) (fun hb29 => ?_)
    ·have h30 := cond_t h28 hb29
     refine Sq (Rg [0] ?_)
     refine V 4 3 (mc (vi 1) (vi 1)) ?_
     refine Nt ?_
     refine CWP.ret (by kernel_rfl) ?_
     refine thenQ_ret ?_
     have hfin := some_inj h30
     subst hfin
     exact ⟨rfl, (vi 1), res_of (l := [.tmp 4]) (by kernel_rfl) (vs := [(vi 1)]) ⟨rfl, trivial⟩, (vi 1), F2, rfl, hs14.clear, rfl⟩
    ·have h31 := cond_f h28 hb29
     refine Sc ?_
     refine thenQ_nrm ?_
     refine Sq (Rg [0] ?_)
     refine V 4 3 (mc (vi 0) (vi 0)) ?_
     refine Nt ?_
     refine CWP.ret (by kernel_rfl) ?_
     have hfin := some_inj h31
     subst hfin
     exact ⟨rfl, (vi 0), res_of (l := [.tmp 4]) (by kernel_rfl) (vs := [(vi 0)]) ⟨rfl, trivial⟩, (vi 0), F2, rfl, hs14.clear, rfl⟩
end Go.Proofs.YtlddakefmfcblaaGreatDoor
namespace Go.Proofs.YtlddakefmfcblaaGreatDoor
open Go.Proofs
def air_Nearest_2 (N : Nat) (x0 : Band) (x1 : Band) (z0 : (Band → Option Int)) : Option Int :=
 (((z0 x0).bind fun r17 => ((z0 x1).bind fun r25 => ((cmp_Compare_int N r17 r25).bind fun r33 => some r33))).bind fun j12 => some j12)
theorem co_air_Nearest_2 : CallOk Tryz.prog 71 := fun _ _ => by kernel_rfl
set_option maxHeartbeats 4000000 in
set_option maxRecDepth 100000 in
theorem c_air_Nearest_2 (N : Nat) (w0 : World) (F0 : Mem) (hF : ∀ b o, F0 b = some o → w0.heap[b]? = some o) (x0 : Band) (x1 : Band) (bz0 : Nat) (z0 : (Band → Option Int)) (gz0_0 : FuncId) (fz0_0 : List Value) (kz0_0 : List Value) (hoz0_0 : CallOk Tryz.prog gz0_0) (hpz0_0 : Fn90 F0 gz0_0 fz0_0 kz0_0 z0) (hz0 : F0 bz0 = some (oc #[(.func (.func gz0_0) fz0_0.toArray kz0_0.toArray)] 90)) (r : Int) (h : air_Nearest_2 N x0 x1 z0 = some r) :
  Calls Tryz.prog 71 ([(.agg (kBand x0)), (.agg (kBand x1)), (.pointer (some ⟨bz0, 0, none⟩))] : List Value).toArray w0 (FRet w0 F0 fun F' v => v = (vi r)) := by
 have hs0 := HS.start hF
 refine calls_of (n := 13) (c := bodyOf Tryz.f71) Tryz.func71 (by kernel_rfl) (by kernel_rfl) (by kernel_rfl) ?_
 refine Sq (Rg [0, 1, 2] ?_)
 refine Bx 3 0 0 40 (kBand x0) hs0 (fun b1 w2 (hs3 : HS w0 F0 w2 F0 [(sb b1 (kBand x0) 40)]) => ?_)
 refine Bx 4 0 1 40 (kBand x1) hs3 (fun b4 w5 (hs6 : HS w0 F0 w5 F0 [(sb b4 (kBand x1) 40), (sb b1 (kBand x0) 40)]) => ?_)
 refine V 5 3 (mc (vi 0) (vi 0)) ?_
 refine Nss ?_
 obtain ⟨j12, hj15, h16⟩ := bind_some h
 refine CWP.regionD (by kernel_rfl) (by kernel_rfl) (by kernel_rfl) (by kernel_rfl) (z := 8) (F := F0) (Lc := [(sb b4 (kBand x1) 40), (sb b1 (kBand x0) 40)]) (Lz := []) (l := [false, false, false, false, false, false, false, false]) (fuel := 8) (by kernel_rfl) (by kernel_rfl) hs6 (by simp) (by simp) (fun f w => ∃ (F1 : Mem), HS w0 F0 w F1 [] ∧ Mem.le F0 F1 ∧ f.d = [] ∧ f 5 = (vi j12)) (fun wd7 hw8 => ?_) ?_
 ·refine Dt 0 6 90 _ (fun _ hq => ld 90 2 bz0 0 false 1 (.func (.func gz0_0) fz0_0.toArray kz0_0.toArray) (hq.1.1 _ _ hz0)) ?_
  refine Dt 1 7 40 _ (fun _ hq => ld 40 3 b1 0 true 3 (.agg (kBand x0)) (hq.1.2 1 _ _ rfl)) ?_
  refine Dt 3 9 90 _ (fun _ hq => ld 90 2 bz0 0 false 1 (.func (.func gz0_0) fz0_0.toArray kz0_0.toArray) (hq.1.1 _ _ hz0)) ?_
  refine Dt 4 10 40 _ (fun _ hq => ld 40 4 b4 0 true 3 (.agg (kBand x1)) (hq.1.2 0 _ _ rfl)) ?_
  refine DWP.one (i := 2) (by kernel_rfl) ?_
  obtain ⟨r17, hr18, h19⟩ := bind_some hj15
  refine DStep.call (l' := [true, true, true, true, true, false, false, false]) (zd := true) (by kernel_rfl) (by kernel_rfl) (by kernel_rfl) (dst := (some 8)) (ty := 3) (g := none) (by kernel_rfl) rfl (f0 := (.tmp 6)) (aos := #[(.tmp 7)]) (ats := #[40]) (fid := gz0_0) (first := fz0_0.toArray) (cap := kz0_0.toArray) (args := (fz0_0 ++ (([(.agg (kBand x0))] : List Value) ++ kz0_0))) rfl hoz0_0 (app_args2 (l := [(.agg (kBand x0))]) (fi := fz0_0) (k := kz0_0) (rfl)) hw8 (hpz0_0 wd7 F0 (x0) _ (Mem.le.refl _) hw8.pers hr18) ?_
  intro v20 F2 w21 hs22 le23 hp24
  obtain rfl := hp24
  refine DWP.one (i := 5) (by kernel_rfl) ?_
  obtain ⟨r25, hr26, h27⟩ := bind_some h19
  refine DStep.call (l' := [true, true, true, true, true, true, false, false]) (zd := true) (by kernel_rfl) (by kernel_rfl) (by kernel_rfl) (dst := (some 11)) (ty := 3) (g := none) (by kernel_rfl) rfl (f0 := (.tmp 9)) (aos := #[(.tmp 10)]) (ats := #[40]) (fid := gz0_0) (first := fz0_0.toArray) (cap := kz0_0.toArray) (args := (fz0_0 ++ (([(.agg (kBand x1))] : List Value) ++ kz0_0))) rfl hoz0_0 (app_args2 (l := [(.agg (kBand x1))]) (fi := fz0_0) (k := kz0_0) (rfl)) hs22 (hpz0_0 w21 F2 (x1) _ le23 hs22.pers hr26) ?_
  intro v28 F3 w29 hs30 le31 hp32
  obtain rfl := hp32
  refine DWP.one (i := 6) (by kernel_rfl) ?_
  obtain ⟨r33, hr34, h35⟩ := bind_some h27
  refine DStep.call (l' := [true, true, true, true, true, true, true, false]) (zd := true) (by kernel_rfl) (by kernel_rfl) (by kernel_rfl) (dst := (some 12)) (ty := 3) (g := none) (by kernel_rfl) rfl (f0 := (.func 72)) (aos := #[(.tmp 8), (.tmp 11)]) (ats := #[3, 3]) (fid := 72) (first := #[]) (cap := #[]) (args := [(vi r17), (vi r25)]) rfl co_cmp_Compare_int (rfl) hs30 (c_cmp_Compare_int N w29 F3 hs30.pers (r17) (r25) _ hr34) ?_
  intro v36 F4 w37 hs38 le39 hp40
  obtain rfl := hp40
  refine Dt 7 5 3 _ (fun _ hq => ma 12 (vi r33)) ?_
  obtain rfl := some_inj h35
  have hs41 : HS w0 F0 w37 F4 [(sb b1 (kBand x0) 40)] := hs38.drop 0
  have hs42 : HS w0 F0 w37 F4 [] := hs41.drop 0
  exact DWP.done (by kernel_rfl) ⟨F4, hs42, ((le23.trans le31).trans le39), rfl, rfl⟩
 ·rintro f w9 ⟨F1, hs10, le11, e13, e14⟩
  refine thenQ_nrm ?_
  refine CWP.ret (by kernel_rfl) ?_
  have hfin := some_inj h16
  subst hfin
  exact ⟨e13, (vi j12), res_of (l := [.tmp 5]) (by kernel_rfl) (vs := [(vi j12)]) ⟨e14, trivial⟩, (vi j12), F1, rfl, hs10.clear, rfl⟩
end Go.Proofs.YtlddakefmfcblaaGreatDoor
namespace Go.Proofs.YtlddakefmfcblaaGreatDoor
open Go.Proofs
def air_Nearest (N : Nat) (x0 : (List Band)) (x1 : Int) : Option (Int × Int × Int) :=
 ((air_wrongBands N x0 x1).bind fun r4 => (bif (r4 != 0) then some (0, 0, r4) else (bif ((x0.length : Int) == 0) then some (0, 0, 3) else ((slices_MinFunc_api_Band_api_Band N x0 (fun y0 y1 => air_Nearest_2 N y0 y1 (fun y0 => air_Nearest_1 N y0 x1))).bind fun r29 => (((air_Nearest_1 N r29 x1).bind fun r54 => some r54).bind fun j47 => some (r29.ID, j47, 0))))))
theorem co_air_Nearest : CallOk Tryz.prog 24 := fun _ _ => by kernel_rfl
set_option maxHeartbeats 4000000 in
set_option maxRecDepth 100000 in
theorem c_air_Nearest (N : Nat) (w0 : World) (F0 : Mem) (hF : ∀ b o, F0 b = some o → w0.heap[b]? = some o) (x0 : (List Band)) (a0_0 : Option Addr) (n0_0 : Nat) (hb0_0 : LC x0.length n0_0) (hs0_0 : SlA tBand F0 a0_0 x0) (x1 : Int) (r : (Int × Int × Int)) (h : air_Nearest N x0 x1 = some r) :
  Calls Tryz.prog 24 ([(.slice a0_0 x0.length n0_0), (vi x1)] : List Value).toArray w0 (FRet w0 F0 fun F' v => v = (.tuple #[(vi r.1), (vi r.2.1), (vi r.2.2)])) := by
 have hs0 := HS.start hF
 refine calls_of (n := 28) (c := bodyOf Tryz.f24) Tryz.func24 (by kernel_rfl) (by kernel_rfl) (by kernel_rfl) ?_
 refine Sq (Rg [0, 1, 2, 3] ?_)
 refine Bx 3 0 1 3 #[(vi x1)] hs0 (fun b1 w2 (hs3 : HS w0 F0 w2 F0 [(sb b1 #[(vi x1)] 3)]) => ?_)
 refine V 4 3 (mc (vi 0) (vi 0)) ?_
 refine V 5 3 (mc (vi 0) (vi 0)) ?_
 refine V 6 23 (mc (vi 0) (vi 0)) ?_
 refine Nss ?_
 refine Sq (Rg [0, 1, 2, 3] ?_)
 refine V 10 32 (mv 0 (.slice a0_0 x0.length n0_0)) ?_
 refine V 11 3 (ld 3 3 b1 0 false 1 (vi x1) (hs3.ownAt (k := 0) rfl)) ?_
 obtain ⟨r4, hr5, h6⟩ := bind_some h
 refine Cl 12 23 68 #[(.tmp 10), (.tmp 11)] #[32, 3] co_air_wrongBands hs3 (c_air_wrongBands N w2 F0 hs3.pers (x0) a0_0 n0_0 hb0_0 hs0_0 (x1) _ hr5) ?_
 intro v7 F1 w8 hs9 le10 hp11
 obtain rfl := hp11
 refine V 7 23 (ma 12 (vi r4)) ?_
 refine Nss (Rg [0, 1] ?_)
 refine V 13 23 (mv 7 (vi r4)) ?_
 refine V 14 4 (run_neq (t := 23) (t' := 23) (x := (.tmp 13)) (y := (.const (vi 0))) (k := .i64) (a := r4) (b := 0) rfl rfl) ?_
 refine Nt ?_
 refine CWP.cond (t := (r4 != 0)) (by kernel_rfl) rfl (fun hb12 => ?_) (fun hb12 => ?_)
 ·have h13 := cond_t h6 hb12
  refine Sq (Rg [0, 1, 2, 3] ?_)
  refine V 15 23 (mv 7 (vi r4)) ?_
  refine V 4 3 (mc (vi 0) (vi 0)) ?_
  refine V 5 3 (mc (vi 0) (vi 0)) ?_
  refine V 6 23 (ma 15 (vi r4)) ?_
  refine Nt ?_
  refine CWP.ret (by kernel_rfl) ?_
  refine thenQ_ret ?_
  have hfin := some_inj h13
  subst hfin
  exact ⟨rfl, (.tuple #[(vi 0), (vi 0), (vi r4)]), res_of (l := [.tmp 4, .tmp 5, .tmp 6]) (by kernel_rfl) (vs := [(vi 0), (vi 0), (vi r4)]) ⟨rfl, ⟨rfl, ⟨rfl, trivial⟩⟩⟩, (.tuple #[(vi 0), (vi 0), (vi r4)]), F1, rfl, hs9.clear, rfl⟩
 ·have h14 := cond_f h6 hb12
  refine Sc ?_
  refine thenQ_nrm ?_
  refine Sq ?_
  refine Sq (Rg [0, 1, 2] ?_)
  refine V 16 32 (mv 0 (.slice a0_0 x0.length n0_0)) ?_
  refine V 17 3 (ln 16 32 a0_0 x0.length n0_0 40 3 24) ?_
  refine V 18 4 (run_eql (t := 3) (t' := 3) (x := (.tmp 17)) (y := (.const (vi 0))) (k := .i64) (a := (x0.length : Int)) (b := 0) rfl rfl) ?_
  refine Nt ?_
  refine CWP.cond (t := ((x0.length : Int) == 0)) (by kernel_rfl) rfl (fun hb15 => ?_) (fun hb15 => ?_)
  ·have h16 := cond_t h14 hb15
   refine Sq (Rg [0, 1, 2] ?_)
   refine V 4 3 (mc (vi 0) (vi 0)) ?_
   refine V 5 3 (mc (vi 0) (vi 0)) ?_
   refine V 6 23 (mc (vi 3) (vi 3)) ?_
   refine Nt ?_
   refine CWP.ret (by kernel_rfl) ?_
   refine thenQ_ret ?_
   have hfin := some_inj h16
   subst hfin
   exact ⟨rfl, (.tuple #[(vi 0), (vi 0), (vi 3)]), res_of (l := [.tmp 4, .tmp 5, .tmp 6]) (by kernel_rfl) (vs := [(vi 0), (vi 0), (vi 3)]) ⟨rfl, ⟨rfl, ⟨rfl, trivial⟩⟩⟩, (.tuple #[(vi 0), (vi 0), (vi 3)]), F1, rfl, hs9.clear, rfl⟩
  ·have h17 := cond_f h14 hb15
   refine Sc ?_
   refine thenQ_nrm ?_
   refine Sq (Rg [0, 1, 2] ?_)
   refine V 19 90 (run_makeFunc (fn := .func 69) (first := #[]) (cap := #[(.tmp 3)]) (fl := []) (cl := [(.pointer (some ⟨b1, 0, none⟩))]) rfl (rfl)) ?_
   refine RWP.alloc (dst := (some 8)) (ty := 0) (g := none) (by kernel_rfl) rfl (t := 90) (z := .nilFunc) (by kernel_rfl) (C := #[.nilFunc]) rfl hs9 (fun b18 w19 (hs20 : HS w0 F0 w19 F1 [(sb b18 #[.nilFunc] 90), (sb b1 #[(vi x1)] 3)]) => ?_)
   refine RWP.store (ty := 0) (g := none) (by kernel_rfl) rfl (x := (.tmp 8)) (y := (.tmp 19)) (t := 90) (gg := false) (s := 1) (v := (.func (.func 69) #[] #[(.pointer (some ⟨b1, 0, none⟩))])) (b := b18) (o := 0) (C := #[.nilFunc]) rfl rfl (by kernel_rfl) hs20 (k := 0) rfl rfl rfl rfl (C' := #[(.func (.func 69) #[] #[(.pointer (some ⟨b1, 0, none⟩))])]) rfl (fun w21 (hs22 : HS w0 F0 w21 F1 [(sb b18 #[(.func (.func 69) #[] #[(.pointer (some ⟨b1, 0, none⟩))])] 90), (sb b1 #[(vi x1)] 3)]) => ?_)
   refine Nss (Rg [0, 1, 2, 3, 4] ?_)
   refine V 20 32 (mv 0 (.slice a0_0 x0.length n0_0)) ?_
   refine V 21 93 (run_makeFunc (fn := .func 71) (first := #[]) (cap := #[(.tmp 8)]) (fl := []) (cl := [(.pointer (some ⟨b18, 0, none⟩))]) rfl (rfl)) ?_
   obtain ⟨F2, hs23, le24, hF25⟩ : ∃ Fq, HS w0 F0 w21 Fq [(sb b18 #[(.func (.func 69) #[] #[(.pointer (some ⟨b1, 0, none⟩))])] 90)] ∧ Mem.le F1 Fq ∧ Fq b1 = some (oc #[(vi x1)] 3) := HS.freezeC hs22 (k := 1) rfl
   obtain ⟨F3, hs26, le27, hF28⟩ : ∃ Fq, HS w0 F0 w21 Fq [] ∧ Mem.le F2 Fq ∧ Fq b18 = some (oc #[(.func (.func 69) #[] #[(.pointer (some ⟨b1, 0, none⟩))])] 90) := HS.freezeC hs23 (k := 0) rfl
   obtain ⟨r29, hr30, h31⟩ := bind_some h17
   refine Cl 22 40 70 #[(.tmp 20), (.tmp 21)] #[32, 93] co_slices_MinFunc_api_Band_api_Band hs26 (c_slices_MinFunc_api_Band_api_Band N w21 F3 hs26.pers (x0) a0_0 n0_0 hb0_0 (SlA.mono hs0_0 ((le10.trans le24).trans le27)) 71 [] [(.pointer (some ⟨b18, 0, none⟩))] (fun y0 y1 => air_Nearest_2 N y0 y1 (fun y0 => air_Nearest_1 N y0 x1)) co_air_Nearest_2 (fun w1 F1 y0 y1 r le1 pe1 hr1 => c_air_Nearest_2 N w1 F1 pe1  y0 y1 b18 (fun y0 => air_Nearest_1 N y0 x1) 69 [] [(.pointer (some ⟨b1, 0, none⟩))] co_air_Nearest_1 (Fn90.mono (fun w1 F1 y0 r le1 pe1 hr1 => c_air_Nearest_1 N w1 F1 pe1  y0 b1 x1 (le1 _ _ (le27 _ _ hF25)) r hr1) le1) (le1 _ _ hF28) r hr1) _ hr30) ?_
   intro v32 F4 w33 hs34 le35 hp36
   obtain rfl := hp36
   refine Al 9 0 40 #[(vi 0), (vi 0), (vi 0)] hs34 (fun b37 w38 (hs39 : HS w0 F0 w38 F4 [(sb b37 #[(vi 0), (vi 0), (vi 0)] 40)]) => ?_)
   refine RWP.store (ty := 0) (g := none) (by kernel_rfl) rfl (x := (.tmp 9)) (y := (.tmp 22)) (t := 40) (gg := true) (s := 3) (v := (.agg (kBand r29))) (b := b37) (o := 0) (C := #[(vi 0), (vi 0), (vi 0)]) rfl rfl (by kernel_rfl) hs39 (k := 0) rfl rfl rfl rfl (C' := (kBand r29)) rfl (fun w40 (hs41 : HS w0 F0 w40 F4 [(sb b37 (kBand r29) 40)]) => ?_)
   refine Nss ?_
   obtain ⟨j47, hj52, h53⟩ := bind_some h31
   refine CWP.regionD (by kernel_rfl) (by kernel_rfl) (by kernel_rfl) (by kernel_rfl) (z := 8) (F := F4) (Lc := [(sb b37 (kBand r29) 40)]) (Lz := []) (l := [false, false, false, false, false, false, false, false]) (fuel := 8) (by kernel_rfl) (by kernel_rfl) hs41 (by simp) (by simp) (fun f w => ∃ (F5 : Mem), HS w0 F0 w F5 [] ∧ Mem.le F4 F5 ∧ f.d = [] ∧ f 4 = (vi r29.ID) ∧ f 5 = (vi j47) ∧ f 6 = (vi 0)) (fun wd42 hw43 => ?_) ?_
   ·refine Dt 0 23 0 (.pointer (some ⟨b37, 0, none⟩)) (fun _ hq => fa 40 9 0 0 1 b37 0 0) ?_
    refine Dt 1 24 3 _ (fun _ hq => ld 3 23 b37 0 false 1 (vi r29.ID) (hq.1.2 0 _ _ rfl)) ?_
    refine Dt 2 25 90 _ (fun _ hq => ld 90 8 b18 0 false 1 (.func (.func 69) #[] #[(.pointer (some ⟨b1, 0, none⟩))]) (hq.1.1 _ _ (le35 _ _ hF28))) ?_
    refine Dt 3 26 40 _ (fun _ hq => ld 40 9 b37 0 true 3 (.agg (kBand r29)) (hq.1.2 0 _ _ rfl)) ?_
    refine DWP.one (i := 4) (by kernel_rfl) ?_
    obtain ⟨r54, hr55, h56⟩ := bind_some hj52
    refine DStep.call (l' := [true, true, true, true, true, false, false, false]) (zd := true) (by kernel_rfl) (by kernel_rfl) (by kernel_rfl) (dst := (some 27)) (ty := 3) (g := none) (by kernel_rfl) rfl (f0 := (.tmp 25)) (aos := #[(.tmp 26)]) (ats := #[40]) (fid := 69) (first := #[]) (cap := #[(.pointer (some ⟨b1, 0, none⟩))]) (args := [(.agg (kBand r29)), (.pointer (some ⟨b1, 0, none⟩))]) rfl co_air_Nearest_1 (rfl) hw43 (c_air_Nearest_1 N wd42 F4 hw43.pers (r29) b1 x1 ((le27.trans le35) _ _ hF25) _ hr55) ?_
    intro v57 F6 w58 hs59 le60 hp61
    obtain rfl := hp61
    refine Dt 5 4 3 _ (fun _ hq => ma 24 (vi r29.ID)) ?_
    refine Dt 6 5 3 _ (fun _ hq => ma 27 (vi r54)) ?_
    refine Dt 7 6 23 _ (fun _ hq => mc (vi 0) (vi 0)) ?_
    obtain rfl := some_inj h56
    have hs62 : HS w0 F0 w58 F6 [] := hs59.drop 0
    exact DWP.done (by kernel_rfl) ⟨F6, hs62, le60, rfl, rfl, rfl, rfl⟩
   ·rintro f w44 ⟨F5, hs45, le46, e48, e49, e50, e51⟩
    refine thenQ_nrm ?_
    refine CWP.ret (by kernel_rfl) ?_
    have hfin := some_inj h53
    subst hfin
    exact ⟨e48, (.tuple #[(vi r29.ID), (vi j47), (vi 0)]), res_of (l := [.tmp 4, .tmp 5, .tmp 6]) (by kernel_rfl) (vs := [(vi r29.ID), (vi j47), (vi 0)]) ⟨e49, ⟨e50, ⟨e51, trivial⟩⟩⟩, (.tuple #[(vi r29.ID), (vi j47), (vi 0)]), F5, rfl, hs45.clear, rfl⟩
end Go.Proofs.YtlddakefmfcblaaGreatDoor
namespace Go.Proofs.YtlddakefmfcblaaGreatDoor
open Go.Proofs
end Go.Proofs.YtlddakefmfcblaaGreatDoor
namespace Go.Proofs.YtlddakefmfcblaaGreatDoor
open Go.Proofs
end Go.Proofs.YtlddakefmfcblaaGreatDoor
namespace Go.Proofs.YtlddakefmfcblaaGreatDoor
open Go.Proofs
end Go.Proofs.YtlddakefmfcblaaGreatDoor
namespace Go.Proofs.YtlddakefmfcblaaGreatDoor
open Go.Proofs
end Go.Proofs.YtlddakefmfcblaaGreatDoor
namespace Go.Proofs.YtlddakefmfcblaaGreatDoor
def bAt (l : List Band) (i : Nat) : Band := l.getD i { ID := 0, Lo := 0, Hi := 0 }
theorem idx_at {l : List Band} {i : Nat} (h : i < l.length) : idx l (i : Int) = some (bAt l i) := by
 rw [idx_nat h]; unfold bAt; rw [List.getD_eq_getElem?_getD, List.getElem?_eq_getElem h]; rfl
theorem bAt_mem {l : List Band} {i : Nat} (h : i < l.length) : bAt l i ∈ l := by
 unfold bAt; rw [List.getD_eq_getElem?_getD, List.getElem?_eq_getElem h]; exact List.getElem_mem h
theorem mem_bAt {l : List Band} {b : Band} (h : b ∈ l) : ∃ i, i < l.length ∧ b = bAt l i := by
 obtain ⟨i, hi, rfl⟩ := List.getElem_of_mem h
 exact ⟨i, hi, by unfold bAt; rw [List.getD_eq_getElem?_getD, List.getElem?_eq_getElem hi]; rfl⟩
def okBand (b : Band) : Bool := (decide (1 ≤ b.ID) && decide (b.ID ≤ 65535)) && ((decide (1 ≤ b.Lo) && decide (b.Lo ≤ b.Hi)) && decide (b.Hi ≤ 10000000))
def okNext (a b : Band) : Bool := decide (a.ID < b.ID) && decide (a.Hi < b.Lo)
def okAt (l : List Band) (i : Nat) : Bool := okBand (bAt l i) && (decide (i = 0) || okNext (bAt l (i - 1)) (bAt l i))
def vB (l : List Band) : Bool := allB l.length (okAt l) && decide (l.length ≤ 16)
theorem gt_dec (a b : Int) : decide (a > b) = !decide (a ≤ b) := by rw [← decide_not, decide_eq_decide]; omega
theorem lt_dec2 (a b : Int) : decide (a < b) = !decide (b ≤ a) := by rw [← decide_not, decide_eq_decide]; omega
theorem w64p (i : Nat) (h : i < 4611686018427387904) (h0 : 0 < i) : W64 ((i : Int) - 1) = ((i - 1 : Nat) : Int) := by
 rw [W64_id (by omega) (by omega)]; omega
section
variable {N : Nat} {l : List Band}
theorem s_ValidBands (hl : l.length < 4000000000) (hN : 4294967300 < N) : air_ValidBands N l = some (vB l) := by
 unfold air_ValidBands
 rw [iter_check' (n := l.length) (okAt l) false ?_ ?_ (by omega)]
 ·unfold vB
  have : decide ((l.length : Int) ≤ 16) = decide (l.length ≤ 16) := by rw [decide_eq_decide]; omega
  rw [this]
  cases allB l.length (okAt l) <;> rfl
 ·intro i hi
  unfold air_ValidBands_L0
  rw [lt_dec hi, cond_true, idx_at hi, Option.bind_some]
  simp only [m_within, Option.bind_some]
  unfold okAt okBand okNext
  rw [w64s i (by omega), gt_dec]
  by_cases h0 : i = 0
  ·subst h0
   rw [decide_eq_false (show ¬ (((0 : Nat) : Int) > 0) by decide), decide_eq_true (show 0 = 0 from rfl)]
   cases (decide (1 ≤ (bAt l 0).ID) && decide ((bAt l 0).ID ≤ 65535)) <;> cases (decide (1 ≤ (bAt l 0).Lo) && decide ((bAt l 0).Lo ≤ (bAt l 0).Hi)) <;> cases decide ((bAt l 0).Hi ≤ 10000000) <;> rfl
  ·rw [decide_eq_true (show (i : Int) > 0 by omega), decide_eq_false h0, w64p i (by omega) (by omega), idx_at (by omega)]
   simp only [Option.bind_some]
   rw [lt_dec2 (bAt l (i - 1)).ID, lt_dec2 (bAt l (i - 1)).Hi]
   cases (decide (1 ≤ (bAt l i).ID) && decide ((bAt l i).ID ≤ 65535)) <;> cases (decide (1 ≤ (bAt l i).Lo) && decide ((bAt l i).Lo ≤ (bAt l i).Hi)) <;> cases decide ((bAt l i).Hi ≤ 10000000) <;> cases decide ((bAt l i).ID ≤ (bAt l (i - 1)).ID) <;> cases decide ((bAt l i).Lo ≤ (bAt l (i - 1)).Hi) <;> rfl
 ·unfold air_ValidBands_L0
  rw [lt_dec', cond_false]
structure BandR (b : Band) : Prop where
 id1 : 1 ≤ b.ID
 id2 : b.ID ≤ 65535
 lo : 1 ≤ b.Lo
 le : b.Lo ≤ b.Hi
 hi : b.Hi ≤ 10000000
theorem okAt_ok {i : Nat} (h : okAt l i = true) : BandR (bAt l i) ∧ (0 < i → (bAt l (i - 1)).ID < (bAt l i).ID ∧ (bAt l (i - 1)).Hi < (bAt l i).Lo) := by
 unfold okAt okBand okNext at h
 simp only [Bool.and_eq_true, Bool.or_eq_true, decide_eq_true_eq] at h
 refine ⟨⟨h.1.1.1, h.1.1.2, h.1.2.1.1, h.1.2.1.2, h.1.2.2⟩, fun h0 => ?_⟩
 rcases h.2 with h2 | h2
 ·omega
 ·exact h2
theorem vB_ok (h : vB l = true) : l.length ≤ 16 ∧ (∀ b, b ∈ l → BandR b) ∧ ∀ j i, i < j → j < l.length → (bAt l i).ID < (bAt l j).ID ∧ (bAt l i).Hi < (bAt l j).Lo := by
 unfold vB at h
 simp only [Bool.and_eq_true, decide_eq_true_eq] at h
 have hall : ∀ i, i < l.length → BandR (bAt l i) := fun i hi => (okAt_ok (allB_t h.1 hi)).1
 refine ⟨h.2, ?_, ?_⟩
 ·intro b hb
  obtain ⟨i, hi, rfl⟩ := mem_bAt hb
  exact hall i hi
 ·intro j
  induction j with
  | zero => intro i hi; omega
  | succ j ih =>
   intro i hi hj
   have h1 := (okAt_ok (allB_t h.1 hj)).2 (by omega)
   rw [Nat.add_sub_cancel] at h1
   by_cases hij : i = j
   ·subst hij; exact h1
   ·have h2 := ih i (by omega) (by omega)
    have h3 := hall j (by omega)
    exact ⟨by omega, by have := h3.le; omega⟩
def dist (b : Band) (f : Int) : Int := max (max 0 (b.Lo - f)) (f - b.Hi)
def near (f : Int) (m b : Band) : Band := if dist b f < dist m f then b else m
def nearS (l : List Band) (f : Int) : Band := (List.range l.length).foldl (fun m i => near f m (bAt l i)) (bAt l 0)
theorem near_fold (f : Int) (l : List Band) (h0 : 0 < l.length) : ∀ n, n ≤ l.length → ((List.range n).foldl (fun m i => near f m (bAt l i)) (bAt l 0)) ∈ l ∧ ∀ i, i < n → dist ((List.range n).foldl (fun m i => near f m (bAt l i)) (bAt l 0)) f ≤ dist (bAt l i) f := by
 intro n
 induction n with
 | zero => intro _; exact ⟨bAt_mem h0, fun i hi => by omega⟩
 | succ n ih =>
  intro hn
  obtain ⟨h1, h2⟩ := ih (by omega)
  rw [List.range_succ, List.foldl_append]
  simp only [List.foldl_cons, List.foldl_nil]
  generalize (List.range n).foldl (fun m i => near f m (bAt l i)) (bAt l 0) = m at h1 h2 ⊢
  unfold near
  split
  ·rename_i hc
   refine ⟨bAt_mem (by omega), fun i hi => ?_⟩
   by_cases hin : i = n
   ·subst hin; exact Int.le_refl _
   ·have := h2 i (by omega); omega
  ·rename_i hc
   refine ⟨h1, fun i hi => ?_⟩
   by_cases hin : i = n
   ·subst hin; omega
   ·exact h2 i (by omega)
theorem nearS_mem (f : Int) (h0 : 0 < l.length) : nearS l f ∈ l := (near_fold f l h0 l.length (Nat.le_refl _)).1
theorem near_pos {f : Int} {m b : Band} (h : dist b f < dist m f) : near f m b = b := if_pos h
theorem near_neg {f : Int} {m b : Band} (h : ¬ dist b f < dist m f) : near f m b = m := if_neg h
theorem near_first (f : Int) (l : List Band) : near f (bAt l 0) (bAt l 0) = bAt l 0 := by unfold near; split <;> rfl
def wrongS (l : List Band) (f : Int) : Int := if vB l = true then (if 1 ≤ f ∧ f ≤ 10000000 then 0 else 1) else 11
theorem s_wrong (hl : l.length < 4000000000) (hN : 4294967300 < N) (f : Int) : air_wrongBands N l f = some (wrongS l f) := by
 unfold air_wrongBands wrongS
 rw [s_ValidBands hl hN, Option.bind_some, m_within]
 cases vB l with
 | false => rfl
 | true =>
  by_cases hf : 1 ≤ f ∧ f ≤ 10000000
  ·rw [if_pos rfl, if_pos hf, decide_eq_true hf.1, decide_eq_true hf.2]; rfl
  ·rw [if_pos rfl, if_neg hf]
   have : (decide (1 ≤ f) && decide (f ≤ 10000000)) = false := by rw [Bool.and_eq_false_iff, decide_eq_false_iff_not, decide_eq_false_iff_not]; omega
   rw [this]; rfl
def nearestS (l : List Band) (f : Int) : Int × Int × Int := if wrongS l f = 0 then (if l.length = 0 then (0, 0, 3) else ((nearS l f).ID, dist (nearS l f) f, 0)) else (0, 0, wrongS l f)
theorem wrong_ok {f : Int} (h : wrongS l f = 0) : vB l = true ∧ 1 ≤ f ∧ f ≤ 10000000 := by
 unfold wrongS at h
 split at h
 ·split at h
  ·exact ⟨by assumption, by omega, by omega⟩
  ·omega
 ·omega
theorem n1 {b : Band} {f : Int} (hb : BandR b) (h1 : 1 ≤ f) (h2 : f ≤ 10000000) : air_Nearest_1 N b f = some (dist b f) := by
 unfold air_Nearest_1 dist
 have := hb.lo; have := hb.le; have := hb.hi
 rw [W64_id (by omega) (by omega), W64_id (by omega) (by omega)]
theorem cmp_lt (a b : Int) : (cmp_Compare_int N a b).bind (fun r => some (decide (r < 0))) = some (decide (a < b)) := by
 unfold cmp_Compare_int cmp_isNaN_int
 rw [show (a != a) = false by simp, show (b != b) = false by simp]
 simp only [Option.bind_some, cond_false]
 by_cases h : a < b
 ·rw [decide_eq_true h]; rfl
 ·rw [decide_eq_false h, cond_false]
  cases decide (a > b) <;> rfl
theorem n2 {a b : Band} {f : Int} (ha : BandR a) (hb : BandR b) (h1 : 1 ≤ f) (h2 : f ≤ 10000000) : (air_Nearest_2 N a b (fun y0 => air_Nearest_1 N y0 f)).bind (fun r => some (decide (r < 0))) = some (decide (dist a f < dist b f)) := by
 unfold air_Nearest_2
 simp only [n1 ha h1 h2, n1 hb h1 h2, Option.bind_some]
 rw [← cmp_lt (N := N) (dist a f) (dist b f)]
 cases cmp_Compare_int N (dist a f) (dist b f) <;> rfl
theorem s_Min {f : Int} (hv : vB l = true) (h0 : 0 < l.length) (h1 : 1 ≤ f) (h2 : f ≤ 10000000) (hN : 4294967300 < N) : slices_MinFunc_api_Band_api_Band N l (fun y0 y1 => air_Nearest_2 N y0 y1 (fun y0 => air_Nearest_1 N y0 f)) = some (nearS l f) := by
 obtain ⟨h16, hR, _⟩ := vB_ok hv
 unfold slices_MinFunc_api_Band_api_Band
 rw [decide_eq_false (by omega), cond_false, show (0 : Int) = ((0 : Nat) : Int) from rfl, idx_at h0, Option.bind_some]
 let enc : Nat → Band → Int × Int × Int × Int := fun i m => ((i : Int), m.ID, m.Lo, m.Hi)
 let fo : Nat → Band := fun n => (List.range n).foldl (fun m i => near f m (bAt l i)) (bAt l 0)
 obtain ⟨o, ho, rfl⟩ := iter_ex (body := slices_MinFunc_api_Band_api_Band_L0 N l (fun y0 y1 => air_Nearest_2 N y0 y1 (fun y0 => air_Nearest_1 N y0 f)) (bAt l 0)) l.length (fun i s => 1 ≤ i ∧ s = enc i (fo i)) (fun o => o = .done (enc l.length (fo l.length))) (by
  rintro i s hi ⟨hi1, rfl⟩
  by_cases h : i < l.length
  ·refine .inl ⟨enc (i + 1) (fo (i + 1)), ?_, ⟨by omega, rfl⟩, h⟩
   have hm := (near_fold f l h0 i hi).1
   have e1 : fo (i + 1) = near f (fo i) (bAt l i) := by show (List.range (i + 1)).foldl _ _ = _; rw [List.range_succ, List.foldl_append]; rfl
   rw [e1]
   unfold slices_MinFunc_api_Band_api_Band_L0
   show (bif decide ((i : Int) < (l.length : Int)) then _ else _) = _
   rw [lt_dec h, cond_true]
   show ((idx l (i : Int)).bind _).bind _ = _
   rw [idx_at h, Option.bind_some]
   show (((air_Nearest_2 N (bAt l i) (fo i) (fun y0 => air_Nearest_1 N y0 f)).bind fun r75 => some (decide (r75 < 0))).bind _) = _
   rw [n2 (hR _ (bAt_mem h)) (hR _ hm) h1 h2, Option.bind_some]
   by_cases hd : dist (bAt l i) f < dist (fo i) f
   ·rw [decide_eq_true hd, cond_true, near_pos hd]
    show some (Flow.next (W64 ((i : Int) + 1), _, _, _)) = _
    rw [w64s i (by omega)]
   ·rw [decide_eq_false hd, cond_false, near_neg hd]
    show some (Flow.next (W64 ((i : Int) + 1), _, _, _)) = _
    rw [w64s i (by omega)]
  ·have : i = l.length := by omega
   subst this
   refine .inr ⟨_, ?_, (fun _ h => by cases h), rfl⟩
   unfold slices_MinFunc_api_Band_api_Band_L0
   show (bif decide ((l.length : Int) < (l.length : Int)) then _ else _) = _
   rw [lt_dec', cond_false]) (l.length - 1) N 1 (enc 1 (fo 1)) (by omega) ⟨Nat.le_refl _, rfl⟩ (by omega)
 have e1 : fo 1 = bAt l 0 := near_first f l
 have ho' := ho
 rw [e1] at ho'
 have : iter (slices_MinFunc_api_Band_api_Band_L0 N l (fun y0 y1 => air_Nearest_2 N y0 y1 (fun y0 => air_Nearest_1 N y0 f)) (bAt l 0)) N (1, (bAt l 0).ID, (bAt l 0).Lo, (bAt l 0).Hi) = some (.done (enc l.length (fo l.length))) := ho'
 rw [this]
 rfl
theorem s_Nearest (hl : l.length < 4000000000) (hN : 4294967300 < N) (f : Int) : air_Nearest N l f = some (nearestS l f) := by
 unfold air_Nearest nearestS
 rw [s_wrong hl hN, Option.bind_some]
 by_cases hw : wrongS l f = 0
 ·rw [if_pos hw, hw, show ((0 : Int) != 0) = false from rfl, cond_false]
  obtain ⟨hv, h1, h2⟩ := wrong_ok hw
  by_cases h0 : l.length = 0
  ·rw [if_pos h0, show ((l.length : Int) == 0) = true by simp [h0]]; rfl
  ·rw [if_neg h0, show ((l.length : Int) == 0) = false by simp; intro h; rw [h] at h0; exact h0 rfl, cond_false, s_Min hv (by omega) h1 h2 hN, Option.bind_some]
   rw [n1 ((vB_ok hv).2.1 _ (nearS_mem f (by omega))) h1 h2]
   rfl
 ·rw [if_neg hw, show (wrongS l f != 0) = true by simpa using hw, cond_true]
end
end Go.Proofs.YtlddakefmfcblaaGreatDoor
