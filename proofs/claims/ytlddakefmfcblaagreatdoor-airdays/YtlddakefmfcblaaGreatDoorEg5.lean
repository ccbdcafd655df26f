/- Lemmas of the claim AirDays, printed by a program of the claimant and by hand. No statement of the seat is proved here. -/
import Derived.Test.YtlddakefmfcblaaGreatDoorEg4
set_option linter.unusedVariables false
set_option linter.unusedSimpArgs false
set_option linter.unusedSectionVars false
namespace Go.Proofs.YtlddakefmfcblaaGreatDoor
open Go.Proofs
def law01_awake (N : Nat)  : Option Bool :=
 ((air_Split N ([71, 51, 47, 77, 48, 65, 66, 47, 80] : List UInt8)).bind fun r1 => ((air_PrefixOf N ([87, 49, 65, 87, 47, 52] : List UInt8)).bind fun r14 => ((air_PrintTime N 1505).bind fun r22 => ((air_ParseTime N ([50, 32, 48, 49, 48, 53] : List UInt8)).bind fun r30 => ((air_Nearest N ([({ ID := 1, Lo := 1800, Hi := 2000 } : Band), ({ ID := 2, Lo := 3500, Hi := 3800 } : Band)]) 2750).bind fun r47 => ((bif (r1.2 == 0) then (bif ((r1.1.Area == ([71, 51] : List UInt8)) && ((r1.1.Prefix == ([77, 48] : List UInt8)) && ((r1.1.Suffix == ([65, 66] : List UInt8)) && ((r1.1.Stroke == ([80] : List UInt8)) && true)))) then (bif (r14.2 == 0) then (bif (r14.1 == ([87, 52] : List UInt8)) then (bif (r22.2 == 0) then (bif (r22.1 == ([50, 32, 48, 49, 48, 53] : List UInt8)) then (bif (r30.2 == 0) then (bif (r30.1 == 1505) then (bif (r47.2.2 == 0) then (bif (r47.1 == 1) then (bif (r47.2.1 == 750) then ((air_ValidCall N ([68, 76, 49, 65, 47, 87, 49, 65] : List UInt8)).bind fun r85 => some (!r85)) else some false) else some false) else some false) else some false) else some false) else some false) else some false) else some false) else some false) else some false) else some false).bind fun j58 => some j58))))))
theorem co_law01_awake : CallOk Tryz.prog 17 := fun _ _ => by kernel_rfl
set_option maxHeartbeats 4000000 in
set_option maxRecDepth 100000 in
theorem c_law01_awake (N : Nat) (w0 : World) (F0 : Mem) (hF : ∀ b o, F0 b = some o → w0.heap[b]? = some o) (hG : Glob F0)  (r : Bool) (h : law01_awake N  = some r) :
  Calls Tryz.prog 17 ([] : List Value).toArray w0 (FRet w0 F0 fun F' v => v = (.bool r)) := by
 have hs0 := HS.start hF
 refine calls_of (n := 85) (c := bodyOf Tryz.f17) Tryz.func17 (by kernel_rfl) (by kernel_rfl) (by kernel_rfl) ?_
 refine Sq (Rg [0] ?_)
 refine V 0 4 (mc (.bool false) (.bool false)) ?_
 refine Nss (Rg [0, 1, 2, 3, 4, 5, 6] ?_)
 obtain ⟨r1, hr2, h3⟩ := bind_some h
 refine Cl 14 28 19 #[(.const (.string ⟨([71, 51, 47, 77, 48, 65, 66, 47, 80] : List UInt8).toArray⟩))] #[9] co_air_Split hs0 (c_air_Split N w0 F0 hs0.pers hG (([71, 51, 47, 77, 48, 65, 66, 47, 80] : List UInt8)) _ hr2) ?_
 intro v4 F1 w5 hs6 le7 hp8
 obtain rfl := hp8
 refine V 13 28 (mv 14 (.tuple #[(.agg #[(.string ⟨(r1.1.Area).toArray⟩), (.string ⟨(r1.1.Prefix).toArray⟩), (.string ⟨(r1.1.Suffix).toArray⟩), (.string ⟨(r1.1.Stroke).toArray⟩)]), (vi r1.2)])) ?_
 refine V 15 27 (ex 13 0 (.agg #[(.string ⟨(r1.1.Area).toArray⟩), (.string ⟨(r1.1.Prefix).toArray⟩), (.string ⟨(r1.1.Suffix).toArray⟩), (.string ⟨(r1.1.Stroke).toArray⟩)]) (vs := #[(.agg #[(.string ⟨(r1.1.Area).toArray⟩), (.string ⟨(r1.1.Prefix).toArray⟩), (.string ⟨(r1.1.Suffix).toArray⟩), (.string ⟨(r1.1.Stroke).toArray⟩)]), (vi r1.2)])) ?_
 refine V 16 23 (ex 13 1 (vi r1.2) (vs := #[(.agg #[(.string ⟨(r1.1.Area).toArray⟩), (.string ⟨(r1.1.Prefix).toArray⟩), (.string ⟨(r1.1.Suffix).toArray⟩), (.string ⟨(r1.1.Stroke).toArray⟩)]), (vi r1.2)])) ?_
 refine Al 1 0 27 #[(.string ⟨(([] : List UInt8)).toArray⟩), (.string ⟨(([] : List UInt8)).toArray⟩), (.string ⟨(([] : List UInt8)).toArray⟩), (.string ⟨(([] : List UInt8)).toArray⟩)] hs6 (fun b9 w10 (hs11 : HS w0 F0 w10 F1 [(sb b9 #[(.string ⟨(([] : List UInt8)).toArray⟩), (.string ⟨(([] : List UInt8)).toArray⟩), (.string ⟨(([] : List UInt8)).toArray⟩), (.string ⟨(([] : List UInt8)).toArray⟩)] 27)]) => ?_)
 refine RWP.store (ty := 0) (g := none) (by kernel_rfl) rfl (x := (.tmp 1)) (y := (.tmp 15)) (t := 27) (gg := true) (s := 4) (v := (.agg #[(.string ⟨(r1.1.Area).toArray⟩), (.string ⟨(r1.1.Prefix).toArray⟩), (.string ⟨(r1.1.Suffix).toArray⟩), (.string ⟨(r1.1.Stroke).toArray⟩)])) (b := b9) (o := 0) (C := #[(.string ⟨(([] : List UInt8)).toArray⟩), (.string ⟨(([] : List UInt8)).toArray⟩), (.string ⟨(([] : List UInt8)).toArray⟩), (.string ⟨(([] : List UInt8)).toArray⟩)]) rfl rfl (by kernel_rfl) hs11 (k := 0) rfl rfl rfl rfl (C' := #[(.string ⟨(r1.1.Area).toArray⟩), (.string ⟨(r1.1.Prefix).toArray⟩), (.string ⟨(r1.1.Suffix).toArray⟩), (.string ⟨(r1.1.Stroke).toArray⟩)]) rfl (fun w12 (hs13 : HS w0 F0 w12 F1 [(sb b9 #[(.string ⟨(r1.1.Area).toArray⟩), (.string ⟨(r1.1.Prefix).toArray⟩), (.string ⟨(r1.1.Suffix).toArray⟩), (.string ⟨(r1.1.Stroke).toArray⟩)] 27)]) => ?_)
 refine V 2 23 (ma 16 (vi r1.2)) ?_
 refine Nss (Rg [0, 1, 2, 3, 4, 5] ?_)
 obtain ⟨r14, hr15, h16⟩ := bind_some h3
 refine Cl 18 24 18 #[(.const (.string ⟨([87, 49, 65, 87, 47, 52] : List UInt8).toArray⟩))] #[9] co_air_PrefixOf hs13 (c_air_PrefixOf N w12 F1 hs13.pers (hG.mono le7) (([87, 49, 65, 87, 47, 52] : List UInt8)) _ hr15) ?_
 intro v17 F2 w18 hs19 le20 hp21
 obtain rfl := hp21
 refine V 17 24 (mv 18 (.tuple #[(.string ⟨(r14.1).toArray⟩), (vi r14.2)])) ?_
 refine V 19 9 (ex 17 0 (.string ⟨(r14.1).toArray⟩) (vs := #[(.string ⟨(r14.1).toArray⟩), (vi r14.2)])) ?_
 refine V 20 23 (ex 17 1 (vi r14.2) (vs := #[(.string ⟨(r14.1).toArray⟩), (vi r14.2)])) ?_
 refine V 3 9 (ma 19 (.string ⟨(r14.1).toArray⟩)) ?_
 refine V 4 23 (ma 20 (vi r14.2)) ?_
 refine Nss (Rg [0, 1, 2, 3, 4, 5] ?_)
 obtain ⟨r22, hr23, h24⟩ := bind_some h16
 refine Cl 22 24 28 #[(.const (vi 1505))] #[3] co_air_PrintTime hs19 (c_air_PrintTime N w18 F2 hs19.pers (hG.mono (le7.trans le20)) (1505) _ hr23) ?_
 intro v25 F3 w26 hs27 le28 hp29
 obtain rfl := hp29
 refine V 21 24 (mv 22 (.tuple #[(.string ⟨(r22.1).toArray⟩), (vi r22.2)])) ?_
 refine V 23 9 (ex 21 0 (.string ⟨(r22.1).toArray⟩) (vs := #[(.string ⟨(r22.1).toArray⟩), (vi r22.2)])) ?_
 refine V 24 23 (ex 21 1 (vi r22.2) (vs := #[(.string ⟨(r22.1).toArray⟩), (vi r22.2)])) ?_
 refine V 5 9 (ma 23 (.string ⟨(r22.1).toArray⟩)) ?_
 refine V 6 23 (ma 24 (vi r22.2)) ?_
 refine Nss (Rg [0, 1, 2, 3, 4, 5] ?_)
 obtain ⟨r30, hr31, h32⟩ := bind_some h24
 refine Cl 26 33 30 #[(.const (.string ⟨([50, 32, 48, 49, 48, 53] : List UInt8).toArray⟩))] #[9] co_air_ParseTime hs27 (c_air_ParseTime N w26 F3 hs27.pers (hG.mono ((le7.trans le20).trans le28)) (([50, 32, 48, 49, 48, 53] : List UInt8)) _ hr31) ?_
 intro v33 F4 w34 hs35 le36 hp37
 obtain rfl := hp37
 refine V 25 33 (mv 26 (.tuple #[(vi r30.1), (vi r30.2)])) ?_
 refine V 27 3 (ex 25 0 (vi r30.1) (vs := #[(vi r30.1), (vi r30.2)])) ?_
 refine V 28 23 (ex 25 1 (vi r30.2) (vs := #[(vi r30.1), (vi r30.2)])) ?_
 refine V 7 3 (ma 27 (vi r30.1)) ?_
 refine V 8 23 (ma 28 (vi r30.2)) ?_
 refine Nss (Rg [0, 1, 2, 3] ?_)
 refine V 29 40 (run_build2 (t := 40) (parts := #[(0, (.const (vi 1))), (1, (.const (vi 1800))), (2, (.const (vi 2000)))]) (vs := [(0, (vi 1)), (1, (vi 1800)), (2, (vi 2000))]) (rfl) (cs := [(vi 1), (vi 1800), (vi 2000)]) (by kernel_rfl)) ?_
 refine V 30 40 (run_build2 (t := 40) (parts := #[(0, (.const (vi 2))), (1, (.const (vi 3500))), (2, (.const (vi 3800)))]) (vs := [(0, (vi 2)), (1, (vi 3500)), (2, (vi 3800))]) (rfl) (cs := [(vi 2), (vi 3500), (vi 3800)]) (by kernel_rfl)) ?_
 refine RWP.buildSlice (dst := (some 31)) (ty := 32) (g := none) (by kernel_rfl) rfl (t := 32) (len := 2) (parts := #[(0, (.tmp 29)), (1, (.tmp 30))]) (vs := [(0, (.agg #[(vi 1), (vi 1800), (vi 2000)])), (1, (.agg #[(vi 2), (vi 3500), (vi 3800)]))]) (rfl) (E := 40) (cs := [(vi 1), (vi 1800), (vi 2000), (vi 2), (vi 3500), (vi 3800)]) (by kernel_rfl) hs35 (fun b38 w39 (hs40 : HS w0 F0 w39 F4 [(some b38, .cells ([(vi 1), (vi 1800), (vi 2000), (vi 2), (vi 3500), (vi 3800)] : List Value).toArray 40 (0, 0)), (sb b9 #[(.string ⟨(r1.1.Area).toArray⟩), (.string ⟨(r1.1.Prefix).toArray⟩), (.string ⟨(r1.1.Suffix).toArray⟩), (.string ⟨(r1.1.Stroke).toArray⟩)] 27)]) => ?_)
 have hr42 : RowR tBand 40 F4 (some ⟨b38, 0, none⟩) 2 [({ ID := 1, Lo := 1800, Hi := 2000 } : Band), ({ ID := 2, Lo := 3500, Hi := 3800 } : Band)] (some b38, .cells ([(vi 1), (vi 1800), (vi 2000), (vi 2), (vi 3500), (vi 3800)] : List Value).toArray 40 (0, 0)) := RowR.lit ⟨rfl, ⟨rfl, rfl⟩⟩ (by simp)
 refine V 9 32 (ma 31 (.slice (some ⟨b38, 0, none⟩) [({ ID := 1, Lo := 1800, Hi := 2000 } : Band), ({ ID := 2, Lo := 3500, Hi := 3800 } : Band)].length 2)) ?_
 refine Nss (Rg [0, 1, 2, 3, 4, 5, 6, 7, 8] ?_)
 refine V 33 32 (mv 9 (.slice (some ⟨b38, 0, none⟩) [({ ID := 1, Lo := 1800, Hi := 2000 } : Band), ({ ID := 2, Lo := 3500, Hi := 3800 } : Band)].length 2)) ?_
 have hb46 := RowR.bound hr42
 obtain ⟨F5, hs43, le44, hs45⟩ : ∃ Fq, HS w0 F0 w39 Fq [(sb b9 #[(.string ⟨(r1.1.Area).toArray⟩), (.string ⟨(r1.1.Prefix).toArray⟩), (.string ⟨(r1.1.Suffix).toArray⟩), (.string ⟨(r1.1.Stroke).toArray⟩)] 27)] ∧ Mem.le F4 Fq ∧ SlA tBand Fq (some ⟨b38, 0, none⟩) [({ ID := 1, Lo := 1800, Hi := 2000 } : Band), ({ ID := 2, Lo := 3500, Hi := 3800 } : Band)] := HS.freezeRow hs40 (k := 0) rfl hr42
 obtain ⟨r47, hr48, h49⟩ := bind_some h32
 refine Cl 34 35 24 #[(.tmp 33), (.const (vi 2750))] #[32, 3] co_air_Nearest hs43 (c_air_Nearest N w39 F5 hs43.pers ([({ ID := 1, Lo := 1800, Hi := 2000 } : Band), ({ ID := 2, Lo := 3500, Hi := 3800 } : Band)]) (some ⟨b38, 0, none⟩) 2 hb46 hs45 (2750) _ hr48) ?_
 intro v50 F6 w51 hs52 le53 hp54
 obtain rfl := hp54
 refine V 32 35 (mv 34 (.tuple #[(vi r47.1), (vi r47.2.1), (vi r47.2.2)])) ?_
 refine V 35 3 (ex 32 0 (vi r47.1) (vs := #[(vi r47.1), (vi r47.2.1), (vi r47.2.2)])) ?_
 refine V 36 3 (ex 32 1 (vi r47.2.1) (vs := #[(vi r47.1), (vi r47.2.1), (vi r47.2.2)])) ?_
 refine V 37 23 (ex 32 2 (vi r47.2.2) (vs := #[(vi r47.1), (vi r47.2.1), (vi r47.2.2)])) ?_
 refine V 10 3 (ma 35 (vi r47.1)) ?_
 refine V 11 3 (ma 36 (vi r47.2.1)) ?_
 refine V 12 23 (ma 37 (vi r47.2.2)) ?_
 refine Nss (Rg [0, 1, 2, 3, 4, 5, 6, 7, 8, 9, 10, 11, 12, 13, 14, 15, 16, 17, 18, 19, 20, 21, 22, 23, 24, 25, 26, 27, 28, 29, 30, 31, 32, 33, 34, 35, 36, 37, 38, 39, 40, 41, 42, 43, 44, 45, 46, 47] ?_)
 obtain ⟨j58, hj61, h62⟩ := bind_some h49
 refine RWP.cut (fun f w => ∃ (F7 : Mem), HS w0 F0 w F7 [] ∧ Mem.le F6 F7 ∧ f.d = [] ∧ f 0 = (.bool j58)) ?_ ?_
 ·refine V 38 23 (mv 2 (vi r1.2)) ?_
  refine V 39 4 (run_eql (t := 23) (t' := 23) (x := (.tmp 38)) (y := (.const (vi 0))) (k := .i64) (a := r1.2) (b := 0) rfl rfl) ?_
  refine V 40 4 (mv 39 (.bool (r1.2 == 0))) ?_
  refine RWP.split (r1.2 == 0) (fun hb63 => ?_) (fun hb63 => ?_)
  ·have h64 := cond_t hj61 hb63
   refine Vg 41 27 2 true 40 hb63 (ld 27 1 b9 0 true 4 (.agg #[(.string ⟨(r1.1.Area).toArray⟩), (.string ⟨(r1.1.Prefix).toArray⟩), (.string ⟨(r1.1.Suffix).toArray⟩), (.string ⟨(r1.1.Stroke).toArray⟩)]) (hs52.ownAt (k := 0) rfl)) ?_
   refine Vg 42 27 2 true 40 hb63 (run_build2 (t := 27) (parts := #[(0, (.const (.string ⟨([71, 51] : List UInt8).toArray⟩))), (1, (.const (.string ⟨([77, 48] : List UInt8).toArray⟩))), (2, (.const (.string ⟨([65, 66] : List UInt8).toArray⟩))), (3, (.const (.string ⟨([80] : List UInt8).toArray⟩)))]) (vs := [(0, (.string ⟨(([71, 51] : List UInt8)).toArray⟩)), (1, (.string ⟨(([77, 48] : List UInt8)).toArray⟩)), (2, (.string ⟨(([65, 66] : List UInt8)).toArray⟩)), (3, (.string ⟨(([80] : List UInt8)).toArray⟩))]) (rfl) (cs := [(.string ⟨(([71, 51] : List UInt8)).toArray⟩), (.string ⟨(([77, 48] : List UInt8)).toArray⟩), (.string ⟨(([65, 66] : List UInt8)).toArray⟩), (.string ⟨(([80] : List UInt8)).toArray⟩)]) (by kernel_rfl)) ?_
   refine Vg 43 4 2 true 40 hb63 (run_eqs (t := 27) (t' := 27) (x := (.tmp 41)) (y := (.tmp 42)) (xs := #[(.string ⟨(r1.1.Area).toArray⟩), (.string ⟨(r1.1.Prefix).toArray⟩), (.string ⟨(r1.1.Suffix).toArray⟩), (.string ⟨(r1.1.Stroke).toArray⟩)]) (ys := #[(.string ⟨(([71, 51] : List UInt8)).toArray⟩), (.string ⟨(([77, 48] : List UInt8)).toArray⟩), (.string ⟨(([65, 66] : List UInt8)).toArray⟩), (.string ⟨(([80] : List UInt8)).toArray⟩)]) (b := ((r1.1.Area == ([71, 51] : List UInt8)) && ((r1.1.Prefix == ([77, 48] : List UInt8)) && ((r1.1.Suffix == ([65, 66] : List UInt8)) && ((r1.1.Stroke == ([80] : List UInt8)) && true))))) rfl rfl (by kernel_rfl) (by kernel_rfl)) ?_
   refine V 44 4 (p1 40 (.tmp 43) (.const (.bool false)) (.bool ((r1.1.Area == ([71, 51] : List UInt8)) && ((r1.1.Prefix == ([77, 48] : List UInt8)) && ((r1.1.Suffix == ([65, 66] : List UInt8)) && ((r1.1.Stroke == ([80] : List UInt8)) && true))))) hb63) ?_
   refine V 45 4 (mv 44 (.bool ((r1.1.Area == ([71, 51] : List UInt8)) && ((r1.1.Prefix == ([77, 48] : List UInt8)) && ((r1.1.Suffix == ([65, 66] : List UInt8)) && ((r1.1.Stroke == ([80] : List UInt8)) && true)))))) ?_
   refine RWP.split ((r1.1.Area == ([71, 51] : List UInt8)) && ((r1.1.Prefix == ([77, 48] : List UInt8)) && ((r1.1.Suffix == ([65, 66] : List UInt8)) && ((r1.1.Stroke == ([80] : List UInt8)) && true)))) (fun hb65 => ?_) (fun hb65 => ?_)
   ·have h66 := cond_t h64 hb65
    refine Vg 46 23 7 true 45 hb65 (mv 4 (vi r14.2)) ?_
    refine Vg 47 4 7 true 45 hb65 (run_eql (t := 23) (t' := 23) (x := (.tmp 46)) (y := (.const (vi 0))) (k := .i64) (a := r14.2) (b := 0) rfl rfl) ?_
    refine V 48 4 (p1 45 (.tmp 47) (.const (.bool false)) (.bool (r14.2 == 0)) hb65) ?_
    refine V 49 4 (mv 48 (.bool (r14.2 == 0))) ?_
    refine RWP.split (r14.2 == 0) (fun hb67 => ?_) (fun hb67 => ?_)
    ·have h68 := cond_t h66 hb67
     refine Vg 50 9 11 true 49 hb67 (mv 3 (.string ⟨(r14.1).toArray⟩)) ?_
     refine Vg 51 4 11 true 49 hb67 (run_scmp (t := 9) (t' := 9) (x := (.tmp 50)) (y := (.const (.string ⟨([87, 52] : List UInt8).toArray⟩))) (op := .eql) (a := r14.1) (b := ([87, 52] : List UInt8)) (v := (r14.1 == ([87, 52] : List UInt8))) rfl rfl rfl) ?_
     refine V 52 4 (p1 49 (.tmp 51) (.const (.bool false)) (.bool (r14.1 == ([87, 52] : List UInt8))) hb67) ?_
     refine V 53 4 (mv 52 (.bool (r14.1 == ([87, 52] : List UInt8)))) ?_
     refine RWP.split (r14.1 == ([87, 52] : List UInt8)) (fun hb69 => ?_) (fun hb69 => ?_)
     ·have h70 := cond_t h68 hb69
      refine Vg 54 23 15 true 53 hb69 (mv 6 (vi r22.2)) ?_
      refine Vg 55 4 15 true 53 hb69 (run_eql (t := 23) (t' := 23) (x := (.tmp 54)) (y := (.const (vi 0))) (k := .i64) (a := r22.2) (b := 0) rfl rfl) ?_
      refine V 56 4 (p1 53 (.tmp 55) (.const (.bool false)) (.bool (r22.2 == 0)) hb69) ?_
      refine V 57 4 (mv 56 (.bool (r22.2 == 0))) ?_
      refine RWP.split (r22.2 == 0) (fun hb71 => ?_) (fun hb71 => ?_)
      ·have h72 := cond_t h70 hb71
       refine Vg 58 9 19 true 57 hb71 (mv 5 (.string ⟨(r22.1).toArray⟩)) ?_
       refine Vg 59 4 19 true 57 hb71 (run_scmp (t := 9) (t' := 9) (x := (.tmp 58)) (y := (.const (.string ⟨([50, 32, 48, 49, 48, 53] : List UInt8).toArray⟩))) (op := .eql) (a := r22.1) (b := ([50, 32, 48, 49, 48, 53] : List UInt8)) (v := (r22.1 == ([50, 32, 48, 49, 48, 53] : List UInt8))) rfl rfl rfl) ?_
       refine V 60 4 (p1 57 (.tmp 59) (.const (.bool false)) (.bool (r22.1 == ([50, 32, 48, 49, 48, 53] : List UInt8))) hb71) ?_
       refine V 61 4 (mv 60 (.bool (r22.1 == ([50, 32, 48, 49, 48, 53] : List UInt8)))) ?_
       refine RWP.split (r22.1 == ([50, 32, 48, 49, 48, 53] : List UInt8)) (fun hb73 => ?_) (fun hb73 => ?_)
       ·have h74 := cond_t h72 hb73
        refine Vg 62 23 23 true 61 hb73 (mv 8 (vi r30.2)) ?_
        refine Vg 63 4 23 true 61 hb73 (run_eql (t := 23) (t' := 23) (x := (.tmp 62)) (y := (.const (vi 0))) (k := .i64) (a := r30.2) (b := 0) rfl rfl) ?_
        refine V 64 4 (p1 61 (.tmp 63) (.const (.bool false)) (.bool (r30.2 == 0)) hb73) ?_
        refine V 65 4 (mv 64 (.bool (r30.2 == 0))) ?_
        refine RWP.split (r30.2 == 0) (fun hb75 => ?_) (fun hb75 => ?_)
        ·have h76 := cond_t h74 hb75
         refine Vg 66 3 27 true 65 hb75 (mv 7 (vi r30.1)) ?_
         refine Vg 67 4 27 true 65 hb75 (run_eql (t := 3) (t' := 3) (x := (.tmp 66)) (y := (.const (vi 1505))) (k := .i64) (a := r30.1) (b := 1505) rfl rfl) ?_
         refine V 68 4 (p1 65 (.tmp 67) (.const (.bool false)) (.bool (r30.1 == 1505)) hb75) ?_
         refine V 69 4 (mv 68 (.bool (r30.1 == 1505))) ?_
         refine RWP.split (r30.1 == 1505) (fun hb77 => ?_) (fun hb77 => ?_)
         ·have h78 := cond_t h76 hb77
          refine Vg 70 23 31 true 69 hb77 (mv 12 (vi r47.2.2)) ?_
          refine Vg 71 4 31 true 69 hb77 (run_eql (t := 23) (t' := 23) (x := (.tmp 70)) (y := (.const (vi 0))) (k := .i64) (a := r47.2.2) (b := 0) rfl rfl) ?_
          refine V 72 4 (p1 69 (.tmp 71) (.const (.bool false)) (.bool (r47.2.2 == 0)) hb77) ?_
          refine V 73 4 (mv 72 (.bool (r47.2.2 == 0))) ?_
          refine RWP.split (r47.2.2 == 0) (fun hb79 => ?_) (fun hb79 => ?_)
          ·have h80 := cond_t h78 hb79
           refine Vg 74 3 35 true 73 hb79 (mv 10 (vi r47.1)) ?_
           refine Vg 75 4 35 true 73 hb79 (run_eql (t := 3) (t' := 3) (x := (.tmp 74)) (y := (.const (vi 1))) (k := .i64) (a := r47.1) (b := 1) rfl rfl) ?_
           refine V 76 4 (p1 73 (.tmp 75) (.const (.bool false)) (.bool (r47.1 == 1)) hb79) ?_
           refine V 77 4 (mv 76 (.bool (r47.1 == 1))) ?_
           refine RWP.split (r47.1 == 1) (fun hb81 => ?_) (fun hb81 => ?_)
           ·have h82 := cond_t h80 hb81
            refine Vg 78 3 39 true 77 hb81 (mv 11 (vi r47.2.1)) ?_
            refine Vg 79 4 39 true 77 hb81 (run_eql (t := 3) (t' := 3) (x := (.tmp 78)) (y := (.const (vi 750))) (k := .i64) (a := r47.2.1) (b := 750) rfl rfl) ?_
            refine V 80 4 (p1 77 (.tmp 79) (.const (.bool false)) (.bool (r47.2.1 == 750)) hb81) ?_
            refine V 81 4 (mv 80 (.bool (r47.2.1 == 750))) ?_
            refine RWP.split (r47.2.1 == 750) (fun hb83 => ?_) (fun hb83 => ?_)
            ·have h84 := cond_t h82 hb83
             obtain ⟨r85, hr86, h87⟩ := bind_some h84
             refine RWP.call (dst := (some 82)) (ty := 4) (g := (some (43, true))) (by kernel_rfl) (gd_y (d := 81) (by kernel_rfl) rfl hb83) (f0 := (.func 37)) (aos := #[(.const (.string ⟨([68, 76, 49, 65, 47, 87, 49, 65] : List UInt8).toArray⟩))]) (ats := #[9]) (fid := 37) (first := #[]) (cap := #[]) (args := [(.string ⟨(([68, 76, 49, 65, 47, 87, 49, 65] : List UInt8)).toArray⟩)]) rfl co_air_ValidCall (rfl) hs52 (c_air_ValidCall N w51 F6 hs52.pers (hG.mono (((((le7.trans le20).trans le28).trans le36).trans le44).trans le53)) (([68, 76, 49, 65, 47, 87, 49, 65] : List UInt8)) _ hr86) ?_
             intro v88 F8 w89 hs90 le91 hp92
             obtain rfl := hp92
             refine Vg 83 4 43 true 81 hb83 (run_not (t := 4) (x := (.tmp 82)) (a := r85) rfl) ?_
             refine V 84 4 (p1 81 (.tmp 83) (.const (.bool false)) (.bool (!r85)) hb83) ?_
             refine V 0 4 (ma 84 (.bool (!r85))) ?_
             obtain rfl := some_inj h87
             have hs93 : HS w0 F0 w89 F8 [] := hs90.drop 0
             exact RWP.nil ⟨rfl, F8, hs93, le91, rfl, rfl⟩
            ·have h94 := cond_f h82 hb83
             refine Sk [82, 83] 43 true 81 hb83 ?_
             refine V 84 4 (p0 81 (.tmp 83) (.const (.bool false)) (.bool false) hb83) ?_
             refine V 0 4 (ma 84 (.bool false)) ?_
             obtain rfl := some_inj h94
             have hs95 : HS w0 F0 w51 F6 [] := hs52.drop 0
             exact RWP.nil ⟨rfl, F6, hs95, (Mem.le.refl _), rfl, rfl⟩
           ·have h96 := cond_f h80 hb81
            refine Sk [78, 79] 39 true 77 hb81 ?_
            refine V 80 4 (p0 77 (.tmp 79) (.const (.bool false)) (.bool false) hb81) ?_
            refine V 81 4 (mv 80 (.bool false)) ?_
            refine Sk [82, 83] 43 true 81 rfl ?_
            refine V 84 4 (p0 81 (.tmp 83) (.const (.bool false)) (.bool false) rfl) ?_
            refine V 0 4 (ma 84 (.bool false)) ?_
            obtain rfl := some_inj h96
            have hs97 : HS w0 F0 w51 F6 [] := hs52.drop 0
            exact RWP.nil ⟨rfl, F6, hs97, (Mem.le.refl _), rfl, rfl⟩
          ·have h98 := cond_f h78 hb79
           refine Sk [74, 75] 35 true 73 hb79 ?_
           refine V 76 4 (p0 73 (.tmp 75) (.const (.bool false)) (.bool false) hb79) ?_
           refine V 77 4 (mv 76 (.bool false)) ?_
           refine Sk [78, 79] 39 true 77 rfl ?_
           refine V 80 4 (p0 77 (.tmp 79) (.const (.bool false)) (.bool false) rfl) ?_
           refine V 81 4 (mv 80 (.bool false)) ?_
           refine Sk [82, 83] 43 true 81 rfl ?_
           refine V 84 4 (p0 81 (.tmp 83) (.const (.bool false)) (.bool false) rfl) ?_
           refine V 0 4 (ma 84 (.bool false)) ?_
           obtain rfl := some_inj h98
           have hs99 : HS w0 F0 w51 F6 [] := hs52.drop 0
           exact RWP.nil ⟨rfl, F6, hs99, (Mem.le.refl _), rfl, rfl⟩
         ·have h100 := cond_f h76 hb77
          refine Sk [70, 71] 31 true 69 hb77 ?_
          refine V 72 4 (p0 69 (.tmp 71) (.const (.bool false)) (.bool false) hb77) ?_
          refine V 73 4 (mv 72 (.bool false)) ?_
          refine Sk [74, 75] 35 true 73 rfl ?_
          refine V 76 4 (p0 73 (.tmp 75) (.const (.bool false)) (.bool false) rfl) ?_
          refine V 77 4 (mv 76 (.bool false)) ?_
          refine Sk [78, 79] 39 true 77 rfl ?_
          refine V 80 4 (p0 77 (.tmp 79) (.const (.bool false)) (.bool false) rfl) ?_
          refine V 81 4 (mv 80 (.bool false)) ?_
          refine Sk [82, 83] 43 true 81 rfl ?_
          refine V 84 4 (p0 81 (.tmp 83) (.const (.bool false)) (.bool false) rfl) ?_
          refine V 0 4 (ma 84 (.bool false)) ?_
          obtain rfl := some_inj h100
          have hs101 : HS w0 F0 w51 F6 [] := hs52.drop 0
          exact RWP.nil ⟨rfl, F6, hs101, (Mem.le.refl _), rfl, rfl⟩
        ·have h102 := cond_f h74 hb75
         refine Sk [66, 67] 27 true 65 hb75 ?_
         refine V 68 4 (p0 65 (.tmp 67) (.const (.bool false)) (.bool false) hb75) ?_
         refine V 69 4 (mv 68 (.bool false)) ?_
         refine Sk [70, 71] 31 true 69 rfl ?_
         refine V 72 4 (p0 69 (.tmp 71) (.const (.bool false)) (.bool false) rfl) ?_
         refine V 73 4 (mv 72 (.bool false)) ?_
         refine Sk [74, 75] 35 true 73 rfl ?_
         refine V 76 4 (p0 73 (.tmp 75) (.const (.bool false)) (.bool false) rfl) ?_
         refine V 77 4 (mv 76 (.bool false)) ?_
         refine Sk [78, 79] 39 true 77 rfl ?_
         refine V 80 4 (p0 77 (.tmp 79) (.const (.bool false)) (.bool false) rfl) ?_
         refine V 81 4 (mv 80 (.bool false)) ?_
         refine Sk [82, 83] 43 true 81 rfl ?_
         refine V 84 4 (p0 81 (.tmp 83) (.const (.bool false)) (.bool false) rfl) ?_
         refine V 0 4 (ma 84 (.bool false)) ?_
         obtain rfl := some_inj h102
         have hs103 : HS w0 F0 w51 F6 [] := hs52.drop 0
         exact RWP.nil ⟨rfl, F6, hs103, (Mem.le.refl _), rfl, rfl⟩
       ·have h104 := cond_f h72 hb73
        refine Sk [62, 63] 23 true 61 hb73 ?_
        refine V 64 4 (p0 61 (.tmp 63) (.const (.bool false)) (.bool false) hb73) ?_
        refine V 65 4 (mv 64 (.bool false)) ?_
        refine Sk [66, 67] 27 true 65 rfl ?_
        refine V 68 4 (p0 65 (.tmp 67) (.const (.bool false)) (.bool false) rfl) ?_
        refine V 69 4 (mv 68 (.bool false)) ?_
        refine Sk [70, 71] 31 true 69 rfl ?_
        refine V 72 4 (p0 69 (.tmp 71) (.const (.bool false)) (.bool false) rfl) ?_
        refine V 73 4 (mv 72 (.bool false)) ?_
        refine Sk [74, 75] 35 true 73 rfl ?_
        refine V 76 4 (p0 73 (.tmp 75) (.const (.bool false)) (.bool false) rfl) ?_
        refine V 77 4 (mv 76 (.bool false)) ?_
        refine Sk [78, 79] 39 true 77 rfl ?_
        refine V 80 4 (p0 77 (.tmp 79) (.const (.bool false)) (.bool false) rfl) ?_
        refine V 81 4 (mv 80 (.bool false)) ?_
        refine Sk [82, 83] 43 true 81 rfl ?_
        refine V 84 4 (p0 81 (.tmp 83) (.const (.bool false)) (.bool false) rfl) ?_
        refine V 0 4 (ma 84 (.bool false)) ?_
        obtain rfl := some_inj h104
        have hs105 : HS w0 F0 w51 F6 [] := hs52.drop 0
        exact RWP.nil ⟨rfl, F6, hs105, (Mem.le.refl _), rfl, rfl⟩
      ·have h106 := cond_f h70 hb71
       refine Sk [58, 59] 19 true 57 hb71 ?_
       refine V 60 4 (p0 57 (.tmp 59) (.const (.bool false)) (.bool false) hb71) ?_
       refine V 61 4 (mv 60 (.bool false)) ?_
       refine Sk [62, 63] 23 true 61 rfl ?_
       refine V 64 4 (p0 61 (.tmp 63) (.const (.bool false)) (.bool false) rfl) ?_
       refine V 65 4 (mv 64 (.bool false)) ?_
       refine Sk [66, 67] 27 true 65 rfl ?_
       refine V 68 4 (p0 65 (.tmp 67) (.const (.bool false)) (.bool false) rfl) ?_
       refine V 69 4 (mv 68 (.bool false)) ?_
       refine Sk [70, 71] 31 true 69 rfl ?_
       refine V 72 4 (p0 69 (.tmp 71) (.const (.bool false)) (.bool false) rfl) ?_
       refine V 73 4 (mv 72 (.bool false)) ?_
       refine Sk [74, 75] 35 true 73 rfl ?_
       refine V 76 4 (p0 73 (.tmp 75) (.const (.bool false)) (.bool false) rfl) ?_
       refine V 77 4 (mv 76 (.bool false)) ?_
       refine Sk [78, 79] 39 true 77 rfl ?_
       refine V 80 4 (p0 77 (.tmp 79) (.const (.bool false)) (.bool false) rfl) ?_
       refine V 81 4 (mv 80 (.bool false)) ?_
       refine Sk [82, 83] 43 true 81 rfl ?_
       refine V 84 4 (p0 81 (.tmp 83) (.const (.bool false)) (.bool false) rfl) ?_
       refine V 0 4 (ma 84 (.bool false)) ?_
       obtain rfl := some_inj h106
       have hs107 : HS w0 F0 w51 F6 [] := hs52.drop 0
       exact RWP.nil ⟨rfl, F6, hs107, (Mem.le.refl _), rfl, rfl⟩
     ·have h108 := cond_f h68 hb69
      refine Sk [54, 55] 15 true 53 hb69 ?_
      refine V 56 4 (p0 53 (.tmp 55) (.const (.bool false)) (.bool false) hb69) ?_
      refine V 57 4 (mv 56 (.bool false)) ?_
      refine Sk [58, 59] 19 true 57 rfl ?_
      refine V 60 4 (p0 57 (.tmp 59) (.const (.bool false)) (.bool false) rfl) ?_
      refine V 61 4 (mv 60 (.bool false)) ?_
      refine Sk [62, 63] 23 true 61 rfl ?_
      refine V 64 4 (p0 61 (.tmp 63) (.const (.bool false)) (.bool false) rfl) ?_
      refine V 65 4 (mv 64 (.bool false)) ?_
      refine Sk [66, 67] 27 true 65 rfl ?_
      refine V 68 4 (p0 65 (.tmp 67) (.const (.bool false)) (.bool false) rfl) ?_
      refine V 69 4 (mv 68 (.bool false)) ?_
      refine Sk [70, 71] 31 true 69 rfl ?_
      refine V 72 4 (p0 69 (.tmp 71) (.const (.bool false)) (.bool false) rfl) ?_
      refine V 73 4 (mv 72 (.bool false)) ?_
      refine Sk [74, 75] 35 true 73 rfl ?_
      refine V 76 4 (p0 73 (.tmp 75) (.const (.bool false)) (.bool false) rfl) ?_
      refine V 77 4 (mv 76 (.bool false)) ?_
      refine Sk [78, 79] 39 true 77 rfl ?_
      refine V 80 4 (p0 77 (.tmp 79) (.const (.bool false)) (.bool false) rfl) ?_
      refine V 81 4 (mv 80 (.bool false)) ?_
      refine Sk [82, 83] 43 true 81 rfl ?_
      refine V 84 4 (p0 81 (.tmp 83) (.const (.bool false)) (.bool false) rfl) ?_
      refine V 0 4 (ma 84 (.bool false)) ?_
      obtain rfl := some_inj h108
      have hs109 : HS w0 F0 w51 F6 [] := hs52.drop 0
      exact RWP.nil ⟨rfl, F6, hs109, (Mem.le.refl _), rfl, rfl⟩
    ·have h110 := cond_f h66 hb67
     refine Sk [50, 51] 11 true 49 hb67 ?_
     refine V 52 4 (p0 49 (.tmp 51) (.const (.bool false)) (.bool false) hb67) ?_
     refine V 53 4 (mv 52 (.bool false)) ?_
     refine Sk [54, 55] 15 true 53 rfl ?_
     refine V 56 4 (p0 53 (.tmp 55) (.const (.bool false)) (.bool false) rfl) ?_
     refine V 57 4 (mv 56 (.bool false)) ?_
     refine Sk [58, 59] 19 true 57 rfl ?_
     refine V 60 4 (p0 57 (.tmp 59) (.const (.bool false)) (.bool false) rfl) ?_
     refine V 61 4 (mv 60 (.bool false)) ?_
     refine Sk [62, 63] 23 true 61 rfl ?_
     refine V 64 4 (p0 61 (.tmp 63) (.const (.bool false)) (.bool false) rfl) ?_
     refine V 65 4 (mv 64 (.bool false)) ?_
     refine Sk [66, 67] 27 true 65 rfl ?_
     refine V 68 4 (p0 65 (.tmp 67) (.const (.bool false)) (.bool false) rfl) ?_
     refine V 69 4 (mv 68 (.bool false)) ?_
     refine Sk [70, 71] 31 true 69 rfl ?_
     refine V 72 4 (p0 69 (.tmp 71) (.const (.bool false)) (.bool false) rfl) ?_
     refine V 73 4 (mv 72 (.bool false)) ?_
     refine Sk [74, 75] 35 true 73 rfl ?_
     refine V 76 4 (p0 73 (.tmp 75) (.const (.bool false)) (.bool false) rfl) ?_
     refine V 77 4 (mv 76 (.bool false)) ?_
     refine Sk [78, 79] 39 true 77 rfl ?_
     refine V 80 4 (p0 77 (.tmp 79) (.const (.bool false)) (.bool false) rfl) ?_
     refine V 81 4 (mv 80 (.bool false)) ?_
     refine Sk [82, 83] 43 true 81 rfl ?_
     refine V 84 4 (p0 81 (.tmp 83) (.const (.bool false)) (.bool false) rfl) ?_
     refine V 0 4 (ma 84 (.bool false)) ?_
     obtain rfl := some_inj h110
     have hs111 : HS w0 F0 w51 F6 [] := hs52.drop 0
     exact RWP.nil ⟨rfl, F6, hs111, (Mem.le.refl _), rfl, rfl⟩
   ·have h112 := cond_f h64 hb65
    refine Sk [46, 47] 7 true 45 hb65 ?_
    refine V 48 4 (p0 45 (.tmp 47) (.const (.bool false)) (.bool false) hb65) ?_
    refine V 49 4 (mv 48 (.bool false)) ?_
    refine Sk [50, 51] 11 true 49 rfl ?_
    refine V 52 4 (p0 49 (.tmp 51) (.const (.bool false)) (.bool false) rfl) ?_
    refine V 53 4 (mv 52 (.bool false)) ?_
    refine Sk [54, 55] 15 true 53 rfl ?_
    refine V 56 4 (p0 53 (.tmp 55) (.const (.bool false)) (.bool false) rfl) ?_
    refine V 57 4 (mv 56 (.bool false)) ?_
    refine Sk [58, 59] 19 true 57 rfl ?_
    refine V 60 4 (p0 57 (.tmp 59) (.const (.bool false)) (.bool false) rfl) ?_
    refine V 61 4 (mv 60 (.bool false)) ?_
    refine Sk [62, 63] 23 true 61 rfl ?_
    refine V 64 4 (p0 61 (.tmp 63) (.const (.bool false)) (.bool false) rfl) ?_
    refine V 65 4 (mv 64 (.bool false)) ?_
    refine Sk [66, 67] 27 true 65 rfl ?_
    refine V 68 4 (p0 65 (.tmp 67) (.const (.bool false)) (.bool false) rfl) ?_
    refine V 69 4 (mv 68 (.bool false)) ?_
    refine Sk [70, 71] 31 true 69 rfl ?_
    refine V 72 4 (p0 69 (.tmp 71) (.const (.bool false)) (.bool false) rfl) ?_
    refine V 73 4 (mv 72 (.bool false)) ?_
    refine Sk [74, 75] 35 true 73 rfl ?_
    refine V 76 4 (p0 73 (.tmp 75) (.const (.bool false)) (.bool false) rfl) ?_
    refine V 77 4 (mv 76 (.bool false)) ?_
    refine Sk [78, 79] 39 true 77 rfl ?_
    refine V 80 4 (p0 77 (.tmp 79) (.const (.bool false)) (.bool false) rfl) ?_
    refine V 81 4 (mv 80 (.bool false)) ?_
    refine Sk [82, 83] 43 true 81 rfl ?_
    refine V 84 4 (p0 81 (.tmp 83) (.const (.bool false)) (.bool false) rfl) ?_
    refine V 0 4 (ma 84 (.bool false)) ?_
    obtain rfl := some_inj h112
    have hs113 : HS w0 F0 w51 F6 [] := hs52.drop 0
    exact RWP.nil ⟨rfl, F6, hs113, (Mem.le.refl _), rfl, rfl⟩
  ·have h114 := cond_f hj61 hb63
   refine Sk [41, 42, 43] 2 true 40 hb63 ?_
   refine V 44 4 (p0 40 (.tmp 43) (.const (.bool false)) (.bool false) hb63) ?_
   refine V 45 4 (mv 44 (.bool false)) ?_
   refine Sk [46, 47] 7 true 45 rfl ?_
   refine V 48 4 (p0 45 (.tmp 47) (.const (.bool false)) (.bool false) rfl) ?_
   refine V 49 4 (mv 48 (.bool false)) ?_
   refine Sk [50, 51] 11 true 49 rfl ?_
   refine V 52 4 (p0 49 (.tmp 51) (.const (.bool false)) (.bool false) rfl) ?_
   refine V 53 4 (mv 52 (.bool false)) ?_
   refine Sk [54, 55] 15 true 53 rfl ?_
   refine V 56 4 (p0 53 (.tmp 55) (.const (.bool false)) (.bool false) rfl) ?_
   refine V 57 4 (mv 56 (.bool false)) ?_
   refine Sk [58, 59] 19 true 57 rfl ?_
   refine V 60 4 (p0 57 (.tmp 59) (.const (.bool false)) (.bool false) rfl) ?_
   refine V 61 4 (mv 60 (.bool false)) ?_
   refine Sk [62, 63] 23 true 61 rfl ?_
   refine V 64 4 (p0 61 (.tmp 63) (.const (.bool false)) (.bool false) rfl) ?_
   refine V 65 4 (mv 64 (.bool false)) ?_
   refine Sk [66, 67] 27 true 65 rfl ?_
   refine V 68 4 (p0 65 (.tmp 67) (.const (.bool false)) (.bool false) rfl) ?_
   refine V 69 4 (mv 68 (.bool false)) ?_
   refine Sk [70, 71] 31 true 69 rfl ?_
   refine V 72 4 (p0 69 (.tmp 71) (.const (.bool false)) (.bool false) rfl) ?_
   refine V 73 4 (mv 72 (.bool false)) ?_
   refine Sk [74, 75] 35 true 73 rfl ?_
   refine V 76 4 (p0 73 (.tmp 75) (.const (.bool false)) (.bool false) rfl) ?_
   refine V 77 4 (mv 76 (.bool false)) ?_
   refine Sk [78, 79] 39 true 77 rfl ?_
   refine V 80 4 (p0 77 (.tmp 79) (.const (.bool false)) (.bool false) rfl) ?_
   refine V 81 4 (mv 80 (.bool false)) ?_
   refine Sk [82, 83] 43 true 81 rfl ?_
   refine V 84 4 (p0 81 (.tmp 83) (.const (.bool false)) (.bool false) rfl) ?_
   refine V 0 4 (ma 84 (.bool false)) ?_
   obtain rfl := some_inj h114
   have hs115 : HS w0 F0 w51 F6 [] := hs52.drop 0
   exact RWP.nil ⟨rfl, F6, hs115, (Mem.le.refl _), rfl, rfl⟩
 ·rintro f w55 ⟨F7, hs56, le57, e59, e60⟩
  refine thenQ_nrm ?_
  refine CWP.ret (by kernel_rfl) ?_
  have hfin := some_inj h62
  subst hfin
  exact ⟨e59, (.bool j58), res_of (l := [.tmp 0]) (by kernel_rfl) (vs := [(.bool j58)]) ⟨e60, trivial⟩, (.bool j58), F7, rfl, hs56.clear, rfl⟩
end Go.Proofs.YtlddakefmfcblaaGreatDoor
namespace Go.Proofs.YtlddakefmfcblaaGreatDoor
open Go.Lib (decDigits)
theorem aw1 : splitS [71, 51, 47, 77, 48, 65, 66, 47, 80] = ({ Area := [71, 51], Prefix := [77, 48], Suffix := [65, 66], Stroke := [80] }, 0) := by rfl
theorem aw2 : prefixS [87, 49, 65, 87, 47, 52] = ([87, 52], 0) := by rfl
theorem aw3 : tText 1505 = [50, 32, 48, 49, 48, 53] := by
 unfold tText dP
 rw [show 1505 / 1440 + 1 = 2 from rfl, show 1505 / 60 % 24 = 1 from rfl, show 1505 % 60 = 5 from rfl, dd_small (by decide), dd_small (by decide), dd_small (by decide)]
 rfl
theorem aw4 : printT 1505 = ([50, 32, 48, 49, 48, 53], 0) := by
 unfold printT
 rw [if_pos (by decide)]
 show (tText 1505, (0 : Int)) = _
 rw [aw3]
theorem aw5 : parseT [50, 32, 48, 49, 48, 53] = (1505, 0) := by
 rw [← aw3, parse_text (by decide)]; rfl
theorem aw6 : validS [68, 76, 49, 65, 47, 87, 49, 65] = false := by rfl
theorem aw7 : nearestS [{ ID := 1, Lo := 1800, Hi := 2000 }, { ID := 2, Lo := 3500, Hi := 3800 }] 2750 = (1, 750, 0) := by decide
theorem awake_true {N : Nat} (hN : 4294967300 < N) : law01_awake N = some true := by
 unfold law01_awake
 rw [s_Split _ hN, aw1, Option.bind_some, s_PrefixOf _ hN, aw2, Option.bind_some, s_PrintTime, aw4, Option.bind_some, s_ParseTime _ (by simp) hN, aw5, Option.bind_some, s_Nearest (by simp) hN, aw7, Option.bind_some]
 simp only [s_Valid _ hN, aw6]
 rfl
end Go.Proofs.YtlddakefmfcblaaGreatDoor
namespace Go.Proofs.YtlddakefmfcblaaGreatDoor
open Go.Proofs
end Go.Proofs.YtlddakefmfcblaaGreatDoor
namespace Go.Proofs.YtlddakefmfcblaaGreatDoor
def beginsB (b t : List UInt8) : Bool := decide (t.length ≤ b.length) && (b.take t.length == t)
def whB (T : List Prefix) (c : List UInt8) (d : Int) (i : Nat) : Bool := dayIn (pAt T i) d && ((pAt T i).Whole && ((pAt T i).Text == c))
def phB (T : List Prefix) (b : List UInt8) (d : Int) (i : Nat) : Bool := dayIn (pAt T i) d && (!(pAt T i).Whole && beginsB b (pAt T i).Text)
def bestU (T : List Prefix) (b : List UInt8) (d : Int) : Nat → Option Nat
 | 0 => none
 | i + 1 => if (phB T b d i && ((bestU T b d i).elim true fun m => decide ((pAt T m).Text.length < (pAt T i).Text.length))) = true then some i else bestU T b d i
theorem begins_iff {b t : List UInt8} : beginsB b t = true ↔ t.length ≤ b.length ∧ b.take t.length = t := by
 unfold beginsB
 rw [Bool.and_eq_true, decide_eq_true_eq, beq_iff_eq]
section
variable {N : Nat} {T : List Prefix}
theorem bestU_spec (b : List UInt8) (d : Int) : ∀ i, (bestU T b d i = none → ∀ j, j < i → phB T b d j = false) ∧ ∀ m, bestU T b d i = some m → m < i ∧ phB T b d m = true ∧ ∀ j, j < i → phB T b d j = true → (pAt T j).Text.length ≤ (pAt T m).Text.length ∧ (j < m → (pAt T j).Text.length < (pAt T m).Text.length) := by
 intro i
 induction i with
 | zero => exact ⟨fun _ j hj => by omega, fun m h => by cases h⟩
 | succ i ih =>
  unfold bestU
  cases hp : phB T b d i with
  | false =>
   simp only [Bool.false_and, Bool.false_eq_true, if_false]
   refine ⟨fun h j hj => ?_, fun m h => ?_⟩
   ·by_cases hji : j = i
    ·subst hji; exact hp
    ·exact ih.1 h j (by omega)
   ·obtain ⟨h1, h2, h3⟩ := ih.2 m h
    refine ⟨by omega, h2, fun j hj hpj => ?_⟩
    by_cases hji : j = i
    ·subst hji; rw [hp] at hpj; cases hpj
    ·exact h3 j (by omega) hpj
  | true =>
   rw [Bool.true_and]
   cases hb : bestU T b d i with
   | none =>
    simp only [Option.elim_none, if_true]
    refine ⟨fun h => (by cases h), fun m h => ?_⟩
    injection h with h
    subst h
    refine ⟨by omega, hp, fun j hj hpj => ?_⟩
    by_cases hji : j = i
    ·subst hji; exact ⟨Nat.le_refl _, fun h => by omega⟩
    ·have := ih.1 hb j (by omega)
     rw [this] at hpj; cases hpj
   | some m' =>
    obtain ⟨h1, h2, h3⟩ := ih.2 m' hb
    simp only [Option.elim_some, decide_eq_true_eq]
    by_cases hlt : (pAt T m').Text.length < (pAt T i).Text.length
    ·rw [if_pos hlt]
     refine ⟨fun h => (by cases h), fun m h => ?_⟩
     injection h with h
     subst h
     refine ⟨by omega, hp, fun j hj hpj => ?_⟩
     by_cases hji : j = i
     ·subst hji; exact ⟨Nat.le_refl _, fun h => by omega⟩
     ·have := (h3 j (by omega) hpj).1
      exact ⟨by omega, fun _ => by omega⟩
    ·rw [if_neg hlt]
     refine ⟨fun h => (by cases h), fun m h => ?_⟩
     injection h with h
     subst h
     refine ⟨by omega, h2, fun j hj hpj => ?_⟩
     by_cases hji : j = i
     ·subst hji; exact ⟨by omega, fun h => by omega⟩
     ·exact h3 j (by omega) hpj
theorem atK_some {k : air_key} {d : Int} {i : Nat} : atK T k d = some i ↔ i < T.length ∧ keyP (pAt T i) = k ∧ dayIn (pAt T i) d = true ∧ ∀ j, j < i → ¬ (keyP (pAt T j) = k ∧ dayIn (pAt T j) d = true) := by
 unfold atK
 rw [firstN_some (m := T.length) (by omega)]
 constructor
 ·rintro ⟨j, _, h2, h3, h4⟩
  split at h3
  ·rename_i hc
   injection h3 with h3
   subst h3
   simp only [Bool.and_eq_true, decide_eq_true_eq] at hc
   refine ⟨h2, hc.1, hc.2, fun q hq hh => ?_⟩
   have := h4 q (by omega) hq
   rw [if_pos (by simp only [Bool.and_eq_true, decide_eq_true_eq]; exact hh)] at this
   cases this
  ·cases h3
 ·rintro ⟨h1, h2, h3, h4⟩
  refine ⟨i, by omega, h1, if_pos (by simp only [Bool.and_eq_true, decide_eq_true_eq]; exact ⟨h2, h3⟩), fun j _ hj => ?_⟩
  rw [if_neg (by simp only [Bool.and_eq_true, decide_eq_true_eq]; exact h4 j hj)]
theorem atK_none {k : air_key} {d : Int} : atK T k d = none ↔ ∀ i, i < T.length → ¬ (keyP (pAt T i) = k ∧ dayIn (pAt T i) d = true) := by
 unfold atK
 rw [firstN_none (by omega)]
 constructor
 ·intro h i hi hh
  have := h i (by omega) hi
  rw [if_pos (by simp only [Bool.and_eq_true, decide_eq_true_eq]; exact hh)] at this
  cases this
 ·intro h i _ hi
  rw [if_neg (by simp only [Bool.and_eq_true, decide_eq_true_eq]; exact h i hi)]
theorem ph_iff {b : List UInt8} {d : Int} {i : Nat} : phB T b d i = true ↔ dayIn (pAt T i) d = true ∧ (pAt T i).Text.length ≤ b.length ∧ keyP (pAt T i) = { text_ := b.take (pAt T i).Text.length, whole_ := false } := by
 unfold phB keyP
 rw [Bool.and_eq_true, Bool.and_eq_true, begins_iff]
 constructor
 ·rintro ⟨h1, h2, h3, h4⟩
  refine ⟨h1, h3, ?_⟩
  rw [h4]
  simp at h2
  rw [h2]
 ·rintro ⟨h1, h2, h3⟩
  injection h3 with h3 h4
  exact ⟨h1, by rw [h4]; rfl, h2, h3.symm⟩
theorem wh_iff {c : List UInt8} {d : Int} {i : Nat} : whB T c d i = true ↔ dayIn (pAt T i) d = true ∧ keyP (pAt T i) = { text_ := c, whole_ := true } := by
 unfold whB keyP
 rw [Bool.and_eq_true, Bool.and_eq_true, beq_iff_eq]
 constructor
 ·rintro ⟨h1, h2, h3⟩
  exact ⟨h1, by rw [h2, h3]⟩
 ·rintro ⟨h1, h2⟩
  injection h2 with h2 h3
  exact ⟨h1, h3, h2⟩
theorem downF_spec (b : List UInt8) (d : Int) : ∀ k, (downF T b d k = none → ∀ l, 1 ≤ l → l ≤ k → atK T { text_ := b.take l, whole_ := false } d = none) ∧ ∀ m, downF T b d k = some m → ∃ l, 1 ≤ l ∧ l ≤ k ∧ atK T { text_ := b.take l, whole_ := false } d = some m ∧ ∀ q, l < q → q ≤ k → atK T { text_ := b.take q, whole_ := false } d = none := by
 intro k
 induction k with
 | zero => exact ⟨fun _ l h1 h2 => by omega, fun m h => by cases h⟩
 | succ k ih =>
  unfold downF
  cases ha : atK T { text_ := b.take (k + 1), whole_ := false } d with
  | some i =>
   refine ⟨fun h => (by cases h), fun m h => ?_⟩
   injection h with h
   subst h
   exact ⟨k + 1, by omega, Nat.le_refl _, ha, fun q h1 h2 => by omega⟩
  | none =>
   refine ⟨fun h l h1 h2 => ?_, fun m h => ?_⟩
   ·by_cases hl : l = k + 1
    ·subst hl; exact ha
    ·exact ih.1 h l h1 (by omega)
   ·obtain ⟨l, h1, h2, h3, h4⟩ := ih.2 m h
    refine ⟨l, h1, by omega, h3, fun q h5 h6 => ?_⟩
    by_cases hq : q = k + 1
    ·subst hq; exact ha
    ·exact h4 q h5 (by omega)
theorem best_down (hR : ∀ p, p ∈ T → PreR p) (b : List UInt8) (d : Int) : bestU T b d T.length = downF T b d b.length := by
 obtain ⟨u1, u2⟩ := bestU_spec (T := T) b d T.length
 obtain ⟨v1, v2⟩ := downF_spec (T := T) b d b.length
 cases hu : bestU T b d T.length with
 | none =>
  cases hv : downF T b d b.length with
  | none => rfl
  | some m =>
   exfalso
   obtain ⟨l, h1, h2, h3, _⟩ := v2 m hv
   obtain ⟨g1, g2, g3, _⟩ := atK_some.1 h3
   have hl : (pAt T m).Text.length = l := by
    have := congrArg air_key.text_ g2
    unfold keyP at this
    simp only at this
    rw [this, List.length_take]; omega
   have := u1 hu m g1
   rw [ph_iff.2 ⟨g3, by omega, by rw [hl]; exact g2⟩] at this
   cases this
 | some m' =>
  obtain ⟨p1, p2, p3⟩ := u2 m' hu
  obtain ⟨q1, q2, q3⟩ := ph_iff.1 p2
  have h1' := (hR _ (pAt_mem p1)).l1
  cases hv : downF T b d b.length with
  | none =>
   exfalso
   have := v1 hv _ h1' q2
   exact atK_none.1 this m' p1 ⟨q3, q1⟩
  | some m =>
   obtain ⟨l, h1, h2, h3, h4⟩ := v2 m hv
   obtain ⟨g1, g2, g3, g4⟩ := atK_some.1 h3
   have hl : (pAt T m).Text.length = l := by
    have := congrArg air_key.text_ g2
    unfold keyP at this
    simp only at this
    rw [this, List.length_take]; omega
   have hpm : phB T b d m = true := ph_iff.2 ⟨g3, by omega, by rw [hl]; exact g2⟩
   obtain ⟨r1, r2⟩ := p3 m g1 hpm
   have hle : (pAt T m').Text.length ≤ l := by
    rcases Nat.lt_or_ge l (pAt T m').Text.length with h | h
    ·exact absurd ⟨q3, q1⟩ (atK_none.1 (h4 _ h q2) m' p1)
    ·exact h
   have heq : (pAt T m').Text.length = l := by omega
   have hmm : ¬ m' < m := fun hlt => g4 m' hlt ⟨by rw [← heq]; exact q3, q1⟩
   have hmm2 : ¬ m < m' := fun hlt => by have := r2 hlt; omega
   have : m = m' := by omega
   rw [this]
theorem s_find (hR : ∀ p, p ∈ T → PreR p) (h400 : T.length ≤ 400) (hN : 4294967300 < N) (c : List UInt8) (d : Int) : ref01_find N T c d = some (toI (findS T c d)) := by
 unfold ref01_find
 rw [m_rparts c hN, Option.bind_some]
 have e1 : (bif ((triR c).1 == ([] : List UInt8)) then some (triR c).2.1 else some (triR c).1) = some (bC c) := by
  unfold triR bC
  cases callB c with
  | none => rfl
  | some t =>
   simp only
   rw [eq_dec]
   by_cases ht : t.1 = []
   ·rw [decide_eq_true ht, if_pos ht]; rfl
   ·rw [decide_eq_false ht, if_neg ht]; rfl
 rw [e1, Option.bind_some]
 obtain ⟨o, ho, hO⟩ := iter_ex (body := ref01_find_L0 N T c d (triR c) (bC c)) T.length (fun i s => s = (toI (bestU T (bC c) d i), (i : Int)) ∧ ∀ j, j < i → whB T c d j = false)
  (fun o => ((∀ j, j < T.length → whB T c d j = false) ∧ ∃ j, o = .done (toI (bestU T (bC c) d T.length), j)) ∨ ∃ i, i < T.length ∧ whB T c d i = true ∧ (∀ j, j < i → whB T c d j = false) ∧ o = .ret (i : Int)) (by
  rintro i s hi ⟨rfl, hk⟩
  by_cases h : i < T.length
  ·have hb : ref01_find_L0 N T c d (triR c) (bC c) (toI (bestU T (bC c) d i), (i : Int)) = some (bif whB T c d i then .ret (i : Int) else .next (toI (bestU T (bC c) d (i + 1)), ((i + 1 : Nat) : Int))) := by
    unfold ref01_find_L0
    simp only
    rw [lt_dec h, cond_true, idx_p h, w64s i (by omega)]
    simp only [Option.bind_some, m_rwithin]
    have ed : (decide ((pAt T i).From ≤ d) && decide (d ≤ (pAt T i).To)) = dayIn (pAt T i) d := rfl
    rw [ed]
    have eb : ref01_begins N (bC c) (pAt T i).Text = some (beginsB (bC c) (pAt T i).Text) := by
     unfold ref01_begins beginsB
     have : decide (((pAt T i).Text.length : Int) ≤ ((bC c).length : Int)) = decide ((pAt T i).Text.length ≤ (bC c).length) := by rw [decide_eq_decide]; omega
     rw [this]
     by_cases hl : (pAt T i).Text.length ≤ (bC c).length
     ·rw [decide_eq_true hl, cond_true, ssub0 hl]; rfl
     ·rw [decide_eq_false hl]; rfl
    rw [eb]
    have ex : (bif (decide (toI (bestU T (bC c) d i) < 0)) then some true else ((idx T (toI (bestU T (bC c) d i))).bind fun x196 => some (decide (((pAt T i).Text.length : Int) > (x196.Text.length : Int))))) = some ((bestU T (bC c) d i).elim true fun m => decide ((pAt T m).Text.length < (pAt T i).Text.length)) := by
     cases hu : bestU T (bC c) d i with
     | none => rfl
     | some m =>
      have hm := ((bestU_spec (T := T) (bC c) d i).2 m hu).1
      rw [toI_neg]
      show (idx T (m : Int)).bind _ = _
      rw [idx_p (by omega), Option.bind_some]
      simp only [Option.elim_some]
      congr 1
      rw [decide_eq_decide]; omega
    simp only [Option.bind_some]
    rw [ex]
    have eu : bestU T (bC c) d (i + 1) = if (phB T (bC c) d i && ((bestU T (bC c) d i).elim true fun m => decide ((pAt T m).Text.length < (pAt T i).Text.length))) = true then some i else bestU T (bC c) d i := rfl
    rw [eu]
    unfold whB phB
    generalize (bestU T (bC c) d i).elim true (fun m => decide ((pAt T m).Text.length < (pAt T i).Text.length)) = E
    generalize bestU T (bC c) d i = U
    cases dayIn (pAt T i) d <;> cases (pAt T i).Whole <;> cases ((pAt T i).Text == c) <;> cases beginsB (bC c) (pAt T i).Text <;> cases E <;> rfl
   rw [hb]
   cases hw : whB T c d i with
   | true => exact .inr ⟨_, rfl, (fun _ h => by cases h), .inr ⟨i, h, hw, hk, rfl⟩⟩
   | false =>
    refine .inl ⟨_, rfl, ⟨rfl, fun j hj => ?_⟩, h⟩
    by_cases hji : j = i
    ·subst hji; exact hw
    ·exact hk j (by omega)
  ·have : i = T.length := by omega
   subst this
   refine .inr ⟨_, ?_, (fun _ h => by cases h), .inl ⟨hk, (T.length : Int), rfl⟩⟩
   unfold ref01_find_L0
   simp only [lt_dec', cond_false]) T.length N 0 (-1, 0) (by omega) ⟨rfl, fun j hj => by omega⟩ (by omega)
 rw [ho]
 unfold findS
 rcases hO with ⟨h1, j, rfl⟩ | ⟨i, h1, h2, h3, rfl⟩
 ·have : atK T { text_ := c, whole_ := true } d = none := atK_none.2 fun i hi hh => by
   have := h1 i hi
   rw [wh_iff.2 ⟨hh.2, hh.1⟩] at this; cases this
  rw [this]
  simp only [Option.bind_some, Flow.k]
  rw [best_down hR]
 ·have : atK T { text_ := c, whole_ := true } d = some i := atK_some.2 ⟨h1, (wh_iff.1 h2).2, (wh_iff.1 h2).1, fun j hj hh => by
   have := h3 j hj
   rw [wh_iff.2 ⟨hh.2, hh.1⟩] at this; cases this⟩
  rw [this]; rfl
theorem downF_lt {b : List UInt8} {d : Int} {k i : Nat} (h : downF T b d k = some i) : i < T.length ∧ dayIn (pAt T i) d = true := by
 obtain ⟨l, _, _, h3, _⟩ := (downF_spec (T := T) b d k).2 i h
 exact ⟨(atK_some.1 h3).1, (atK_some.1 h3).2.2.1⟩
theorem findS_lt {c : List UInt8} {d : Int} {i : Nat} (h : findS T c d = some i) : i < T.length ∧ dayIn (pAt T i) d = true := by
 unfold findS at h
 cases ha : atK T { text_ := c, whole_ := true } d with
 | some j =>
  rw [ha] at h
  injection h with h
  subst h
  exact ⟨(atK_some.1 ha).1, (atK_some.1 ha).2.2.1⟩
 | none =>
  rw [ha] at h
  exact downF_lt h
def plOf (p : Prefix) : Place := { Country := p.Country, Zone := p.Zone, Continent := p.Continent }
def zPl : Place := { Country := 0, Zone := 0, Continent := 0 }
def placeS (T : List Prefix) (c : List UInt8) (d : Int) : Place × Int := if wrongT T c d = 0 then (match findS T c d with | some i => (plOf (pAt T i), 0) | none => (zPl, 3)) else (zPl, wrongT T c d)
def refPl (T : List Prefix) (c : List UInt8) (d : Int) : Place := match findS T c d with | some i => plOf (pAt T i) | none => zPl
theorem s_rplace (hR : ∀ p, p ∈ T → PreR p) (h400 : T.length ≤ 400) (hN : 4294967300 < N) (c : List UInt8) (d : Int) : ref01_place N T c d = some (refPl T c d) := by
 unfold ref01_place refPl
 rw [s_find hR h400 hN, Option.bind_some, toI_neg]
 cases hf : findS T c d with
 | none => rfl
 | some i =>
  simp only [Option.isNone_some, cond_false]
  rw [show toI (some i) = (i : Int) from rfl, idx_p (findS_lt hf).1]
  rfl
theorem plOf_ne {p : Prefix} (h : PreR p) : ((plOf p).Country == 0) = false := by
 rw [beq_eq_false_iff_ne]
 have := h.c1
 unfold plOf
 simp only
 omega
theorem s_rPlaceOf (hT : fitT N T) (hN : 4294967300 < N) (c : List UInt8) (d : Int) : ref01_PlaceOf N T c d = some (placeS T c d) := by
 unfold ref01_PlaceOf placeS
 rw [s_asked hT hN, Option.bind_some]
 by_cases hw : wrongT T c d = 0
 ·rw [if_pos hw, hw, show ((0 : Int) != 0) = false from rfl, cond_false]
  have hr := (validT_iff.1 (wrongT_ok hw).1).1
  obtain ⟨h400, hR⟩ := rowsB_ok hr
  rw [s_rplace hR h400 hN, Option.bind_some]
  unfold refPl
  cases hf : findS T c d with
  | none => rfl
  | some i =>
   simp only
   rw [plOf_ne (hR _ (pAt_mem (findS_lt hf).1))]
   rfl
 ·rw [if_neg hw, show (wrongT T c d != 0) = true by simpa using hw, cond_true]
  rfl
end
theorem fitT_q {T : List Prefix} (q : T.length < 9223372036854775808 ∧ ∀ x, x ∈ T → qPrefix x) (h : T.length < 4000000000) : fitT 9223372036854775808 T := ⟨h, fun p hp => by
 have := (q.2 p hp).1
 unfold rS at this
 omega⟩
end Go.Proofs.YtlddakefmfcblaaGreatDoor
namespace Go.Proofs.YtlddakefmfcblaaGreatDoor
open Go.Proofs
end Go.Proofs.YtlddakefmfcblaaGreatDoor
namespace Go.Proofs.YtlddakefmfcblaaGreatDoor
open Go.Proofs
end Go.Proofs.YtlddakefmfcblaaGreatDoor
namespace Go.Proofs.YtlddakefmfcblaaGreatDoor
def fitB (c b : List UInt8) (d : Int) (p : Prefix) : Bool := dayIn p d && (bif p.Whole then (p.Text == c) else beginsB b p.Text)
def Fit (c : List UInt8) (d : Int) (p : Prefix) : Prop := fitB c (bC c) d p = true
structure IsAns (T : List Prefix) (c : List UInt8) (d : Int) (r : Prefix) : Prop where
 mem : r ∈ T
 fit : Fit c d r
 best : r.Whole = true ∨ ∀ q, q ∈ T → Fit c d q → q.Whole = false ∧ q.Text.length ≤ r.Text.length
theorem dayIn_iff {p : Prefix} {d : Int} : dayIn p d = true ↔ p.From ≤ d ∧ d ≤ p.To := by
 unfold dayIn; rw [Bool.and_eq_true, decide_eq_true_eq, decide_eq_true_eq]
section
variable {T : List Prefix} {c : List UInt8} {d : Int}
theorem valid_R (hv : validT T = true) : T.length ≤ 400 ∧ (∀ p, p ∈ T → PreR p) ∧ Apart T := by
 have h := validT_iff.1 hv
 exact ⟨(rowsB_ok h.1).1, (rowsB_ok h.1).2, h.2⟩
structure Seen (c : List UInt8) (d : Int) (L : List Prefix) (s : List Prefix × Int × Bool) : Prop where
 fits : s.1 = L.filter (fitB c (bC c) d)
 le : ∀ q, q ∈ L → Fit c d q → q.Whole = false → (q.Text.length : Int) ≤ s.2.1
 at' : s.2.1 = -1 ∨ ∃ q, q ∈ L ∧ Fit c d q ∧ q.Whole = false ∧ (q.Text.length : Int) = s.2.1
 any : s.2.2 = true ↔ ∃ q, q ∈ L ∧ Fit c d q ∧ q.Whole = true
variable {N : Nat}
end
end Go.Proofs.YtlddakefmfcblaaGreatDoor
namespace Go.Proofs.YtlddakefmfcblaaGreatDoor
open Go.Proofs
def air_Since_1 (N : Nat) (x0 : Int) (z0 : (List (air_key × (List Int)))) (z1 : (List Prefix)) (z2 : (List UInt8)) (z3 : Int) : Option Bool :=
 ((air_table_row N z0 z1 z2 x0).bind fun r1 => ((bif (decide (r1 ≥ 0)) then ((idx z1 r1).bind fun x21 => ((idx z1 z3).bind fun x35 => ((air_placeOf N x21).bind fun r41 => ((air_placeOf N x35).bind fun r49 => some ((r41.Country == r49.Country) && ((r41.Zone == r49.Zone) && ((r41.Continent == r49.Continent) && true))))))) else some false).bind fun j14 => some j14))
theorem co_air_Since_1 : CallOk Tryz.prog 102 := fun _ _ => by kernel_rfl
set_option maxHeartbeats 4000000 in
set_option maxRecDepth 100000 in
theorem c_air_Since_1 (N : Nat) (w0 : World) (F0 : Mem) (hF : ∀ b o, F0 b = some o → w0.heap[b]? = some o) (hG : Glob F0) (x0 : Int) (bz0 : Nat) (z0 : (List (air_key × (List Int)))) (oz0_0 : Option Nat) (hmz0_0 : MpA tair_key (tSl tInt) F0 oz0_0 z0) (hz0 : F0 bz0 = some (oc #[(.map oz0_0)] 116)) (bz1 : Nat) (z1 : (List Prefix)) (az1_0 : Option Addr) (nz1_0 : Nat) (hbz1_0 : LC z1.length nz1_0) (hsz1_0 : SlA tPrefix F0 az1_0 z1) (hz1 : F0 bz1 = some (oc #[(.slice az1_0 z1.length nz1_0)] 61)) (bz2 : Nat) (z2 : (List UInt8)) (hz2 : F0 bz2 = some (oc #[(.string ⟨(z2).toArray⟩)] 9)) (bz3 : Nat) (z3 : Int) (hz3 : F0 bz3 = some (oc #[(vi z3)] 3)) (r : Bool) (h : air_Since_1 N x0 z0 z1 z2 z3 = some r) :
  Calls Tryz.prog 102 ([(vi x0), (.pointer (some ⟨bz0, 0, none⟩)), (.pointer (some ⟨bz1, 0, none⟩)), (.pointer (some ⟨bz2, 0, none⟩)), (.pointer (some ⟨bz3, 0, none⟩))] : List Value).toArray w0 (FRet w0 F0 fun F' v => v = (.bool r)) := by
 have hs0 := HS.start hF
 refine calls_of (n := 28) (c := bodyOf Tryz.f102) Tryz.func102 (by kernel_rfl) (by kernel_rfl) (by kernel_rfl) ?_
 refine Sq (Rg [0] ?_)
 refine V 6 4 (mc (.bool false) (.bool false)) ?_
 refine Nss (Rg [0, 1, 2, 3, 4, 5] ?_)
 refine V 8 116 (ld 116 1 bz0 0 false 1 (.map oz0_0) (hs0.pers _ _ hz0)) ?_
 refine V 9 61 (ld 61 2 bz1 0 false 1 (.slice az1_0 z1.length nz1_0) (hs0.pers _ _ hz1)) ?_
 refine V 10 9 (ld 9 3 bz2 0 false 1 (.string ⟨(z2).toArray⟩) (hs0.pers _ _ hz2)) ?_
 refine V 11 3 (mv 0 (vi x0)) ?_
 obtain ⟨r1, hr2, h3⟩ := bind_some h
 refine Cl 12 3 97 #[(.tmp 8), (.tmp 9), (.tmp 10), (.tmp 11)] #[116, 61, 9, 3] co_air_table_row hs0 (c_air_table_row N w0 F0 hs0.pers hG (z0) oz0_0 hmz0_0 (z1) az1_0 nz1_0 hbz1_0 hsz1_0 (z2) (x0) _ hr2) ?_
 intro v4 F1 w5 hs6 le7 hp8
 obtain rfl := hp8
 refine V 7 3 (ma 12 (vi r1)) ?_
 refine Nss ?_
 obtain ⟨j14, hj17, h18⟩ := bind_some h3
 refine CWP.regionD (by kernel_rfl) (by kernel_rfl) (by kernel_rfl) (by kernel_rfl) (z := 16) (F := F1) (Lc := []) (Lz := []) (l := [false, false, false, false, false, false, false, false, false, false, false, false, false, false, false, false]) (fuel := 16) (by kernel_rfl) (by kernel_rfl) hs6 (by simp) (by simp) (fun f w => ∃ (F2 : Mem), HS w0 F0 w F2 [] ∧ Mem.le F1 F2 ∧ f.d = [] ∧ f 6 = (.bool j14)) (fun wd9 hw10 => ?_) ?_
 ·refine Dt 0 13 3 _ (fun _ hq => mv 7 (vi r1)) ?_
  refine Dt 1 14 4 (.bool (decide (r1 ≥ 0))) (fun _ hq => run_geq (t := 3) (t' := 3) (x := (.tmp 13)) (y := (.const (vi 0))) (k := .i64) (a := r1) (b := 0) rfl rfl) ?_
  refine Dt 2 15 4 _ (fun _ hq => mv 14 (.bool (decide (r1 ≥ 0)))) ?_
  refine DWP.split (decide (r1 ≥ 0)) (fun hb19 => ?_) (fun hb19 => ?_)
  ·have h20 := cond_t hj17 hb19
   refine Dg 3 16 61 _ 2 true 15 hb19 (fun _ hq => ld 61 2 bz1 0 false 1 (.slice az1_0 z1.length nz1_0) (hq.1.1 _ _ (le7 _ _ hz1))) ?_
   refine Dg 4 17 3 _ 2 true 15 hb19 (fun _ hq => mv 7 (vi r1)) ?_
   obtain ⟨x21, hx22, h24⟩ := bind_some h20
   obtain ⟨hi23, hx22'⟩ := idx_spec hx22
   obtain ⟨b25, o26, C27, E28, fz29, rfl, hF31, hE32⟩ := SlA.open (SlA.mono hsz1_0 le7) hx22'
   have hc34 := hE32 _ _ hx22'
   refine Dg 5 18 0 (.pointer (some ⟨b25, (o26 + (r1 : Int).toNat * 7), none⟩)) 2 true 15 hb19 (fun _ hq => ix 61 16 17 b25 o26 71 7 64 hi23) ?_
   refine Dg 6 19 71 _ 2 true 15 hb19 (fun _ hq => lx 71 18 0 7 true 7 (.agg #[(.string ⟨(x21.Text).toArray⟩), (vi x21.Country), (vi x21.Zone), (vi x21.Continent), (vi x21.From), (vi x21.To), (.bool x21.Whole)]) (hq.1.1 _ _ hF31) hc34) ?_
   refine Dg 8 21 61 _ 2 true 15 hb19 (fun _ hq => ld 61 2 bz1 0 false 1 (.slice (some ⟨b25, o26, none⟩) z1.length nz1_0) (hq.1.1 _ _ (le7 _ _ hz1))) ?_
   refine Dg 9 22 3 _ 2 true 15 hb19 (fun _ hq => ld 3 4 bz3 0 false 1 (vi z3) (hq.1.1 _ _ (le7 _ _ hz3))) ?_
   obtain ⟨x35, hx36, h38⟩ := bind_some h24
   obtain ⟨hi37, hx36'⟩ := idx_spec hx36
   have hc40 := hE32 _ _ hx36'
   refine Dg 10 23 0 (.pointer (some ⟨b25, (o26 + (z3 : Int).toNat * 7), none⟩)) 2 true 15 hb19 (fun _ hq => ix 61 21 22 b25 o26 71 7 64 hi37) ?_
   refine Dg 11 24 71 _ 2 true 15 hb19 (fun _ hq => lx 71 23 0 7 true 7 (.agg #[(.string ⟨(x35.Text).toArray⟩), (vi x35.Country), (vi x35.Zone), (vi x35.Continent), (vi x35.From), (vi x35.To), (.bool x35.Whole)]) (hq.1.1 _ _ hF31) hc40) ?_
   refine DWP.one (i := 7) (by kernel_rfl) ?_
   obtain ⟨r41, hr42, h43⟩ := bind_some h38
   refine DStep.call (l' := [true, true, true, true, true, true, true, true, true, true, true, true, false, false, false, false]) (zd := true) (by kernel_rfl) (by kernel_rfl) (by kernel_rfl) (dst := (some 20)) (ty := 65) (g := (some (2, true))) (by kernel_rfl) (gd_y (d := 15) (by kernel_rfl) rfl hb19) (f0 := (.func 100)) (aos := #[(.tmp 19)]) (ats := #[71]) (fid := 100) (first := #[]) (cap := #[]) (args := [(.agg #[(.string ⟨(x21.Text).toArray⟩), (vi x21.Country), (vi x21.Zone), (vi x21.Continent), (vi x21.From), (vi x21.To), (.bool x21.Whole)])]) rfl co_air_placeOf (rfl) hw10 (c_air_placeOf N wd9 F1 hw10.pers (x21) _ hr42) ?_
   intro v44 F3 w45 hs46 le47 hp48
   obtain rfl := hp48
   refine DWP.one (i := 12) (by kernel_rfl) ?_
   obtain ⟨r49, hr50, h51⟩ := bind_some h43
   refine DStep.call (l' := [true, true, true, true, true, true, true, true, true, true, true, true, true, false, false, false]) (zd := true) (by kernel_rfl) (by kernel_rfl) (by kernel_rfl) (dst := (some 25)) (ty := 65) (g := (some (2, true))) (by kernel_rfl) (gd_y (d := 15) (by kernel_rfl) rfl hb19) (f0 := (.func 100)) (aos := #[(.tmp 24)]) (ats := #[71]) (fid := 100) (first := #[]) (cap := #[]) (args := [(.agg #[(.string ⟨(x35.Text).toArray⟩), (vi x35.Country), (vi x35.Zone), (vi x35.Continent), (vi x35.From), (vi x35.To), (.bool x35.Whole)])]) rfl co_air_placeOf (rfl) hs46 (c_air_placeOf N w45 F3 hs46.pers (x35) _ hr50) ?_
   intro v52 F4 w53 hs54 le55 hp56
   obtain rfl := hp56
   refine Dg 13 26 4 (.bool ((r41.Country == r49.Country) && ((r41.Zone == r49.Zone) && ((r41.Continent == r49.Continent) && true)))) 2 true 15 hb19 (fun _ hq => run_eqs (t := 65) (t' := 65) (x := (.tmp 20)) (y := (.tmp 25)) (xs := #[(vi r41.Country), (vi r41.Zone), (vi r41.Continent)]) (ys := #[(vi r49.Country), (vi r49.Zone), (vi r49.Continent)]) (b := ((r41.Country == r49.Country) && ((r41.Zone == r49.Zone) && ((r41.Continent == r49.Continent) && true)))) rfl rfl (by kernel_rfl) (by kernel_rfl)) ?_
   refine Dt 14 27 4 _ (fun _ hq => p1 15 (.tmp 26) (.const (.bool false)) (.bool ((r41.Country == r49.Country) && ((r41.Zone == r49.Zone) && ((r41.Continent == r49.Continent) && true)))) hb19) ?_
   refine Dt 15 6 4 _ (fun _ hq => ma 27 (.bool ((r41.Country == r49.Country) && ((r41.Zone == r49.Zone) && ((r41.Continent == r49.Continent) && true))))) ?_
   obtain rfl := some_inj h51
   exact DWP.done (by kernel_rfl) ⟨F4, hs54, (le47.trans le55), rfl, rfl⟩
  ·have h57 := cond_f hj17 hb19
   refine Dk [(3, 16), (4, 17), (5, 18), (6, 19), (7, 20), (8, 21), (9, 22), (10, 23), (11, 24), (12, 25), (13, 26)] 2 true 15 hb19 ?_
   refine Dt 14 27 4 _ (fun _ hq => p0 15 (.tmp 26) (.const (.bool false)) (.bool false) hb19) ?_
   refine Dt 15 6 4 _ (fun _ hq => ma 27 (.bool false)) ?_
   obtain rfl := some_inj h57
   exact DWP.done (by kernel_rfl) ⟨F1, hw10, (Mem.le.refl _), rfl, rfl⟩
 ·rintro f w11 ⟨F2, hs12, le13, e15, e16⟩
  refine thenQ_nrm ?_
  refine CWP.ret (by kernel_rfl) ?_
  have hfin := some_inj h18
  subst hfin
  exact ⟨e15, (.bool j14), res_of (l := [.tmp 6]) (by kernel_rfl) (vs := [(.bool j14)]) ⟨e16, trivial⟩, (.bool j14), F2, rfl, hs12.clear, rfl⟩
end Go.Proofs.YtlddakefmfcblaaGreatDoor
namespace Go.Proofs.YtlddakefmfcblaaGreatDoor
open Go.Proofs
def slices_Backward_int_int_1_L0 {σ : Type} (N : Nat) (y : (σ → (Int × Int) → Option (Bool × σ))) (z0 : (List Int)) (s : σ) : (Int × σ) → Option (Flow σ (Int × σ)) := fun s4 =>
 (bif (decide (s4.1 ≥ 0)) then ((idx z0 s4.1).bind fun x29 => ((y s4.2 (s4.1, x29)).bind fun q43 => (bif (!q43.1) then some (.ret q43.2) else some (.next ((W64 (s4.1 - 1)), q43.2))))) else some (.done (s4.1, s4.2)))
def slices_Backward_int_int_1 {σ : Type} (N : Nat) (y : σ → (Int × Int) → Option (Bool × σ)) (z0 : (List Int)) (s : σ) : Option σ :=
 ((iter (slices_Backward_int_int_1_L0 N y z0 s) N ((W64 ((z0.length : Int) - 1)), s)).bind fun o => o.k (fun r => some r) (fun s14 => some s14.2))
theorem co_slices_Backward_int_int_1 : CallOk Tryz.prog 130 := fun _ _ => by kernel_rfl
set_option maxHeartbeats 4000000 in
set_option maxRecDepth 100000 in
theorem c_slices_Backward_int_int_1 (N : Nat) (F0 : Mem) (z0 : (List Int)) (az0_0 : Option Addr) (nz0_0 : Nat) (hbz0_0 : LC z0.length nz0_0) (hsz0_0 : SlA tInt F0 az0_0 z0) (bz0 : Nat) :
  SeqOk Tryz.prog 130 [(.pointer (some ⟨bz0, 0, none⟩))] F0 [(sb bz0 #[(.slice az0_0 z0.length nz0_0)] 77)] enc156 ok156 px156 (fun {_} y s => slices_Backward_int_int_1 N y z0 s) := by
 intro σ wb w0 Fb F1 l y J s r Lf le01 hJm hs0 hJ hY h
 have hs0 : HS wb Fb w0 F1 ((sb bz0 #[(.slice az0_0 z0.length nz0_0)] 77) :: Lf) := hs0
 refine calls_of (n := 19) (c := bodyOf Tryz.f130) Tryz.func130 (by kernel_rfl) (by kernel_rfl) (by kernel_rfl) ?_
 refine Sq (Rg [0, 1, 2, 3] ?_)
 refine V 4 77 (ld 77 1 bz0 0 false 1 (.slice az0_0 z0.length nz0_0) (hs0.ownAt (k := 0) rfl)) ?_
 refine V 5 3 (ln 4 77 az0_0 z0.length nz0_0 3 1 8) ?_
 refine V 6 3 (run_sub (t := 3) (t' := 3) (x := (.tmp 5)) (y := (.const (vi 1))) (k := .i64) (a := (z0.length : Int)) (b := 1) rfl rfl) ?_
 refine V 3 3 (ma 6 (vi (W64 ((z0.length : Int) - 1)))) ?_
 refine Nt ?_
 obtain ⟨o1, ho2, h3⟩ := bind_some h
 refine CWP.cut (fun f w => ∃ (s14 : (Int × σ)) (F3 : Mem) (Lf18 : Own), o1 = .done s14 ∧ HS wb Fb w F3 Lf18 ∧ Mem.le F1 F3 ∧ f.d = [] ∧ J s14.2 F3 Lf18) ?_ ?_
 ·refine Bk ?_
  refine CWP.loop (by kernel_rfl) (fun m f w => ∃ (s4 : (Int × σ)) (F2 : Mem) (Lf8 : Own), iter (slices_Backward_int_int_1_L0 N y z0 s) m s4 = some o1 ∧ HS wb Fb w F2 ((sb bz0 #[(.slice az0_0 z0.length nz0_0)] 77) :: Lf8) ∧ Mem.le F1 F2 ∧ f.d = [] ∧ f 0 = (.func (.yield l) #[] #[]) ∧ f 1 = (.pointer (some ⟨bz0, 0, none⟩)) ∧ f 3 = (vi s4.1) ∧ J s4.2 F2 Lf8) N ⟨((W64 ((z0.length : Int) - 1)), s), F1, Lf, ho2, hs0, (Mem.le.refl _), rfl, rfl, rfl, rfl, hJ⟩ ?_
  rintro m21 f w5 ⟨s4, F2, Lf8, hit22, hs6, le7, e10, e11, e12, e13, hJ9⟩
  obtain ⟨m23, fl24, rfl, hb25, hnx26⟩ := iter_step hit22
  refine Sq ?_
  refine Sq (Rg [0, 1] ?_)
  refine V 7 3 (mv 3 (vi s4.1) e13) ?_
  refine V 8 4 (run_geq (t := 3) (t' := 3) (x := (.tmp 7)) (y := (.const (vi 0))) (k := .i64) (a := s4.1) (b := 0) rfl rfl) ?_
  refine Nt ?_
  refine CWP.cond (t := (decide (s4.1 ≥ 0))) (by kernel_rfl) rfl (fun hb27 => ?_) (fun hb27 => ?_)
  ·have h28 := cond_t hb25 hb27
   refine Sc ?_
   refine thenQ_nrm ?_
   refine Sq ?_
   refine Bk ?_
   refine Sq (Rg [0, 1, 2, 3, 4, 5, 6, 7] ?_)
   refine V 11 156 (mv 0 (.func (.yield l) #[] #[]) e11) ?_
   refine V 12 3 (mv 3 (vi s4.1) e13) ?_
   refine V 13 77 (ld 77 1 bz0 0 false 1 (.slice az0_0 z0.length nz0_0) (hs6.ownAt (k := 0) rfl) e12) ?_
   refine V 14 3 (mv 3 (vi s4.1) e13) ?_
   obtain ⟨x29, hx30, h32⟩ := bind_some h28
   obtain ⟨hi31, hx30'⟩ := idx_spec hx30
   obtain ⟨b33, o34, C35, E36, fz37, rfl, hF39, hE40⟩ := SlA.open (SlA.mono hsz0_0 (le01.trans le7)) hx30'
   have hc42 := hE40 _ _ hx30'
   refine V 15 0 (ix 77 13 14 b33 o34 3 1 8 hi31) ?_
   refine V 16 3 (lx 3 15 0 1 false 1 (vi x29) (hs6.pers _ _ hF39) hc42) ?_
   obtain ⟨q43, hq44, h45⟩ := bind_some h32
   refine RWP.yield (dst := (some 17)) (ty := 4) (g := none) (by kernel_rfl) rfl (f0 := (.tmp 11)) (aos := #[(.tmp 12), (.tmp 16)]) (ats := #[3, 3]) (l := l) (args := [(vi s4.1), (vi x29)]) rfl (rfl) (hY s4.2 (s4.1, x29) w5 F2 [(sb bz0 #[(.slice (some ⟨b33, o34, none⟩) z0.length nz0_0)] 77)] Lf8 q43 le7 trivial hJ9 hs6 hq44) ?_
   rintro _ w46 ⟨F4, Lf50, rfl, hs47, le48, hJ49⟩
   have hs51 : HS wb Fb w46 F4 ((sb bz0 #[(.slice (some ⟨b33, o34, none⟩) z0.length nz0_0)] 77) :: Lf50) := hs47
   refine ⟨_, rfl, ?_⟩
   refine V 18 4 (run_not (t := 4) (x := (.tmp 17)) (a := q43.1) rfl) ?_
   refine Nt ?_
   refine CWP.cond (t := (!q43.1)) (by kernel_rfl) rfl (fun hb52 => ?_) (fun hb52 => ?_)
   ·have h53 := cond_t h45 hb52
    refine CWP.ret (by kernel_rfl) ?_
    refine blockQ_ret ?_
    refine thenQ_ret ?_
    refine thenQ_ret ?_
    refine blockQ_ret ?_
    have hret := iter_ret h53 hnx26
    subst hret
    refine .inr ?_
    have hs54 : HS wb Fb w46 F4 Lf50 := hs51.drop 0
    have hfin := some_inj h3
    subst hfin
    exact ⟨e10, .tuple #[], res_of (l := []) (by kernel_rfl) (vs := []) trivial, F4, Lf50, rfl, hs54, (le7.trans le48), hJ49⟩
   ·have h55 := cond_f h45 hb52
    refine Sc ?_
    refine blockQ_nrm ?_
    refine thenQ_nrm ?_
    refine Rg [0, 1, 2] ?_
    refine V 9 3 (mv 3 (vi s4.1) e13) ?_
    refine V 10 3 (run_sub (t := 3) (t' := 3) (x := (.tmp 9)) (y := (.const (vi 1))) (k := .i64) (a := s4.1) (b := 1) rfl rfl) ?_
    refine V 3 3 (ma 10 (vi (W64 (s4.1 - 1)))) ?_
    refine RWP.nil ?_
    have hn56 := iter_next h55 hnx26
    exact ⟨m23, Nat.lt_succ_self _, ((W64 (s4.1 - 1)), q43.2), F4, Lf50, hn56, hs51, (le7.trans le48), e10, e11, e12, rfl, hJ49⟩
  ·have h57 := cond_f hb25 hb27
   refine CWP.exit (by kernel_rfl) ?_
   refine thenQ_ex ?_
   refine thenQ_ex ?_
   refine blockQ_hit rfl ?_
   have hs58 : HS wb Fb w5 F2 Lf8 := hs6.drop 0
   have ho59 := iter_done h57 hnx26
   exact .inl ⟨rfl, (s4.1, s4.2), F2, Lf8, ho59, hs58, le7, e10, hJ9⟩
 ·rintro f w15 ⟨s14, F3, Lf18, rfl, hs16, le17, e20, hJ19⟩
  have h60 := k_done h3
  have hfin := some_inj h60
  subst hfin
  exact ⟨e20, .tuple #[], res_of (l := []) (by kernel_rfl) (vs := []) trivial, F3, Lf18, rfl, hs16, le17, hJ19⟩
end Go.Proofs.YtlddakefmfcblaaGreatDoor
namespace Go.Proofs.YtlddakefmfcblaaGreatDoor
open Go.Proofs
theorem co_slices_Backward_int_int : CallOk Tryz.prog 105 := fun _ _ => by kernel_rfl
set_option maxRecDepth 100000 in
theorem c_slices_Backward_int_int (w0 : World) (F0 : Mem) (hF : ∀ b o, F0 b = some o → w0.heap[b]? = some o) (x0 : List Int) (a0_0 : Option Addr) (n0_0 : Nat) (_ : LC x0.length n0_0) (_ : SlA tInt F0 a0_0 x0) :
  Calls Tryz.prog 105 ([(.slice a0_0 x0.length n0_0)] : List Value).toArray w0 (FRetO w0 F0 fun _ v L' => ∃ (b0 : Nat), v = .func (.func 130) #[] #[.pointer (some ⟨b0, 0, none⟩)] ∧ L' = [(some b0, .cells #[(.slice a0_0 x0.length n0_0)] 77 (0, 0))]) := by
 have hs0 := HS.start hF
 refine calls_of (n := 4) (c := bodyOf Tryz.f105) Tryz.func105 (by kernel_rfl) (by kernel_rfl) (by kernel_rfl) ?_
 refine CWP.seq (by kernel_rfl) ?_
 refine CWP.region (l := [0, 1]) (by kernel_rfl) (by kernel_rfl) (by kernel_rfl) ?_
 refine RWP.box (dst := (some 1)) (ty := 0) (g := none) (by kernel_rfl) rfl (x := (.tmp 0)) (t := 77) (v := (.slice a0_0 x0.length n0_0)) rfl (C := #[(.slice a0_0 x0.length n0_0)]) rfl hs0 (fun b0 w1 hs1 => ?_)
 refine RWP.val (dst := (some 2)) (ty := 129) (g := none) (by kernel_rfl) rfl (run_assign (x := (.const .nilFunc)) (v := .nilFunc) rfl) ?_
 refine RWP.nil ?_
 refine thenQ_nrm ?_
 refine CWP.seq (by kernel_rfl) ?_
 refine CWP.region (l := [0, 1]) (by kernel_rfl) (by kernel_rfl) (by kernel_rfl) ?_
 refine RWP.val (dst := some 3) (ty := 128) (g := none) (by kernel_rfl) rfl (run_makeFunc (fn := .func 130) (first := #[]) (cap := #[.tmp 1]) (fl := []) (cl := [.pointer (some ⟨b0, 0, none⟩)]) rfl rfl) ?_
 refine RWP.val (dst := (some 2)) (ty := 129) (g := none) (by kernel_rfl) rfl (run_assign (x := (.tmp 3)) (v := .func (.func 130) #[] #[.pointer (some ⟨b0, 0, none⟩)]) rfl) ?_
 refine RWP.nil ?_
 refine thenQ_nrm ?_
 refine CWP.ret (by kernel_rfl) ?_
 exact ⟨rfl, _, res_of (l := [.tmp 2]) (by kernel_rfl) (vs := [.func (.func 130) #[] #[.pointer (some ⟨b0, 0, none⟩)]]) ⟨rfl, trivial⟩, _, F0, _, rfl, hs1, b0, rfl, rfl⟩
end Go.Proofs.YtlddakefmfcblaaGreatDoor
namespace Go.Proofs.YtlddakefmfcblaaGreatDoor
open Go.Proofs
def air_Since_L0 (N : Nat) (x0 : (List Prefix)) (x1 : (List UInt8)) (x2 : Int) (r13 : (Int × Int)) (r31 : (List (air_key × (List Int)))) : (List Int × Int) → Option (Flow (Span × Int) (List Int × Int)) := fun s54 =>
 (bif (decide (s54.2 < (x0.length : Int))) then ((idx x0 s54.2).bind fun x83 => ((apnd s54.1 [x83.From, (W64 (x83.To + 1))]).bind fun r107 => some (.next (r107, (W64 (s54.2 + 1)))))) else some (.done (s54.1, s54.2)))
def air_Since_L1 (N : Nat) (x0 : (List Prefix)) (x1 : (List UInt8)) (x2 : Int) (r13 : (Int × Int)) (r31 : (List (air_key × (List Int)))) (s66 : (List Int × Int)) (r122 : List Int) (r131 : List Int) : Int → (Int × Int) → Option (Int × Bool) := fun s166 x179 =>
 ((bif (decide (x179.2 ≤ x2)) then ((air_Since_1 N (W64 (x179.2 - 1)) r31 x0 x1 r13.1).bind fun r209 => some (!r209)) else some false).bind fun j197 => (bif j197 then some (x179.2, false) else some (s166, true)))
def air_Since_L2 (N : Nat) (x0 : (List Prefix)) (x1 : (List UInt8)) (x2 : Int) (r13 : (Int × Int)) (r31 : (List (air_key × (List Int)))) (s66 : (List Int × Int)) (r122 : List Int) (r131 : List Int) (r174 : (Int × Bool)) : (Int × Int) → Option (Flow (Span × Int) (Int × Int)) := fun s233 =>
 (bif (decide (s233.1 < (r131.length : Int))) then ((idx r131 s233.1).bind fun x260 => ((bif (decide (x260 > x2)) then (bif (decide (x260 ≤ 99999)) then ((air_Since_1 N x260 r31 x0 x1 r13.1).bind fun r294 => some (!r294)) else some false) else some false).bind fun j277 => (bif j277 then some (.done (s233.1, (W64 (x260 - 1)))) else some (.next ((W64 (s233.1 + 1)), s233.2))))) else some (.done (s233.1, s233.2)))
def air_Since (N : Nat) (x0 : (List Prefix)) (x1 : (List UInt8)) (x2 : Int) : Option (Span × Int) :=
 ((air_RowOf N x0 x1 x2).bind fun r13 => (bif (r13.2 != 0) then some (({ Lo := 0, Hi := 0 } : Span), r13.2) else ((air_tableOf N x0).bind fun r31 => ((iter (air_Since_L0 N x0 x1 x2 r13 r31) N (([] : List Int), 0)).bind fun o => o.k (fun r => some r) (fun s66 => ((slices_Sort_int_int N s66.1).bind fun r122 => ((slices_Compact_int_int N r122).bind fun r131 => ((slices_Backward_int_int_1 N (brkY (air_Since_L1 N x0 x1 x2 r13 r31 s66 r122 r131)) r131 (0, true)).bind fun r174 => ((iter (air_Since_L2 N x0 x1 x2 r13 r31 s66 r122 r131 r174) N (0, 99999)).bind fun o => o.k (fun r => some r) (fun s245 => some (({ Lo := r174.1, Hi := s245.2 } : Span), 0)))))))))))
theorem co_air_Since : CallOk Tryz.prog 59 := fun _ _ => by kernel_rfl
set_option maxHeartbeats 4000000 in
set_option maxRecDepth 100000 in
theorem c_air_Since (N : Nat) (w0 : World) (F0 : Mem) (hF : ∀ b o, F0 b = some o → w0.heap[b]? = some o) (hG : Glob F0) (x0 : (List Prefix)) (a0_0 : Option Addr) (n0_0 : Nat) (hb0_0 : LC x0.length n0_0) (hs0_0 : SlA tPrefix F0 a0_0 x0) (x1 : (List UInt8)) (x2 : Int) (r : (Span × Int)) (h : air_Since N x0 x1 x2 = some r) :
  Calls Tryz.prog 59 ([(.slice a0_0 x0.length n0_0), (.string ⟨(x1).toArray⟩), (vi x2)] : List Value).toArray w0 (FRet w0 F0 fun F' v => v = (.tuple #[(.agg #[(vi r.1.Lo), (vi r.1.Hi)]), (vi r.2)])) := by
 have hs0 := HS.start hF
 refine calls_ofM (n := 94) (c := bodyOf Tryz.f59) Tryz.func59 (by kernel_rfl) (by kernel_rfl) (by kernel_rfl) ?_
 refine Sq (Rg [0, 1, 2, 3, 4] ?_)
 refine Bx 3 0 0 61 #[(.slice a0_0 x0.length n0_0)] hs0 (fun b1 w2 (hs3 : HS w0 F0 w2 F0 [(sb b1 #[(.slice a0_0 x0.length n0_0)] 61)]) => ?_)
 refine Bx 4 0 1 9 #[(.string ⟨(x1).toArray⟩)] hs3 (fun b4 w5 (hs6 : HS w0 F0 w5 F0 [(sb b4 #[(.string ⟨(x1).toArray⟩)] 9), (sb b1 #[(.slice a0_0 x0.length n0_0)] 61)]) => ?_)
 refine Bx 5 0 2 3 #[(vi x2)] hs6 (fun b7 w8 (hs9 : HS w0 F0 w8 F0 [(sb b7 #[(vi x2)] 3), (sb b4 #[(.string ⟨(x1).toArray⟩)] 9), (sb b1 #[(.slice a0_0 x0.length n0_0)] 61)]) => ?_)
 refine Al 6 0 74 #[(vi 0), (vi 0)] hs9 (fun b10 w11 (hs12 : HS w0 F0 w11 F0 [(sb b10 #[(vi 0), (vi 0)] 74), (sb b7 #[(vi x2)] 3), (sb b4 #[(.string ⟨(x1).toArray⟩)] 9), (sb b1 #[(.slice a0_0 x0.length n0_0)] 61)]) => ?_)
 refine V 7 23 (mc (vi 0) (vi 0)) ?_
 refine Nss (Rg [0, 1, 2, 3, 4, 5, 6, 7, 8, 9] ?_)
 refine V 21 61 (ld 61 3 b1 0 false 1 (.slice a0_0 x0.length n0_0) (hs12.ownAt (k := 3) rfl)) ?_
 refine V 22 9 (ld 9 4 b4 0 false 1 (.string ⟨(x1).toArray⟩) (hs12.ownAt (k := 2) rfl)) ?_
 refine V 23 3 (ld 3 5 b7 0 false 1 (vi x2) (hs12.ownAt (k := 1) rfl)) ?_
 obtain ⟨r13, hr14, h15⟩ := bind_some h
 refine Cl 24 33 52 #[(.tmp 21), (.tmp 22), (.tmp 23)] #[61, 9, 3] co_air_RowOf hs12 (c_air_RowOf N w11 F0 hs12.pers hG (x0) a0_0 n0_0 hb0_0 hs0_0 (x1) (x2) _ hr14) ?_
 intro v16 F1 w17 hs18 le19 hp20
 obtain rfl := hp20
 refine V 20 33 (mv 24 (.tuple #[(vi r13.1), (vi r13.2)])) ?_
 refine V 25 3 (ex 20 0 (vi r13.1) (vs := #[(vi r13.1), (vi r13.2)])) ?_
 refine V 26 23 (ex 20 1 (vi r13.2) (vs := #[(vi r13.1), (vi r13.2)])) ?_
 refine RWP.alloc (dst := (some 8)) (ty := 0) (g := none) (by kernel_rfl) rfl (t := 3) (z := (vi 0)) (by kernel_rfl) (C := #[(vi 0)]) rfl hs18 (fun b21 w22 (hs23 : HS w0 F0 w22 F1 [(sb b21 #[(vi 0)] 3), (sb b10 #[(vi 0), (vi 0)] 74), (sb b7 #[(vi x2)] 3), (sb b4 #[(.string ⟨(x1).toArray⟩)] 9), (sb b1 #[(.slice a0_0 x0.length n0_0)] 61)]) => ?_)
 refine RWP.store (ty := 0) (g := none) (by kernel_rfl) rfl (x := (.tmp 8)) (y := (.tmp 25)) (t := 3) (gg := false) (s := 1) (v := (vi r13.1)) (b := b21) (o := 0) (C := #[(vi 0)]) rfl rfl (by kernel_rfl) hs23 (k := 0) rfl rfl rfl rfl (C' := #[(vi r13.1)]) rfl (fun w24 (hs25 : HS w0 F0 w24 F1 [(sb b21 #[(vi r13.1)] 3), (sb b10 #[(vi 0), (vi 0)] 74), (sb b7 #[(vi x2)] 3), (sb b4 #[(.string ⟨(x1).toArray⟩)] 9), (sb b1 #[(.slice a0_0 x0.length n0_0)] 61)]) => ?_)
 refine V 9 23 (ma 26 (vi r13.2)) ?_
 refine Nss ?_
 refine Sq (Rg [0, 1] ?_)
 refine V 27 23 (mv 9 (vi r13.2)) ?_
 refine V 28 4 (run_neq (t := 23) (t' := 23) (x := (.tmp 27)) (y := (.const (vi 0))) (k := .i64) (a := r13.2) (b := 0) rfl rfl) ?_
 refine Nt ?_
 refine CWP.cond (t := (r13.2 != 0)) (by kernel_rfl) rfl (fun hb26 => ?_) (fun hb26 => ?_)
 ·have h27 := cond_t h15 hb26
  refine Sq (Rg [0, 1, 2, 3] ?_)
  refine V 29 74 (run_build2 (t := 74) (parts := #[]) (vs := []) (rfl) (cs := [(vi 0), (vi 0)]) (by kernel_rfl)) ?_
  refine V 30 23 (mv 9 (vi r13.2)) ?_
  refine RWP.store (ty := 0) (g := none) (by kernel_rfl) rfl (x := (.tmp 6)) (y := (.tmp 29)) (t := 74) (gg := true) (s := 2) (v := (.agg #[(vi 0), (vi 0)])) (b := b10) (o := 0) (C := #[(vi 0), (vi 0)]) rfl rfl (by kernel_rfl) hs25 (k := 1) rfl rfl rfl rfl (C' := #[(vi 0), (vi 0)]) rfl (fun w28 (hs29 : HS w0 F0 w28 F1 [(sb b21 #[(vi r13.1)] 3), (sb b10 #[(vi 0), (vi 0)] 74), (sb b7 #[(vi x2)] 3), (sb b4 #[(.string ⟨(x1).toArray⟩)] 9), (sb b1 #[(.slice a0_0 x0.length n0_0)] 61)]) => ?_)
  refine V 7 23 (ma 30 (vi r13.2)) ?_
  refine Nt ?_
  refine CWP.ret (by kernel_rfl) ?_
  refine thenQ_ret ?_
  have hfin := some_inj h27
  subst hfin
  exact .inl ⟨rfl, (.tuple #[(.agg #[(vi 0), (vi 0)]), (vi r13.2)]), res_of (l := [.cell 6 74, .tmp 7]) (by kernel_rfl) (vs := [(.agg #[(vi 0), (vi 0)]), (vi r13.2)]) ⟨b10, 0, rfl, run_loadVar' (t := 74) (g := true) (s := 2) (by kernel_rfl) (hs29.ownAt (k := 1) rfl) rfl (by decide), ⟨rfl, trivial⟩⟩, (.tuple #[(.agg #[(vi 0), (vi 0)]), (vi r13.2)]), F1, rfl, hs29.clear, rfl⟩
 ·have h30 := cond_f h15 hb26
  refine Sc ?_
  refine thenQ_nrm ?_
  refine Sq (Rg [0, 1, 2, 3] ?_)
  refine V 31 61 (ld 61 3 b1 0 false 1 (.slice a0_0 x0.length n0_0) (hs25.ownAt (k := 4) rfl)) ?_
  obtain ⟨r31, hr32, h33⟩ := bind_some h30
  refine Cl 32 116 93 #[(.tmp 31)] #[61] co_air_tableOf hs25 (c_air_tableOf N w24 F1 hs25.pers (x0) a0_0 n0_0 hb0_0 (SlA.mono hs0_0 le19) _ hr32) ?_
  intro v34 F2 w35 hs36 le37 hp38
  obtain ⟨or31_0_0, rfl, hmr31_0_0⟩ := hp38
  refine RWP.alloc (dst := (some 10)) (ty := 0) (g := none) (by kernel_rfl) rfl (t := 116) (z := (.map none)) (by kernel_rfl) (C := #[(.map none)]) rfl hs36 (fun b39 w40 (hs41 : HS w0 F0 w40 F2 [(sb b39 #[(.map none)] 116), (sb b21 #[(vi r13.1)] 3), (sb b10 #[(vi 0), (vi 0)] 74), (sb b7 #[(vi x2)] 3), (sb b4 #[(.string ⟨(x1).toArray⟩)] 9), (sb b1 #[(.slice a0_0 x0.length n0_0)] 61)]) => ?_)
  refine RWP.store (ty := 0) (g := none) (by kernel_rfl) rfl (x := (.tmp 10)) (y := (.tmp 32)) (t := 116) (gg := false) (s := 1) (v := (.map or31_0_0)) (b := b39) (o := 0) (C := #[(.map none)]) rfl rfl (by kernel_rfl) hs41 (k := 0) rfl rfl rfl rfl (C' := #[(.map or31_0_0)]) rfl (fun w42 (hs43 : HS w0 F0 w42 F2 [(sb b39 #[(.map or31_0_0)] 116), (sb b21 #[(vi r13.1)] 3), (sb b10 #[(vi 0), (vi 0)] 74), (sb b7 #[(vi x2)] 3), (sb b4 #[(.string ⟨(x1).toArray⟩)] 9), (sb b1 #[(.slice a0_0 x0.length n0_0)] 61)]) => ?_)
  refine Nss (Rg [0, 1, 2] ?_)
  refine V 33 125 (run_makeFunc (fn := .func 102) (first := #[]) (cap := #[(.tmp 10), (.tmp 3), (.tmp 4), (.tmp 8)]) (fl := []) (cl := [(.pointer (some ⟨b39, 0, none⟩)), (.pointer (some ⟨b1, 0, none⟩)), (.pointer (some ⟨b4, 0, none⟩)), (.pointer (some ⟨b21, 0, none⟩))]) rfl (rfl)) ?_
  refine RWP.alloc (dst := (some 11)) (ty := 0) (g := none) (by kernel_rfl) rfl (t := 125) (z := .nilFunc) (by kernel_rfl) (C := #[.nilFunc]) rfl hs43 (fun b44 w45 (hs46 : HS w0 F0 w45 F2 [(sb b44 #[.nilFunc] 125), (sb b39 #[(.map or31_0_0)] 116), (sb b21 #[(vi r13.1)] 3), (sb b10 #[(vi 0), (vi 0)] 74), (sb b7 #[(vi x2)] 3), (sb b4 #[(.string ⟨(x1).toArray⟩)] 9), (sb b1 #[(.slice a0_0 x0.length n0_0)] 61)]) => ?_)
  refine RWP.store (ty := 0) (g := none) (by kernel_rfl) rfl (x := (.tmp 11)) (y := (.tmp 33)) (t := 125) (gg := false) (s := 1) (v := (.func (.func 102) #[] #[(.pointer (some ⟨b39, 0, none⟩)), (.pointer (some ⟨b1, 0, none⟩)), (.pointer (some ⟨b4, 0, none⟩)), (.pointer (some ⟨b21, 0, none⟩))])) (b := b44) (o := 0) (C := #[.nilFunc]) rfl rfl (by kernel_rfl) hs46 (k := 0) rfl rfl rfl rfl (C' := #[(.func (.func 102) #[] #[(.pointer (some ⟨b39, 0, none⟩)), (.pointer (some ⟨b1, 0, none⟩)), (.pointer (some ⟨b4, 0, none⟩)), (.pointer (some ⟨b21, 0, none⟩))])]) rfl (fun w47 (hs48 : HS w0 F0 w47 F2 [(sb b44 #[(.func (.func 102) #[] #[(.pointer (some ⟨b39, 0, none⟩)), (.pointer (some ⟨b1, 0, none⟩)), (.pointer (some ⟨b4, 0, none⟩)), (.pointer (some ⟨b21, 0, none⟩))])] 125), (sb b39 #[(.map or31_0_0)] 116), (sb b21 #[(vi r13.1)] 3), (sb b10 #[(vi 0), (vi 0)] 74), (sb b7 #[(vi x2)] 3), (sb b4 #[(.string ⟨(x1).toArray⟩)] 9), (sb b1 #[(.slice a0_0 x0.length n0_0)] 61)]) => ?_)
  refine Nss (Rg [0] ?_)
  refine V 12 77 (mc (.slice none 0 0) (.slice none ([] : List Int).length 0)) ?_
  refine Nss ?_
  refine Sq (Rg [0, 1, 2] ?_)
  refine V 34 61 (ld 61 3 b1 0 false 1 (.slice a0_0 x0.length n0_0) (hs48.ownAt (k := 6) rfl)) ?_
  refine V 35 3 (ln 34 61 a0_0 x0.length n0_0 71 7 64) ?_
  refine V 36 3 (run_move (x := (.const (vi 0))) (v := (vi 0)) rfl) ?_
  refine Nt ?_
  have hs49 : HS w0 F0 w47 F2 [(none, .cells #[] 0 (0, 0)), (sb b44 #[(.func (.func 102) #[] #[(.pointer (some ⟨b39, 0, none⟩)), (.pointer (some ⟨b1, 0, none⟩)), (.pointer (some ⟨b4, 0, none⟩)), (.pointer (some ⟨b21, 0, none⟩))])] 125), (sb b39 #[(.map or31_0_0)] 116), (sb b21 #[(vi r13.1)] 3), (sb b10 #[(vi 0), (vi 0)] 74), (sb b7 #[(vi x2)] 3), (sb b4 #[(.string ⟨(x1).toArray⟩)] 9), (sb b1 #[(.slice a0_0 x0.length n0_0)] 61)] := hs48.dummy _
  obtain ⟨o51, ho52, h53⟩ := bind_some h33
  refine CWP.cut (fun f w => ∃ (s66 : (List Int × Int)) (F4 : Mem) (as66_0 : Option Addr) (ns66_0 : Nat) (es66_0 : Option Nat × Obj), o51 = .done s66 ∧ HS w0 F0 w F4 [es66_0, (sb b44 #[(.func (.func 102) #[] #[(.pointer (some ⟨b39, 0, none⟩)), (.pointer (some ⟨b1, 0, none⟩)), (.pointer (some ⟨b4, 0, none⟩)), (.pointer (some ⟨b21, 0, none⟩))])] 125), (sb b39 #[(.map or31_0_0)] 116), (sb b21 #[(vi r13.1)] 3), (sb b10 #[(vi 0), (vi 0)] 74), (sb b7 #[(vi x2)] 3), (sb b4 #[(.string ⟨(x1).toArray⟩)] 9), (sb b1 #[(.slice a0_0 x0.length n0_0)] 61)] ∧ Mem.le F2 F4 ∧ f.d = [] ∧ f 5 = (.pointer (some ⟨b7, 0, none⟩)) ∧ f 6 = (.pointer (some ⟨b10, 0, none⟩)) ∧ f 11 = (.pointer (some ⟨b44, 0, none⟩)) ∧ f 12 = (.slice as66_0 s66.1.length ns66_0) ∧ RowR tInt 3 F4 as66_0 ns66_0 s66.1 es66_0) ?_ ?_
  ·refine Bk ?_
   refine CWP.loop (by kernel_rfl) (fun m f w => ∃ (s54 : (List Int × Int)) (F3 : Mem) (as54_0 : Option Addr) (ns54_0 : Nat) (es54_0 : Option Nat × Obj), iter (air_Since_L0 N x0 x1 x2 r13 r31) m s54 = some o51 ∧ HS w0 F0 w F3 [es54_0, (sb b44 #[(.func (.func 102) #[] #[(.pointer (some ⟨b39, 0, none⟩)), (.pointer (some ⟨b1, 0, none⟩)), (.pointer (some ⟨b4, 0, none⟩)), (.pointer (some ⟨b21, 0, none⟩))])] 125), (sb b39 #[(.map or31_0_0)] 116), (sb b21 #[(vi r13.1)] 3), (sb b10 #[(vi 0), (vi 0)] 74), (sb b7 #[(vi x2)] 3), (sb b4 #[(.string ⟨(x1).toArray⟩)] 9), (sb b1 #[(.slice a0_0 x0.length n0_0)] 61)] ∧ Mem.le F2 F3 ∧ f.d = [] ∧ f 5 = (.pointer (some ⟨b7, 0, none⟩)) ∧ f 6 = (.pointer (some ⟨b10, 0, none⟩)) ∧ f 11 = (.pointer (some ⟨b44, 0, none⟩)) ∧ f 12 = (.slice as54_0 s54.1.length ns54_0) ∧ f 34 = (.slice a0_0 x0.length n0_0) ∧ f 35 = (vi (x0.length : Int)) ∧ f 36 = (vi s54.2) ∧ RowR tInt 3 F3 as54_0 ns54_0 s54.1 es54_0) N ⟨(([] : List Int), 0), F2, none, 0, (none, .cells #[] 0 (0, 0)), ho52, hs49, (Mem.le.refl _), rfl, rfl, rfl, rfl, rfl, rfl, rfl, rfl, (RowR.nil tInt 3 F2 _)⟩ ?_
   rintro m75 f w55 ⟨s54, F3, as54_0, ns54_0, es54_0, hit76, hs56, le57, e58, e59, e60, e61, e62, e63, e64, e65, hrs54_0⟩
   obtain ⟨m77, fl78, rfl, hb79, hnx80⟩ := iter_step hit76
   refine Sq (Rg [0] ?_)
   refine V 37 0 (run_lss (t := 3) (t' := 3) (x := (.tmp 36)) (y := (.tmp 35)) (k := .i64) (a := s54.2) (b := (x0.length : Int)) e65 e64) ?_
   refine Nss ?_
   refine CWP.cond (t := (decide (s54.2 < (x0.length : Int)))) (by kernel_rfl) rfl (fun hb81 => ?_) (fun hb81 => ?_)
   ·have h82 := cond_t hb79 hb81
    refine Sc ?_
    refine thenQ_nrm ?_
    refine Sq ?_
    refine Bk ?_
    refine Sq (Rg [0, 1, 2, 3] ?_)
    obtain ⟨x83, hx84, h86⟩ := bind_some h82
    obtain ⟨hi85, hx84'⟩ := idx_spec hx84
    obtain ⟨b87, o88, C89, E90, fz91, rfl, hF93, hE94⟩ := SlA.open (SlA.mono hs0_0 ((le19.trans le37).trans le57)) hx84'
    have hc96 := hE94 _ _ hx84'
    refine V 38 0 (run_index (t := 61) (x := (.tmp 34)) (y := (.tmp 36)) (b := b87) (o := o88) (E := 71) (s := 7) (by_ := 64) e63 e65 (by kernel_rfl) hi85) ?_
    refine V 39 71 (lx 71 38 0 7 true 7 (.agg #[(.string ⟨(x83.Text).toArray⟩), (vi x83.Country), (vi x83.Zone), (vi x83.Continent), (vi x83.From), (vi x83.To), (.bool x83.Whole)]) (hs56.pers _ _ hF93) hc96) ?_
    refine Al 14 0 71 #[(.string ⟨(([] : List UInt8)).toArray⟩), (vi 0), (vi 0), (vi 0), (vi 0), (vi 0), (.bool false)] hs56 (fun b97 w98 (hs99 : HS w0 F0 w98 F3 [(sb b97 #[(.string ⟨(([] : List UInt8)).toArray⟩), (vi 0), (vi 0), (vi 0), (vi 0), (vi 0), (.bool false)] 71), es54_0, (sb b44 #[(.func (.func 102) #[] #[(.pointer (some ⟨b39, 0, none⟩)), (.pointer (some ⟨b1, 0, none⟩)), (.pointer (some ⟨b4, 0, none⟩)), (.pointer (some ⟨b21, 0, none⟩))])] 125), (sb b39 #[(.map or31_0_0)] 116), (sb b21 #[(vi r13.1)] 3), (sb b10 #[(vi 0), (vi 0)] 74), (sb b7 #[(vi x2)] 3), (sb b4 #[(.string ⟨(x1).toArray⟩)] 9), (sb b1 #[(.slice (some ⟨b87, o88, none⟩) x0.length n0_0)] 61)]) => ?_)
    refine RWP.store (ty := 0) (g := none) (by kernel_rfl) rfl (x := (.tmp 14)) (y := (.tmp 39)) (t := 71) (gg := true) (s := 7) (v := (.agg #[(.string ⟨(x83.Text).toArray⟩), (vi x83.Country), (vi x83.Zone), (vi x83.Continent), (vi x83.From), (vi x83.To), (.bool x83.Whole)])) (b := b97) (o := 0) (C := #[(.string ⟨(([] : List UInt8)).toArray⟩), (vi 0), (vi 0), (vi 0), (vi 0), (vi 0), (.bool false)]) rfl rfl (by kernel_rfl) hs99 (k := 0) rfl rfl rfl rfl (C' := #[(.string ⟨(x83.Text).toArray⟩), (vi x83.Country), (vi x83.Zone), (vi x83.Continent), (vi x83.From), (vi x83.To), (.bool x83.Whole)]) rfl (fun w100 (hs101 : HS w0 F0 w100 F3 [(sb b97 #[(.string ⟨(x83.Text).toArray⟩), (vi x83.Country), (vi x83.Zone), (vi x83.Continent), (vi x83.From), (vi x83.To), (.bool x83.Whole)] 71), es54_0, (sb b44 #[(.func (.func 102) #[] #[(.pointer (some ⟨b39, 0, none⟩)), (.pointer (some ⟨b1, 0, none⟩)), (.pointer (some ⟨b4, 0, none⟩)), (.pointer (some ⟨b21, 0, none⟩))])] 125), (sb b39 #[(.map or31_0_0)] 116), (sb b21 #[(vi r13.1)] 3), (sb b10 #[(vi 0), (vi 0)] 74), (sb b7 #[(vi x2)] 3), (sb b4 #[(.string ⟨(x1).toArray⟩)] 9), (sb b1 #[(.slice (some ⟨b87, o88, none⟩) x0.length n0_0)] 61)]) => ?_)
    refine Nt ?_
    refine Rg [0, 1, 2, 3, 4, 5, 6, 7, 8] ?_
    refine V 40 77 (mv 12 (.slice as54_0 s54.1.length ns54_0) e62) ?_
    refine V 41 0 (fa 71 14 4 4 1 b97 0 4) ?_
    refine V 42 3 (ld 3 41 b97 4 false 1 (vi x83.From) (hs101.ownAt (k := 0) rfl)) ?_
    refine V 43 0 (fa 71 14 5 5 1 b97 0 5) ?_
    refine V 44 3 (ld 3 43 b97 5 false 1 (vi x83.To) (hs101.ownAt (k := 0) rfl)) ?_
    refine V 45 3 (run_add (t := 3) (t' := 3) (x := (.tmp 44)) (y := (.const (vi 1))) (k := .i64) (a := x83.To) (b := 1) rfl rfl) ?_
    refine RWP.buildSlice (dst := (some 46)) (ty := 77) (g := none) (by kernel_rfl) rfl (t := 77) (len := 2) (parts := #[(0, (.tmp 42)), (1, (.tmp 45))]) (vs := [(0, (vi x83.From)), (1, (vi (W64 (x83.To + 1))))]) (rfl) (E := 3) (cs := [(vi x83.From), (vi (W64 (x83.To + 1)))]) (by kernel_rfl) hs101 (fun b102 w103 (hs104 : HS w0 F0 w103 F3 [(some b102, .cells ([(vi x83.From), (vi (W64 (x83.To + 1)))] : List Value).toArray 3 (0, 0)), (sb b97 #[(.string ⟨(x83.Text).toArray⟩), (vi x83.Country), (vi x83.Zone), (vi x83.Continent), (vi x83.From), (vi x83.To), (.bool x83.Whole)] 71), es54_0, (sb b44 #[(.func (.func 102) #[] #[(.pointer (some ⟨b39, 0, none⟩)), (.pointer (some ⟨b1, 0, none⟩)), (.pointer (some ⟨b4, 0, none⟩)), (.pointer (some ⟨b21, 0, none⟩))])] 125), (sb b39 #[(.map or31_0_0)] 116), (sb b21 #[(vi r13.1)] 3), (sb b10 #[(vi 0), (vi 0)] 74), (sb b7 #[(vi x2)] 3), (sb b4 #[(.string ⟨(x1).toArray⟩)] 9), (sb b1 #[(.slice (some ⟨b87, o88, none⟩) x0.length n0_0)] 61)]) => ?_)
    have hr106 : RowR tInt 3 F3 (some ⟨b102, 0, none⟩) 2 [x83.From, (W64 (x83.To + 1))] (some b102, .cells ([(vi x83.From), (vi (W64 (x83.To + 1)))] : List Value).toArray 3 (0, 0)) := RowR.lit ⟨rfl, ⟨rfl, rfl⟩⟩ (by simp)
    obtain ⟨r107, hap108, h109⟩ := bind_some h86
    refine RWP.append (dst := (some 47)) (ty := 77) (g := none) (by kernel_rfl) rfl (x := (.tmp 40)) (y := (.tmp 46)) (t := 77) (t2 := 77) (by_ := 8) (z := (vi 0)) (a2 := (some ⟨b102, 0, none⟩)) (c2 := 2) (m := [x83.From, (W64 (x83.To + 1))]) (T := tInt) (E := 3) (a := as54_0) (cap := ns54_0) (l := s54.1) rfl rfl (by kernel_rfl) (by decide) (by kernel_rfl) (by kernel_rfl) rfl oInt hs104 (k := 2) rfl hrs54_0 (RowR.rd hs104 (k := 0) rfl hr106) (r := r107) hap108 (fun a110 n111 e112 w113 (hs114 : HS w0 F0 w113 F3 [(some b102, .cells ([(vi x83.From), (vi (W64 (x83.To + 1)))] : List Value).toArray 3 (0, 0)), (sb b97 #[(.string ⟨(x83.Text).toArray⟩), (vi x83.Country), (vi x83.Zone), (vi x83.Continent), (vi x83.From), (vi x83.To), (.bool x83.Whole)] 71), e112, (sb b44 #[(.func (.func 102) #[] #[(.pointer (some ⟨b39, 0, none⟩)), (.pointer (some ⟨b1, 0, none⟩)), (.pointer (some ⟨b4, 0, none⟩)), (.pointer (some ⟨b21, 0, none⟩))])] 125), (sb b39 #[(.map or31_0_0)] 116), (sb b21 #[(vi r13.1)] 3), (sb b10 #[(vi 0), (vi 0)] 74), (sb b7 #[(vi x2)] 3), (sb b4 #[(.string ⟨(x1).toArray⟩)] 9), (sb b1 #[(.slice (some ⟨b87, o88, none⟩) x0.length n0_0)] 61)]) hr115 => ?_)
    refine V 12 77 (ma 47 (.slice a110 r107.length n111)) ?_
    refine RWP.nil ?_
    refine blockQ_nrm ?_
    refine thenQ_nrm ?_
    refine Rg [0, 1] ?_
    refine V 48 3 (run_add (t := 3) (t' := 3) (x := (.tmp 36)) (y := (.const (vi 1))) (k := .i64) (a := s54.2) (b := 1) e65 rfl) ?_
    refine V 36 3 (mv 48 (vi (W64 (s54.2 + 1)))) ?_
    refine RWP.nil ?_
    have hs116 : HS w0 F0 w113 F3 [(sb b97 #[(.string ⟨(x83.Text).toArray⟩), (vi x83.Country), (vi x83.Zone), (vi x83.Continent), (vi x83.From), (vi x83.To), (.bool x83.Whole)] 71), e112, (sb b44 #[(.func (.func 102) #[] #[(.pointer (some ⟨b39, 0, none⟩)), (.pointer (some ⟨b1, 0, none⟩)), (.pointer (some ⟨b4, 0, none⟩)), (.pointer (some ⟨b21, 0, none⟩))])] 125), (sb b39 #[(.map or31_0_0)] 116), (sb b21 #[(vi r13.1)] 3), (sb b10 #[(vi 0), (vi 0)] 74), (sb b7 #[(vi x2)] 3), (sb b4 #[(.string ⟨(x1).toArray⟩)] 9), (sb b1 #[(.slice (some ⟨b87, o88, none⟩) x0.length n0_0)] 61)] := hs114.drop 0
    have hs117 : HS w0 F0 w113 F3 [e112, (sb b44 #[(.func (.func 102) #[] #[(.pointer (some ⟨b39, 0, none⟩)), (.pointer (some ⟨b1, 0, none⟩)), (.pointer (some ⟨b4, 0, none⟩)), (.pointer (some ⟨b21, 0, none⟩))])] 125), (sb b39 #[(.map or31_0_0)] 116), (sb b21 #[(vi r13.1)] 3), (sb b10 #[(vi 0), (vi 0)] 74), (sb b7 #[(vi x2)] 3), (sb b4 #[(.string ⟨(x1).toArray⟩)] 9), (sb b1 #[(.slice (some ⟨b87, o88, none⟩) x0.length n0_0)] 61)] := hs116.drop 0
    have hn118 := iter_next h109 hnx80
    exact ⟨m77, Nat.lt_succ_self _, (r107, (W64 (s54.2 + 1))), F3, a110, n111, e112, hn118, hs117, le57, e58, e59, e60, e61, rfl, e63, e64, rfl, hr115⟩
   ·have h119 := cond_f hb79 hb81
    refine CWP.exit (by kernel_rfl) ?_
    refine thenQ_ex ?_
    refine thenQ_ex ?_
    refine blockQ_hit rfl ?_
    have ho120 := iter_done h119 hnx80
    exact .inl ⟨rfl, (s54.1, s54.2), F3, as54_0, ns54_0, es54_0, ho120, hs56, le57, e58, e59, e60, e61, e62, hrs54_0⟩
  ·rintro f w67 ⟨s66, F4, as66_0, ns66_0, es66_0, rfl, hs68, le69, e70, e71, e72, e73, e74, hrs66_0⟩
   have h121 := k_done h53
   refine thenQ_nrm ?_
   refine Sq (Rg [0, 1] ?_)
   refine V 49 77 (mv 12 (.slice as66_0 s66.1.length ns66_0) e74) ?_
   obtain ⟨r122, hr123, h124⟩ := bind_some h121
   refine RWP.callS (dst := (some 50)) (ty := 0) (g := none) (by kernel_rfl) rfl (f0 := (.func 103)) (aos := #[(.tmp 49)]) (ats := #[77]) (fid := 103) (first := #[]) (cap := #[]) (args := [(.slice as66_0 s66.1.length ns66_0)]) rfl co_slices_Sort_int_int (rfl) (c_slices_Sort_int_int N (Lf := [(sb b44 #[(.func (.func 102) #[] #[(.pointer (some ⟨b39, 0, none⟩)), (.pointer (some ⟨b1, 0, none⟩)), (.pointer (some ⟨b4, 0, none⟩)), (.pointer (some ⟨b21, 0, none⟩))])] 125), (sb b39 #[(.map or31_0_0)] 116), (sb b21 #[(vi r13.1)] 3), (sb b10 #[(vi 0), (vi 0)] 74), (sb b7 #[(vi x2)] 3), (sb b4 #[(.string ⟨(x1).toArray⟩)] 9), (sb b1 #[(.slice a0_0 x0.length n0_0)] 61)]) s66.1 as66_0 ns66_0 es66_0 hrs66_0 hs68  _ hr123) ?_
   rintro _ w126 ⟨F5, e125, rfl, hs127, le128, hr129⟩
   refine ⟨_, rfl, ?_⟩
   have hs130 : HS w0 F0 w126 F5 [e125, (sb b44 #[(.func (.func 102) #[] #[(.pointer (some ⟨b39, 0, none⟩)), (.pointer (some ⟨b1, 0, none⟩)), (.pointer (some ⟨b4, 0, none⟩)), (.pointer (some ⟨b21, 0, none⟩))])] 125), (sb b39 #[(.map or31_0_0)] 116), (sb b21 #[(vi r13.1)] 3), (sb b10 #[(vi 0), (vi 0)] 74), (sb b7 #[(vi x2)] 3), (sb b4 #[(.string ⟨(x1).toArray⟩)] 9), (sb b1 #[(.slice a0_0 x0.length n0_0)] 61)] := hs127
   refine Nss (Rg [0, 1, 2] ?_)
   refine V 51 77 (mv 12 (.slice as66_0 r122.length ns66_0) (len_eq e74 (ml_slices_Sort_int_int hr123))) ?_
   obtain ⟨r131, hr132, h133⟩ := bind_some h124
   refine RWP.callS (dst := (some 52)) (ty := 77) (g := none) (by kernel_rfl) rfl (f0 := (.func 104)) (aos := #[(.tmp 51)]) (ats := #[77]) (fid := 104) (first := #[]) (cap := #[]) (args := [(.slice as66_0 r122.length ns66_0)]) rfl co_slices_Compact_int_int (rfl) (c_slices_Compact_int_int N (Lf := [(sb b44 #[(.func (.func 102) #[] #[(.pointer (some ⟨b39, 0, none⟩)), (.pointer (some ⟨b1, 0, none⟩)), (.pointer (some ⟨b4, 0, none⟩)), (.pointer (some ⟨b21, 0, none⟩))])] 125), (sb b39 #[(.map or31_0_0)] 116), (sb b21 #[(vi r13.1)] 3), (sb b10 #[(vi 0), (vi 0)] 74), (sb b7 #[(vi x2)] 3), (sb b4 #[(.string ⟨(x1).toArray⟩)] 9), (sb b1 #[(.slice a0_0 x0.length n0_0)] 61)]) r122 as66_0 ns66_0 e125 hr129 hs130  _ hr132) ?_
   rintro _ w135 ⟨F6, e134, rfl, hs136, le137, hr138⟩
   refine ⟨_, rfl, ?_⟩
   have hs139 : HS w0 F0 w135 F6 [e134, (sb b44 #[(.func (.func 102) #[] #[(.pointer (some ⟨b39, 0, none⟩)), (.pointer (some ⟨b1, 0, none⟩)), (.pointer (some ⟨b4, 0, none⟩)), (.pointer (some ⟨b21, 0, none⟩))])] 125), (sb b39 #[(.map or31_0_0)] 116), (sb b21 #[(vi r13.1)] 3), (sb b10 #[(vi 0), (vi 0)] 74), (sb b7 #[(vi x2)] 3), (sb b4 #[(.string ⟨(x1).toArray⟩)] 9), (sb b1 #[(.slice a0_0 x0.length n0_0)] 61)] := hs136
   refine V 12 77 (ma 52 (.slice as66_0 r131.length ns66_0)) ?_
   refine Nss (Rg [0, 1, 2] ?_)
   refine V 53 74 (run_build2 (t := 74) (parts := #[(0, (.const (vi 0))), (1, (.const (vi 99999)))]) (vs := [(0, (vi 0)), (1, (vi 99999))]) (rfl) (cs := [(vi 0), (vi 99999)]) (by kernel_rfl)) ?_
   refine Al 15 0 74 #[(vi 0), (vi 0)] hs139 (fun b140 w141 (hs142 : HS w0 F0 w141 F6 [(sb b140 #[(vi 0), (vi 0)] 74), e134, (sb b44 #[(.func (.func 102) #[] #[(.pointer (some ⟨b39, 0, none⟩)), (.pointer (some ⟨b1, 0, none⟩)), (.pointer (some ⟨b4, 0, none⟩)), (.pointer (some ⟨b21, 0, none⟩))])] 125), (sb b39 #[(.map or31_0_0)] 116), (sb b21 #[(vi r13.1)] 3), (sb b10 #[(vi 0), (vi 0)] 74), (sb b7 #[(vi x2)] 3), (sb b4 #[(.string ⟨(x1).toArray⟩)] 9), (sb b1 #[(.slice a0_0 x0.length n0_0)] 61)]) => ?_)
   refine RWP.store (ty := 0) (g := none) (by kernel_rfl) rfl (x := (.tmp 15)) (y := (.tmp 53)) (t := 74) (gg := true) (s := 2) (v := (.agg #[(vi 0), (vi 99999)])) (b := b140) (o := 0) (C := #[(vi 0), (vi 0)]) rfl rfl (by kernel_rfl) hs142 (k := 0) rfl rfl rfl rfl (C' := #[(vi 0), (vi 99999)]) rfl (fun w143 (hs144 : HS w0 F0 w143 F6 [(sb b140 #[(vi 0), (vi 99999)] 74), e134, (sb b44 #[(.func (.func 102) #[] #[(.pointer (some ⟨b39, 0, none⟩)), (.pointer (some ⟨b1, 0, none⟩)), (.pointer (some ⟨b4, 0, none⟩)), (.pointer (some ⟨b21, 0, none⟩))])] 125), (sb b39 #[(.map or31_0_0)] 116), (sb b21 #[(vi r13.1)] 3), (sb b10 #[(vi 0), (vi 0)] 74), (sb b7 #[(vi x2)] 3), (sb b4 #[(.string ⟨(x1).toArray⟩)] 9), (sb b1 #[(.slice a0_0 x0.length n0_0)] 61)]) => ?_)
   refine Nss ?_
   refine Sq (Rg [0, 1] ?_)
   refine V 54 77 (mv 12 (.slice as66_0 r131.length ns66_0)) ?_
   have hb148 := RowR.bound hr138
   obtain ⟨F7, hs145, le146, hs147⟩ : ∃ Fq, HS w0 F0 w143 Fq [(sb b140 #[(vi 0), (vi 99999)] 74), (sb b44 #[(.func (.func 102) #[] #[(.pointer (some ⟨b39, 0, none⟩)), (.pointer (some ⟨b1, 0, none⟩)), (.pointer (some ⟨b4, 0, none⟩)), (.pointer (some ⟨b21, 0, none⟩))])] 125), (sb b39 #[(.map or31_0_0)] 116), (sb b21 #[(vi r13.1)] 3), (sb b10 #[(vi 0), (vi 0)] 74), (sb b7 #[(vi x2)] 3), (sb b4 #[(.string ⟨(x1).toArray⟩)] 9), (sb b1 #[(.slice a0_0 x0.length n0_0)] 61)] ∧ Mem.le F6 Fq ∧ SlA tInt Fq as66_0 r131 := HS.freezeRow hs144 (k := 1) rfl hr138
   refine RWP.callO (dst := (some 55)) (ty := 129) (g := none) (by kernel_rfl) rfl (f0 := (.func 105)) (aos := #[(.tmp 54)]) (ats := #[77]) (fid := 105) (first := #[]) (cap := #[]) (args := [(.slice as66_0 r131.length ns66_0)]) rfl co_slices_Backward_int_int (rfl) hs145 (c_slices_Backward_int_int w143 F7 hs145.pers (r131) as66_0 ns66_0 hb148 hs147) ?_
   rintro _ F8 w150 _ hs151 le152 ⟨b149, rfl, rfl⟩
   have hs153 : HS w0 F0 w150 F8 [(sb b149 #[(.slice as66_0 r131.length ns66_0)] 77), (sb b140 #[(vi 0), (vi 99999)] 74), (sb b44 #[(.func (.func 102) #[] #[(.pointer (some ⟨b39, 0, none⟩)), (.pointer (some ⟨b1, 0, none⟩)), (.pointer (some ⟨b4, 0, none⟩)), (.pointer (some ⟨b21, 0, none⟩))])] 125), (sb b39 #[(.map or31_0_0)] 116), (sb b21 #[(vi r13.1)] 3), (sb b10 #[(vi 0), (vi 0)] 74), (sb b7 #[(vi x2)] 3), (sb b4 #[(.string ⟨(x1).toArray⟩)] 9), (sb b1 #[(.slice a0_0 x0.length n0_0)] 61)] := hs151
   refine Nt ?_
   obtain ⟨F9, hs154, le155, hF156⟩ : ∃ Fq, HS w0 F0 w150 Fq [(sb b149 #[(.slice as66_0 r131.length ns66_0)] 77), (sb b140 #[(vi 0), (vi 99999)] 74), (sb b44 #[(.func (.func 102) #[] #[(.pointer (some ⟨b39, 0, none⟩)), (.pointer (some ⟨b1, 0, none⟩)), (.pointer (some ⟨b4, 0, none⟩)), (.pointer (some ⟨b21, 0, none⟩))])] 125), (sb b21 #[(vi r13.1)] 3), (sb b10 #[(vi 0), (vi 0)] 74), (sb b7 #[(vi x2)] 3), (sb b4 #[(.string ⟨(x1).toArray⟩)] 9), (sb b1 #[(.slice a0_0 x0.length n0_0)] 61)] ∧ Mem.le F8 Fq ∧ Fq b39 = some (oc #[(.map or31_0_0)] 116) := HS.freezeC hs153 (k := 3) rfl
   obtain ⟨F10, hs157, le158, hF159⟩ : ∃ Fq, HS w0 F0 w150 Fq [(sb b149 #[(.slice as66_0 r131.length ns66_0)] 77), (sb b140 #[(vi 0), (vi 99999)] 74), (sb b44 #[(.func (.func 102) #[] #[(.pointer (some ⟨b39, 0, none⟩)), (.pointer (some ⟨b1, 0, none⟩)), (.pointer (some ⟨b4, 0, none⟩)), (.pointer (some ⟨b21, 0, none⟩))])] 125), (sb b10 #[(vi 0), (vi 0)] 74), (sb b7 #[(vi x2)] 3), (sb b4 #[(.string ⟨(x1).toArray⟩)] 9), (sb b1 #[(.slice a0_0 x0.length n0_0)] 61)] ∧ Mem.le F9 Fq ∧ Fq b21 = some (oc #[(vi r13.1)] 3) := HS.freezeC hs154 (k := 3) rfl
   obtain ⟨F11, hs160, le161, hF162⟩ : ∃ Fq, HS w0 F0 w150 Fq [(sb b149 #[(.slice as66_0 r131.length ns66_0)] 77), (sb b140 #[(vi 0), (vi 99999)] 74), (sb b44 #[(.func (.func 102) #[] #[(.pointer (some ⟨b39, 0, none⟩)), (.pointer (some ⟨b1, 0, none⟩)), (.pointer (some ⟨b4, 0, none⟩)), (.pointer (some ⟨b21, 0, none⟩))])] 125), (sb b10 #[(vi 0), (vi 0)] 74), (sb b7 #[(vi x2)] 3), (sb b1 #[(.slice a0_0 x0.length n0_0)] 61)] ∧ Mem.le F10 Fq ∧ Fq b4 = some (oc #[(.string ⟨(x1).toArray⟩)] 9) := HS.freezeC hs157 (k := 5) rfl
   obtain ⟨F12, hs163, le164, hF165⟩ : ∃ Fq, HS w0 F0 w150 Fq [(sb b149 #[(.slice as66_0 r131.length ns66_0)] 77), (sb b140 #[(vi 0), (vi 99999)] 74), (sb b44 #[(.func (.func 102) #[] #[(.pointer (some ⟨b39, 0, none⟩)), (.pointer (some ⟨b1, 0, none⟩)), (.pointer (some ⟨b4, 0, none⟩)), (.pointer (some ⟨b21, 0, none⟩))])] 125), (sb b10 #[(vi 0), (vi 0)] 74), (sb b7 #[(vi x2)] 3)] ∧ Mem.le F11 Fq ∧ Fq b1 = some (oc #[(.slice a0_0 x0.length n0_0)] 61) := HS.freezeC hs160 (k := 5) rfl
   obtain ⟨r174, hr175, h176⟩ := bind_some h133
   refine CWP.blockRange (enc := enc156) (ok := ok156) (px := px156) (m := fun {_} y s => slices_Backward_int_int_1 N y r131 s) (L := [(sb b140 #[(vi 0), (vi 99999)] 74), (sb b44 #[(.func (.func 102) #[] #[(.pointer (some ⟨b39, 0, none⟩)), (.pointer (some ⟨b1, 0, none⟩)), (.pointer (some ⟨b4, 0, none⟩)), (.pointer (some ⟨b21, 0, none⟩))])] 125), (sb b10 #[(vi 0), (vi 0)] 74), (sb b7 #[(vi x2)] 3)]) (B := [(sb b149 #[(.slice as66_0 r131.length ns66_0)] 77)]) (ps := [56, 57]) (by kernel_rfl) (by kernel_rfl) (gf := 130) (cap := [(.pointer (some ⟨b149, 0, none⟩))]) rfl co_slices_Backward_int_int_1 e70 (by kernel_rfl) (by kernel_rfl) (fun _ => rfl) hs163 (c_slices_Backward_int_int_1 N F12 r131 as66_0 ns66_0 hb148 (SlA.mono hs147 ((((le152.trans le155).trans le158).trans le161).trans le164)) b149) (air_Since_L1 N x0 x1 x2 r13 r31 s66 r122 r131) (fun (s166 : Int) (F13 : Mem) (Lq : Own) => Lq = [(sb b140 #[(vi s166), (vi 99999)] 74), (sb b44 #[(.func (.func 102) #[] #[(.pointer (some ⟨b39, 0, none⟩)), (.pointer (some ⟨b1, 0, none⟩)), (.pointer (some ⟨b4, 0, none⟩)), (.pointer (some ⟨b21, 0, none⟩))])] 125), (sb b10 #[(vi 0), (vi 0)] 74), (sb b7 #[(vi x2)] 3)]) ?_ (s := 0) (r := r174) ?_ hr175 ?_ ?_
   ·rintro s F F' L rfl hl
    exact rfl
   ·exact rfl
   ·rintro l177 s166 x179 w180 F13 _ Rf182 q183 le184 ok185 rfl hs186 hy187
    have h188 := hy187
    have hs189 : HS w0 F0 w180 F13 ((sb b140 #[(vi s166), (vi 99999)] 74) :: (sb b44 #[(.func (.func 102) #[] #[(.pointer (some ⟨b39, 0, none⟩)), (.pointer (some ⟨b1, 0, none⟩)), (.pointer (some ⟨b4, 0, none⟩)), (.pointer (some ⟨b21, 0, none⟩))])] 125) :: (sb b10 #[(vi 0), (vi 0)] 74) :: (sb b7 #[(vi x2)] 3) :: Rf182) := hs186
    refine Rg [0] ?_
    refine V 17 3 (ma 57 (vi x179.2)) ?_
    refine RWP.nil ?_
    refine ⟨rfl, F13, [(sb b140 #[(vi s166), (vi 99999)] 74), (sb b44 #[(.func (.func 102) #[] #[(.pointer (some ⟨b39, 0, none⟩)), (.pointer (some ⟨b1, 0, none⟩)), (.pointer (some ⟨b4, 0, none⟩)), (.pointer (some ⟨b21, 0, none⟩))])] 125), (sb b10 #[(vi 0), (vi 0)] 74), (sb b7 #[(vi x2)] 3)], hs189, fun w190 Rf191 hs192 => ?_⟩
    have hs193 : HS w0 F0 w190 F13 ((sb b140 #[(vi s166), (vi 99999)] 74) :: (sb b44 #[(.func (.func 102) #[] #[(.pointer (some ⟨b39, 0, none⟩)), (.pointer (some ⟨b1, 0, none⟩)), (.pointer (some ⟨b4, 0, none⟩)), (.pointer (some ⟨b21, 0, none⟩))])] 125) :: (sb b10 #[(vi 0), (vi 0)] 74) :: (sb b7 #[(vi x2)] 3) :: Rf191) := hs192
    refine Bk ?_
    refine Sq (Rg [0, 1, 2, 3, 4, 5, 6, 7, 8, 9] ?_)
    obtain ⟨j197, hj205, h206⟩ := bind_some h188
    refine RWP.cut (fun f w => ∃ (F15 : Mem), HS w0 F0 w F15 ((sb b140 #[(vi s166), (vi 99999)] 74) :: (sb b44 #[(.func (.func 102) #[] #[(.pointer (some ⟨b39, 0, none⟩)), (.pointer (some ⟨b1, 0, none⟩)), (.pointer (some ⟨b4, 0, none⟩)), (.pointer (some ⟨b21, 0, none⟩))])] 125) :: (sb b10 #[(vi 0), (vi 0)] 74) :: (sb b7 #[(vi x2)] 3) :: Rf191) ∧ Mem.le F13 F15 ∧ f.d = [] ∧ f 5 = (.pointer (some ⟨b7, 0, none⟩)) ∧ f 6 = (.pointer (some ⟨b10, 0, none⟩)) ∧ f 11 = (.pointer (some ⟨b44, 0, none⟩)) ∧ f 15 = (.pointer (some ⟨b140, 0, none⟩)) ∧ f 17 = (vi x179.2) ∧ f 67 = (.bool j197)) ?_ ?_
    ·refine V 58 3 (mv 17 (vi x179.2)) ?_
     refine V 59 3 (ld 3 5 b7 0 false 1 (vi x2) (hs193.ownAt (k := 3) rfl) e71) ?_
     refine V 60 4 (run_leq (t := 3) (t' := 3) (x := (.tmp 58)) (y := (.tmp 59)) (k := .i64) (a := x179.2) (b := x2) rfl rfl) ?_
     refine V 61 4 (mv 60 (.bool (decide (x179.2 ≤ x2)))) ?_
     refine RWP.split (decide (x179.2 ≤ x2)) (fun hb207 => ?_) (fun hb207 => ?_)
     ·have h208 := cond_t hj205 hb207
      refine Vg 62 125 3 true 61 hb207 (ld 125 11 b44 0 false 1 (.func (.func 102) #[] #[(.pointer (some ⟨b39, 0, none⟩)), (.pointer (some ⟨b1, 0, none⟩)), (.pointer (some ⟨b4, 0, none⟩)), (.pointer (some ⟨b21, 0, none⟩))]) (hs193.ownAt (k := 1) rfl) e73) ?_
      refine Vg 63 3 3 true 61 hb207 (mv 17 (vi x179.2)) ?_
      refine Vg 64 3 3 true 61 hb207 (run_sub (t := 3) (t' := 3) (x := (.tmp 63)) (y := (.const (vi 1))) (k := .i64) (a := x179.2) (b := 1) rfl rfl) ?_
      obtain ⟨r209, hr210, h211⟩ := bind_some h208
      refine RWP.call (dst := (some 65)) (ty := 4) (g := (some (3, true))) (by kernel_rfl) (gd_y (d := 61) (by kernel_rfl) rfl hb207) (f0 := (.tmp 62)) (aos := #[(.tmp 64)]) (ats := #[3]) (fid := 102) (first := #[]) (cap := #[(.pointer (some ⟨b39, 0, none⟩)), (.pointer (some ⟨b1, 0, none⟩)), (.pointer (some ⟨b4, 0, none⟩)), (.pointer (some ⟨b21, 0, none⟩))]) (args := [(vi (W64 (x179.2 - 1))), (.pointer (some ⟨b39, 0, none⟩)), (.pointer (some ⟨b1, 0, none⟩)), (.pointer (some ⟨b4, 0, none⟩)), (.pointer (some ⟨b21, 0, none⟩))]) rfl co_air_Since_1 (rfl) hs193 (c_air_Since_1 N w190 F13 hs193.pers (hG.mono (((((((((((le19.trans le37).trans le69).trans le128).trans le137).trans le146).trans le152).trans le155).trans le158).trans le161).trans le164).trans le184)) ((W64 (x179.2 - 1))) b39 r31 or31_0_0 (MpA.mono hmr31_0_0 (((((((((le69.trans le128).trans le137).trans le146).trans le152).trans le155).trans le158).trans le161).trans le164).trans le184)) ((((le158.trans le161).trans le164).trans le184) _ _ hF156) b1 x0 a0_0 n0_0 hb0_0 (SlA.mono hs0_0 (((((((((((le19.trans le37).trans le69).trans le128).trans le137).trans le146).trans le152).trans le155).trans le158).trans le161).trans le164).trans le184)) (le184 _ _ hF165) b4 x1 ((le164.trans le184) _ _ hF162) b21 r13.1 (((le161.trans le164).trans le184) _ _ hF159) _ hr210) ?_
      intro v212 F16 w213 hs214 le215 hp216
      obtain rfl := hp216
      refine Vg 66 4 3 true 61 hb207 (run_not (t := 4) (x := (.tmp 65)) (a := r209) rfl) ?_
      refine V 67 4 (p1 61 (.tmp 66) (.const (.bool false)) (.bool (!r209)) hb207) ?_
      obtain rfl := some_inj h211
      exact RWP.nil ⟨rfl, F16, hs214, le215, e70, e71, e72, e73, rfl, rfl, rfl⟩
     ·have h217 := cond_f hj205 hb207
      refine Sk [62, 63, 64, 65, 66] 3 true 61 hb207 ?_
      refine V 67 4 (p0 61 (.tmp 66) (.const (.bool false)) (.bool false) hb207) ?_
      obtain rfl := some_inj h217
      exact RWP.nil ⟨rfl, F13, hs193, (Mem.le.refl _), e70, e71, e72, e73, rfl, rfl, rfl⟩
    ·rintro f w194 ⟨F15, hs195, le196, e198, e199, e200, e201, e202, e203, e204⟩
     refine thenQ_nrm ?_
     refine CWP.cond (t := j197) (by kernel_rfl) e204 (fun hb218 => ?_) (fun hb218 => ?_)
     ·have h219 := cond_t h206 hb218
      refine Sq (Rg [0, 1, 2] ?_)
      refine V 68 3 (mv 17 (vi x179.2) e203) ?_
      refine V 69 0 (fa 74 15 0 0 1 b140 0 0 e202) ?_
      refine RWP.store (ty := 0) (g := none) (by kernel_rfl) rfl (x := (.tmp 69)) (y := (.tmp 68)) (t := 3) (gg := false) (s := 1) (v := (vi x179.2)) (b := b140) (o := 0) (C := #[(vi s166), (vi 99999)]) rfl rfl (by kernel_rfl) hs195 (k := 0) rfl rfl rfl rfl (C' := #[(vi x179.2), (vi 99999)]) rfl (fun w220 (hs221 : HS w0 F0 w220 F15 ((sb b140 #[(vi x179.2), (vi 99999)] 74) :: (sb b44 #[(.func (.func 102) #[] #[(.pointer (some ⟨b39, 0, none⟩)), (.pointer (some ⟨b1, 0, none⟩)), (.pointer (some ⟨b4, 0, none⟩)), (.pointer (some ⟨b21, 0, none⟩))])] 125) :: (sb b10 #[(vi 0), (vi 0)] 74) :: (sb b7 #[(vi x2)] 3) :: Rf191)) => ?_)
      refine Nt ?_
      refine CWP.exit (by kernel_rfl) ?_
      refine blockQ_miss (by decide) ?_
      obtain rfl := some_inj h219
      exact ⟨.inr ⟨rfl, rfl⟩, F15, [(sb b140 #[(vi x179.2), (vi 99999)] 74), (sb b44 #[(.func (.func 102) #[] #[(.pointer (some ⟨b39, 0, none⟩)), (.pointer (some ⟨b1, 0, none⟩)), (.pointer (some ⟨b4, 0, none⟩)), (.pointer (some ⟨b21, 0, none⟩))])] 125), (sb b10 #[(vi 0), (vi 0)] 74), (sb b7 #[(vi x2)] 3)], hs221, le196, rfl⟩
     ·have h223 := cond_f h206 hb218
      refine Sc ?_
      refine blockQ_nrm ?_
      obtain rfl := some_inj h223
      exact ⟨.inl ⟨rfl, rfl⟩, F15, [(sb b140 #[(vi s166), (vi 99999)] 74), (sb b44 #[(.func (.func 102) #[] #[(.pointer (some ⟨b39, 0, none⟩)), (.pointer (some ⟨b1, 0, none⟩)), (.pointer (some ⟨b4, 0, none⟩)), (.pointer (some ⟨b21, 0, none⟩))])] 125), (sb b10 #[(vi 0), (vi 0)] 74), (sb b7 #[(vi x2)] 3)], hs195, le196, rfl⟩
   ·rintro D225 w226 F14 _ hs227 le228 rfl
    have hs229 : HS w0 F0 w226 F14 [(some D225, (.deferred (some []))), (sb b140 #[(vi r174.1), (vi 99999)] 74), (sb b44 #[(.func (.func 102) #[] #[(.pointer (some ⟨b39, 0, none⟩)), (.pointer (some ⟨b1, 0, none⟩)), (.pointer (some ⟨b4, 0, none⟩)), (.pointer (some ⟨b21, 0, none⟩))])] 125), (sb b10 #[(vi 0), (vi 0)] 74), (sb b7 #[(vi x2)] 3)] := hs227
    refine thenQ_nrm ?_
    refine Sq ?_
    refine Sq (Rg [0, 1, 2] ?_)
    refine V 70 77 (mv 12 (.slice as66_0 r131.length ns66_0)) ?_
    refine V 71 3 (ln 70 77 as66_0 r131.length ns66_0 3 1 8) ?_
    refine V 72 3 (run_move (x := (.const (vi 0))) (v := (vi 0)) rfl) ?_
    refine Nt ?_
    obtain ⟨o230, ho231, h232⟩ := bind_some h176
    refine CWP.cut (fun f w => ∃ (s245 : (Int × Int)) (F18 : Mem), o230 = .done s245 ∧ HS w0 F0 w F18 [(some D225, (.deferred (some []))), (sb b140 #[(vi r174.1), (vi s245.2)] 74), (sb b10 #[(vi 0), (vi 0)] 74)] ∧ Mem.le F14 F18 ∧ f.d = [{ target := .collected D225, args := #[] }] ∧ f 6 = (.pointer (some ⟨b10, 0, none⟩)) ∧ f 15 = (.pointer (some ⟨b140, 0, none⟩))) ?_ ?_
    ·refine Bk ?_
     refine CWP.loop (by kernel_rfl) (fun m f w => ∃ (s233 : (Int × Int)) (F17 : Mem), iter (air_Since_L2 N x0 x1 x2 r13 r31 s66 r122 r131 r174) m s233 = some o230 ∧ HS w0 F0 w F17 [(some D225, (.deferred (some []))), (sb b140 #[(vi r174.1), (vi s233.2)] 74), (sb b44 #[(.func (.func 102) #[] #[(.pointer (some ⟨b39, 0, none⟩)), (.pointer (some ⟨b1, 0, none⟩)), (.pointer (some ⟨b4, 0, none⟩)), (.pointer (some ⟨b21, 0, none⟩))])] 125), (sb b10 #[(vi 0), (vi 0)] 74), (sb b7 #[(vi x2)] 3)] ∧ Mem.le F14 F17 ∧ f.d = [{ target := .collected D225, args := #[] }] ∧ f 5 = (.pointer (some ⟨b7, 0, none⟩)) ∧ f 6 = (.pointer (some ⟨b10, 0, none⟩)) ∧ f 11 = (.pointer (some ⟨b44, 0, none⟩)) ∧ f 15 = (.pointer (some ⟨b140, 0, none⟩)) ∧ f 70 = (.slice as66_0 r131.length ns66_0) ∧ f 71 = (vi (r131.length : Int)) ∧ f 72 = (vi s233.1)) N ⟨(0, 99999), F14, ho231, hs229, (Mem.le.refl _), rfl, e71, e72, e73, rfl, rfl, rfl, rfl⟩ ?_
     rintro m252 f w234 ⟨s233, F17, hit253, hs235, le236, e237, e238, e239, e240, e241, e242, e243, e244⟩
     obtain ⟨m254, fl255, rfl, hb256, hnx257⟩ := iter_step hit253
     refine Sq (Rg [0] ?_)
     refine V 73 0 (run_lss (t := 3) (t' := 3) (x := (.tmp 72)) (y := (.tmp 71)) (k := .i64) (a := s233.1) (b := (r131.length : Int)) e244 e243) ?_
     refine Nss ?_
     refine CWP.cond (t := (decide (s233.1 < (r131.length : Int)))) (by kernel_rfl) rfl (fun hb258 => ?_) (fun hb258 => ?_)
     ·have h259 := cond_t hb256 hb258
      refine Sc ?_
      refine thenQ_nrm ?_
      refine Sq ?_
      refine Bk ?_
      refine Sq (Rg [0, 1, 2] ?_)
      obtain ⟨x260, hx261, h263⟩ := bind_some h259
      obtain ⟨hi262, hx261'⟩ := idx_spec hx261
      obtain ⟨b264, o265, C266, E267, fz268, rfl, hF270, hE271⟩ := SlA.open (SlA.mono hs147 ((((((le152.trans le155).trans le158).trans le161).trans le164).trans le228).trans le236)) hx261'
      have hc273 := hE271 _ _ hx261'
      refine V 74 0 (run_index (t := 77) (x := (.tmp 70)) (y := (.tmp 72)) (b := b264) (o := o265) (E := 3) (s := 1) (by_ := 8) e242 e244 (by kernel_rfl) hi262) ?_
      refine V 75 3 (lx 3 74 0 1 false 1 (vi x260) (hs235.pers _ _ hF270) hc273) ?_
      refine V 19 3 (ma 75 (vi x260)) ?_
      refine Nss (Rg [0, 1, 2, 3, 4, 5, 6, 7, 8, 9, 10, 11, 12] ?_)
      obtain ⟨j277, hj288, h289⟩ := bind_some h263
      refine RWP.cut (fun f w => ∃ (F19 : Mem), HS w0 F0 w F19 [(some D225, (.deferred (some []))), (sb b140 #[(vi r174.1), (vi s233.2)] 74), (sb b44 #[(.func (.func 102) #[] #[(.pointer (some ⟨b39, 0, none⟩)), (.pointer (some ⟨b1, 0, none⟩)), (.pointer (some ⟨b4, 0, none⟩)), (.pointer (some ⟨b21, 0, none⟩))])] 125), (sb b10 #[(vi 0), (vi 0)] 74), (sb b7 #[(vi x2)] 3)] ∧ Mem.le F17 F19 ∧ f.d = [{ target := .collected D225, args := #[] }] ∧ f 5 = (.pointer (some ⟨b7, 0, none⟩)) ∧ f 6 = (.pointer (some ⟨b10, 0, none⟩)) ∧ f 11 = (.pointer (some ⟨b44, 0, none⟩)) ∧ f 15 = (.pointer (some ⟨b140, 0, none⟩)) ∧ f 19 = (vi x260) ∧ f 70 = (.slice (some ⟨b264, o265, none⟩) r131.length ns66_0) ∧ f 71 = (vi (r131.length : Int)) ∧ f 72 = (vi s233.1) ∧ f 88 = (.bool j277)) ?_ ?_
      ·refine V 76 3 (mv 19 (vi x260)) ?_
       refine V 77 3 (ld 3 5 b7 0 false 1 (vi x2) (hs235.ownAt (k := 4) rfl) e238) ?_
       refine V 78 4 (run_gtr (t := 3) (t' := 3) (x := (.tmp 76)) (y := (.tmp 77)) (k := .i64) (a := x260) (b := x2) rfl rfl) ?_
       refine V 79 4 (mv 78 (.bool (decide (x260 > x2)))) ?_
       refine RWP.split (decide (x260 > x2)) (fun hb290 => ?_) (fun hb290 => ?_)
       ·have h291 := cond_t hj288 hb290
        refine Vg 80 3 3 true 79 hb290 (mv 19 (vi x260)) ?_
        refine Vg 81 4 3 true 79 hb290 (run_leq (t := 3) (t' := 3) (x := (.tmp 80)) (y := (.const (vi 99999))) (k := .i64) (a := x260) (b := 99999) rfl rfl) ?_
        refine V 82 4 (p1 79 (.tmp 81) (.const (.bool false)) (.bool (decide (x260 ≤ 99999))) hb290) ?_
        refine V 83 4 (mv 82 (.bool (decide (x260 ≤ 99999)))) ?_
        refine RWP.split (decide (x260 ≤ 99999)) (fun hb292 => ?_) (fun hb292 => ?_)
        ·have h293 := cond_t h291 hb292
         refine Vg 84 125 7 true 83 hb292 (ld 125 11 b44 0 false 1 (.func (.func 102) #[] #[(.pointer (some ⟨b39, 0, none⟩)), (.pointer (some ⟨b1, 0, none⟩)), (.pointer (some ⟨b4, 0, none⟩)), (.pointer (some ⟨b21, 0, none⟩))]) (hs235.ownAt (k := 2) rfl) e240) ?_
         refine Vg 85 3 7 true 83 hb292 (mv 19 (vi x260)) ?_
         obtain ⟨r294, hr295, h296⟩ := bind_some h293
         refine RWP.call (dst := (some 86)) (ty := 4) (g := (some (7, true))) (by kernel_rfl) (gd_y (d := 83) (by kernel_rfl) rfl hb292) (f0 := (.tmp 84)) (aos := #[(.tmp 85)]) (ats := #[3]) (fid := 102) (first := #[]) (cap := #[(.pointer (some ⟨b39, 0, none⟩)), (.pointer (some ⟨b1, 0, none⟩)), (.pointer (some ⟨b4, 0, none⟩)), (.pointer (some ⟨b21, 0, none⟩))]) (args := [(vi x260), (.pointer (some ⟨b39, 0, none⟩)), (.pointer (some ⟨b1, 0, none⟩)), (.pointer (some ⟨b4, 0, none⟩)), (.pointer (some ⟨b21, 0, none⟩))]) rfl co_air_Since_1 (rfl) hs235 (c_air_Since_1 N w234 F17 hs235.pers (hG.mono ((((((((((((le19.trans le37).trans le69).trans le128).trans le137).trans le146).trans le152).trans le155).trans le158).trans le161).trans le164).trans le228).trans le236)) (x260) b39 r31 or31_0_0 (MpA.mono hmr31_0_0 ((((((((((le69.trans le128).trans le137).trans le146).trans le152).trans le155).trans le158).trans le161).trans le164).trans le228).trans le236)) (((((le158.trans le161).trans le164).trans le228).trans le236) _ _ hF156) b1 x0 a0_0 n0_0 hb0_0 (SlA.mono hs0_0 ((((((((((((le19.trans le37).trans le69).trans le128).trans le137).trans le146).trans le152).trans le155).trans le158).trans le161).trans le164).trans le228).trans le236)) ((le228.trans le236) _ _ hF165) b4 x1 (((le164.trans le228).trans le236) _ _ hF162) b21 r13.1 ((((le161.trans le164).trans le228).trans le236) _ _ hF159) _ hr295) ?_
         intro v297 F20 w298 hs299 le300 hp301
         obtain rfl := hp301
         refine Vg 87 4 7 true 83 hb292 (run_not (t := 4) (x := (.tmp 86)) (a := r294) rfl) ?_
         refine V 88 4 (p1 83 (.tmp 87) (.const (.bool false)) (.bool (!r294)) hb292) ?_
         obtain rfl := some_inj h296
         exact RWP.nil ⟨rfl, F20, hs299, le300, e237, e238, e239, e240, e241, rfl, e242, e243, e244, rfl⟩
        ·have h302 := cond_f h291 hb292
         refine Sk [84, 85, 86, 87] 7 true 83 hb292 ?_
         refine V 88 4 (p0 83 (.tmp 87) (.const (.bool false)) (.bool false) hb292) ?_
         obtain rfl := some_inj h302
         exact RWP.nil ⟨rfl, F17, hs235, (Mem.le.refl _), e237, e238, e239, e240, e241, rfl, e242, e243, e244, rfl⟩
       ·have h303 := cond_f hj288 hb290
        refine Sk [80, 81] 3 true 79 hb290 ?_
        refine V 82 4 (p0 79 (.tmp 81) (.const (.bool false)) (.bool false) hb290) ?_
        refine V 83 4 (mv 82 (.bool false)) ?_
        refine Sk [84, 85, 86, 87] 7 true 83 rfl ?_
        refine V 88 4 (p0 83 (.tmp 87) (.const (.bool false)) (.bool false) rfl) ?_
        obtain rfl := some_inj h303
        exact RWP.nil ⟨rfl, F17, hs235, (Mem.le.refl _), e237, e238, e239, e240, e241, rfl, e242, e243, e244, rfl⟩
      ·rintro f w274 ⟨F19, hs275, le276, e278, e279, e280, e281, e282, e283, e284, e285, e286, e287⟩
       refine thenQ_nrm ?_
       refine CWP.cond (t := j277) (by kernel_rfl) e287 (fun hb304 => ?_) (fun hb304 => ?_)
       ·have h305 := cond_t h289 hb304
        refine Sq (Rg [0, 1, 2, 3] ?_)
        refine V 89 3 (mv 19 (vi x260) e283) ?_
        refine V 90 3 (run_sub (t := 3) (t' := 3) (x := (.tmp 89)) (y := (.const (vi 1))) (k := .i64) (a := x260) (b := 1) rfl rfl) ?_
        refine V 91 0 (fa 74 15 1 1 1 b140 0 1 e282) ?_
        refine RWP.store (ty := 0) (g := none) (by kernel_rfl) rfl (x := (.tmp 91)) (y := (.tmp 90)) (t := 3) (gg := false) (s := 1) (v := (vi (W64 (x260 - 1)))) (b := b140) (o := 1) (C := #[(vi r174.1), (vi s233.2)]) rfl rfl (by kernel_rfl) hs275 (k := 1) rfl rfl rfl rfl (C' := #[(vi r174.1), (vi (W64 (x260 - 1)))]) rfl (fun w306 (hs307 : HS w0 F0 w306 F19 [(some D225, (.deferred (some []))), (sb b140 #[(vi r174.1), (vi (W64 (x260 - 1)))] 74), (sb b44 #[(.func (.func 102) #[] #[(.pointer (some ⟨b39, 0, none⟩)), (.pointer (some ⟨b1, 0, none⟩)), (.pointer (some ⟨b4, 0, none⟩)), (.pointer (some ⟨b21, 0, none⟩))])] 125), (sb b10 #[(vi 0), (vi 0)] 74), (sb b7 #[(vi x2)] 3)]) => ?_)
        refine Nt ?_
        refine CWP.exit (by kernel_rfl) ?_
        refine blockQ_miss (by decide) ?_
        refine thenQ_ex ?_
        refine thenQ_ex ?_
        refine blockQ_hit rfl ?_
        have hs308 : HS w0 F0 w306 F19 [(some D225, (.deferred (some []))), (sb b140 #[(vi r174.1), (vi (W64 (x260 - 1)))] 74), (sb b10 #[(vi 0), (vi 0)] 74), (sb b7 #[(vi x2)] 3)] := hs307.drop 2
        have hs309 : HS w0 F0 w306 F19 [(some D225, (.deferred (some []))), (sb b140 #[(vi r174.1), (vi (W64 (x260 - 1)))] 74), (sb b10 #[(vi 0), (vi 0)] 74)] := hs308.drop 3
        have ho310 := iter_done h305 hnx257
        exact .inl ⟨rfl, (s233.1, (W64 (x260 - 1))), F19, ho310, hs309, (le236.trans le276), e278, e280, e282⟩
       ·have h311 := cond_f h289 hb304
        refine Sc ?_
        refine blockQ_nrm ?_
        refine thenQ_nrm ?_
        refine Rg [0, 1] ?_
        refine V 92 3 (run_add (t := 3) (t' := 3) (x := (.tmp 72)) (y := (.const (vi 1))) (k := .i64) (a := s233.1) (b := 1) e286 rfl) ?_
        refine V 72 3 (mv 92 (vi (W64 (s233.1 + 1)))) ?_
        refine RWP.nil ?_
        have hn312 := iter_next h311 hnx257
        exact ⟨m254, Nat.lt_succ_self _, ((W64 (s233.1 + 1)), s233.2), F19, hn312, hs275, (le236.trans le276), e278, e279, e280, e281, e282, e284, e285, rfl⟩
     ·have h313 := cond_f hb256 hb258
      refine CWP.exit (by kernel_rfl) ?_
      refine thenQ_ex ?_
      refine thenQ_ex ?_
      refine blockQ_hit rfl ?_
      have hs314 : HS w0 F0 w234 F17 [(some D225, (.deferred (some []))), (sb b140 #[(vi r174.1), (vi s233.2)] 74), (sb b10 #[(vi 0), (vi 0)] 74), (sb b7 #[(vi x2)] 3)] := hs235.drop 2
      have hs315 : HS w0 F0 w234 F17 [(some D225, (.deferred (some []))), (sb b140 #[(vi r174.1), (vi s233.2)] 74), (sb b10 #[(vi 0), (vi 0)] 74)] := hs314.drop 3
      have ho316 := iter_done h313 hnx257
      exact .inl ⟨rfl, (s233.1, s233.2), F17, ho316, hs315, le236, e237, e239, e241⟩
    ·rintro f w246 ⟨s245, F18, rfl, hs247, le248, e249, e250, e251⟩
     have h317 := k_done h232
     refine thenQ_nrm ?_
     refine Sq (Rg [0, 1, 2] ?_)
     refine V 93 74 (ld 74 15 b140 0 true 2 (.agg #[(vi r174.1), (vi s245.2)]) (hs247.ownAt (k := 1) rfl) e251) ?_
     refine RWP.store (ty := 0) (g := none) (by kernel_rfl) rfl (x := (.tmp 6)) (y := (.tmp 93)) (t := 74) (gg := true) (s := 2) (v := (.agg #[(vi r174.1), (vi s245.2)])) (b := b10) (o := 0) (C := #[(vi 0), (vi 0)]) e250 rfl (by kernel_rfl) hs247 (k := 2) rfl rfl rfl rfl (C' := #[(vi r174.1), (vi s245.2)]) rfl (fun w318 (hs319 : HS w0 F0 w318 F18 [(some D225, (.deferred (some []))), (sb b140 #[(vi r174.1), (vi s245.2)] 74), (sb b10 #[(vi r174.1), (vi s245.2)] 74)]) => ?_)
     refine V 7 23 (mc (vi 0) (vi 0)) ?_
     refine Nt ?_
     refine CWP.ret (by kernel_rfl) ?_
     have hs320 := hs319.put (k := 0) rfl (.deferred none)
     have hs321 : HS w0 F0 (putB w318 D225 (.deferred none)) F18 [(sb b140 #[(vi r174.1), (vi s245.2)] 74), (sb b10 #[(vi r174.1), (vi s245.2)] 74)] := hs320.drop 0
     have hfin := some_inj h317
     subst hfin
     exact .inr ⟨D225, e249, hs319.ownAt (k := 0) rfl, (.tuple #[(.agg #[(vi r174.1), (vi s245.2)]), (vi 0)]), res_of (l := [.cell 6 74, .tmp 7]) (by kernel_rfl) (vs := [(.agg #[(vi r174.1), (vi s245.2)]), (vi 0)]) ⟨b10, 0, e250, run_loadVar' (t := 74) (g := true) (s := 2) (by kernel_rfl) (hs321.ownAt (k := 1) rfl) rfl (by decide), ⟨rfl, trivial⟩⟩, (.tuple #[(.agg #[(vi r174.1), (vi s245.2)]), (vi 0)]), F18, rfl, hs321.clear, rfl⟩
end Go.Proofs.YtlddakefmfcblaaGreatDoor
namespace Go.Proofs.YtlddakefmfcblaaGreatDoor
open Go.Proofs
def ref01_Since_L1 (N : Nat) (x0 : (List Prefix)) (x1 : (List UInt8)) (x2 : Int) (r4 : (Place × Int)) (s30 : (Int × Int × Int)) (j63 : (List Int)) : (Int × Int × Int) → Option (Flow (Span × Int) (Int × Int × Int)) := fun s103 =>
 (bif (decide (s103.1 < 2)) then ((idx j63 s103.1).bind fun x137 => ((bif (decide (x137 > 0)) then (bif (decide (x137 ≤ x2)) then ((ref01_place N x0 x1 (W64 (x137 - 1))).bind fun r173 => some (!((r173.Country == r4.1.Country) && ((r173.Zone == r4.1.Zone) && ((r173.Continent == r4.1.Continent) && true))))) else some false) else some false).bind fun j154 => ((bif j154 then some (max s103.2.1 x137) else some s103.2.1).bind fun j186 => ((bif (decide (x137 > x2)) then (bif (decide (x137 ≤ 99999)) then ((ref01_place N x0 x1 x137).bind fun r229 => some (!((r229.Country == r4.1.Country) && ((r229.Zone == r4.1.Zone) && ((r229.Continent == r4.1.Continent) && true))))) else some false) else some false).bind fun j210 => ((bif j210 then some (min s103.2.2 (W64 (x137 - 1))) else some s103.2.2).bind fun j242 => some (.next ((W64 (s103.1 + 1)), j186, j242))))))) else some (.done (s103.1, s103.2.1, s103.2.2)))
def ref01_Since_L0 (N : Nat) (x0 : (List Prefix)) (x1 : (List UInt8)) (x2 : Int) (r4 : (Place × Int)) : (Int × Int × Int) → Option (Flow (Span × Int) (Int × Int × Int)) := fun s30 =>
 (bif (decide (s30.1 < (x0.length : Int))) then (((idx x0 s30.1).bind fun x75 => ((idx x0 s30.1).bind fun x89 => some [x75.From, (W64 (x89.To + 1))])).bind fun j63 => ((iter (ref01_Since_L1 N x0 x1 x2 r4 s30 j63) N (0, s30.2.1, s30.2.2)).bind fun o => o.k (fun r => some (.ret r)) (fun s117 => some (.next ((W64 (s30.1 + 1)), s117.2.1, s117.2.2))))) else some (.done (s30.1, s30.2.1, s30.2.2)))
def ref01_Since (N : Nat) (x0 : (List Prefix)) (x1 : (List UInt8)) (x2 : Int) : Option (Span × Int) :=
 ((ref01_PlaceOf N x0 x1 x2).bind fun r4 => (bif (r4.2 != 0) then some (({ Lo := 0, Hi := 0 } : Span), r4.2) else ((iter (ref01_Since_L0 N x0 x1 x2 r4) N (0, 0, 99999)).bind fun o => o.k (fun r => some r) (fun s42 => some (({ Lo := s42.2.1, Hi := s42.2.2 } : Span), 0)))))
theorem co_ref01_Since : CallOk Tryz.prog 60 := fun _ _ => by kernel_rfl
set_option maxHeartbeats 4000000 in
set_option maxRecDepth 100000 in
theorem c_ref01_Since (N : Nat) (w0 : World) (F0 : Mem) (hF : ∀ b o, F0 b = some o → w0.heap[b]? = some o) (x0 : (List Prefix)) (a0_0 : Option Addr) (n0_0 : Nat) (hb0_0 : LC x0.length n0_0) (hs0_0 : SlA tPrefix F0 a0_0 x0) (x1 : (List UInt8)) (x2 : Int) (r : (Span × Int)) (h : ref01_Since N x0 x1 x2 = some r) :
  Calls Tryz.prog 60 ([(.slice a0_0 x0.length n0_0), (.string ⟨(x1).toArray⟩), (vi x2)] : List Value).toArray w0 (FRet w0 F0 fun F' v => v = (.tuple #[(.agg #[(vi r.1.Lo), (vi r.1.Hi)]), (vi r.2)])) := by
 have hs0 := HS.start hF
 refine calls_of (n := 96) (c := bodyOf Tryz.f60) Tryz.func60 (by kernel_rfl) (by kernel_rfl) (by kernel_rfl) ?_
 refine Sq (Rg [0, 1] ?_)
 refine Al 6 0 74 #[(vi 0), (vi 0)] hs0 (fun b1 w2 (hs3 : HS w0 F0 w2 F0 [(sb b1 #[(vi 0), (vi 0)] 74)]) => ?_)
 refine V 7 23 (mc (vi 0) (vi 0)) ?_
 refine Nss (Rg [0, 1, 2, 3, 4, 5, 6, 7, 8, 9] ?_)
 refine V 16 61 (mv 0 (.slice a0_0 x0.length n0_0)) ?_
 refine V 17 9 (mv 1 (.string ⟨(x1).toArray⟩)) ?_
 refine V 18 3 (mv 2 (vi x2)) ?_
 obtain ⟨r4, hr5, h6⟩ := bind_some h
 refine Cl 19 66 55 #[(.tmp 16), (.tmp 17), (.tmp 18)] #[61, 9, 3] co_ref01_PlaceOf hs3 (c_ref01_PlaceOf N w2 F0 hs3.pers (x0) a0_0 n0_0 hb0_0 hs0_0 (x1) (x2) _ hr5) ?_
 intro v7 F1 w8 hs9 le10 hp11
 obtain rfl := hp11
 refine V 15 66 (mv 19 (.tuple #[(.agg #[(vi r4.1.Country), (vi r4.1.Zone), (vi r4.1.Continent)]), (vi r4.2)])) ?_
 refine V 20 65 (ex 15 0 (.agg #[(vi r4.1.Country), (vi r4.1.Zone), (vi r4.1.Continent)]) (vs := #[(.agg #[(vi r4.1.Country), (vi r4.1.Zone), (vi r4.1.Continent)]), (vi r4.2)])) ?_
 refine V 21 23 (ex 15 1 (vi r4.2) (vs := #[(.agg #[(vi r4.1.Country), (vi r4.1.Zone), (vi r4.1.Continent)]), (vi r4.2)])) ?_
 refine Al 8 0 65 #[(vi 0), (vi 0), (vi 0)] hs9 (fun b12 w13 (hs14 : HS w0 F0 w13 F1 [(sb b12 #[(vi 0), (vi 0), (vi 0)] 65), (sb b1 #[(vi 0), (vi 0)] 74)]) => ?_)
 refine RWP.store (ty := 0) (g := none) (by kernel_rfl) rfl (x := (.tmp 8)) (y := (.tmp 20)) (t := 65) (gg := true) (s := 3) (v := (.agg #[(vi r4.1.Country), (vi r4.1.Zone), (vi r4.1.Continent)])) (b := b12) (o := 0) (C := #[(vi 0), (vi 0), (vi 0)]) rfl rfl (by kernel_rfl) hs14 (k := 0) rfl rfl rfl rfl (C' := #[(vi r4.1.Country), (vi r4.1.Zone), (vi r4.1.Continent)]) rfl (fun w15 (hs16 : HS w0 F0 w15 F1 [(sb b12 #[(vi r4.1.Country), (vi r4.1.Zone), (vi r4.1.Continent)] 65), (sb b1 #[(vi 0), (vi 0)] 74)]) => ?_)
 refine V 9 23 (ma 21 (vi r4.2)) ?_
 refine Nss ?_
 refine Sq (Rg [0, 1] ?_)
 refine V 22 23 (mv 9 (vi r4.2)) ?_
 refine V 23 4 (run_neq (t := 23) (t' := 23) (x := (.tmp 22)) (y := (.const (vi 0))) (k := .i64) (a := r4.2) (b := 0) rfl rfl) ?_
 refine Nt ?_
 refine CWP.cond (t := (r4.2 != 0)) (by kernel_rfl) rfl (fun hb17 => ?_) (fun hb17 => ?_)
 ·have h18 := cond_t h6 hb17
  refine Sq (Rg [0, 1, 2, 3] ?_)
  refine V 24 74 (run_build2 (t := 74) (parts := #[]) (vs := []) (rfl) (cs := [(vi 0), (vi 0)]) (by kernel_rfl)) ?_
  refine V 25 23 (mv 9 (vi r4.2)) ?_
  refine RWP.store (ty := 0) (g := none) (by kernel_rfl) rfl (x := (.tmp 6)) (y := (.tmp 24)) (t := 74) (gg := true) (s := 2) (v := (.agg #[(vi 0), (vi 0)])) (b := b1) (o := 0) (C := #[(vi 0), (vi 0)]) rfl rfl (by kernel_rfl) hs16 (k := 1) rfl rfl rfl rfl (C' := #[(vi 0), (vi 0)]) rfl (fun w19 (hs20 : HS w0 F0 w19 F1 [(sb b12 #[(vi r4.1.Country), (vi r4.1.Zone), (vi r4.1.Continent)] 65), (sb b1 #[(vi 0), (vi 0)] 74)]) => ?_)
  refine V 7 23 (ma 25 (vi r4.2)) ?_
  refine Nt ?_
  refine CWP.ret (by kernel_rfl) ?_
  refine thenQ_ret ?_
  have hfin := some_inj h18
  subst hfin
  exact ⟨rfl, (.tuple #[(.agg #[(vi 0), (vi 0)]), (vi r4.2)]), res_of (l := [.cell 6 74, .tmp 7]) (by kernel_rfl) (vs := [(.agg #[(vi 0), (vi 0)]), (vi r4.2)]) ⟨b1, 0, rfl, run_loadVar' (t := 74) (g := true) (s := 2) (by kernel_rfl) (hs20.ownAt (k := 1) rfl) rfl (by decide), ⟨rfl, trivial⟩⟩, (.tuple #[(.agg #[(vi 0), (vi 0)]), (vi r4.2)]), F1, rfl, hs20.clear, rfl⟩
 ·have h21 := cond_f h6 hb17
  refine Sc ?_
  refine thenQ_nrm ?_
  refine Sq (Rg [0, 1, 2] ?_)
  refine V 26 74 (run_build2 (t := 74) (parts := #[(0, (.const (vi 0))), (1, (.const (vi 99999)))]) (vs := [(0, (vi 0)), (1, (vi 99999))]) (rfl) (cs := [(vi 0), (vi 99999)]) (by kernel_rfl)) ?_
  refine Al 10 0 74 #[(vi 0), (vi 0)] hs16 (fun b22 w23 (hs24 : HS w0 F0 w23 F1 [(sb b22 #[(vi 0), (vi 0)] 74), (sb b12 #[(vi r4.1.Country), (vi r4.1.Zone), (vi r4.1.Continent)] 65), (sb b1 #[(vi 0), (vi 0)] 74)]) => ?_)
  refine RWP.store (ty := 0) (g := none) (by kernel_rfl) rfl (x := (.tmp 10)) (y := (.tmp 26)) (t := 74) (gg := true) (s := 2) (v := (.agg #[(vi 0), (vi 99999)])) (b := b22) (o := 0) (C := #[(vi 0), (vi 0)]) rfl rfl (by kernel_rfl) hs24 (k := 0) rfl rfl rfl rfl (C' := #[(vi 0), (vi 99999)]) rfl (fun w25 (hs26 : HS w0 F0 w25 F1 [(sb b22 #[(vi 0), (vi 99999)] 74), (sb b12 #[(vi r4.1.Country), (vi r4.1.Zone), (vi r4.1.Continent)] 65), (sb b1 #[(vi 0), (vi 0)] 74)]) => ?_)
  refine Nss ?_
  refine Sq (Rg [0] ?_)
  refine V 11 3 (mc (vi 0) (vi 0)) ?_
  refine Nt ?_
  obtain ⟨o27, ho28, h29⟩ := bind_some h21
  refine CWP.cut (fun f w => ∃ (s42 : (Int × Int × Int)) (F3 : Mem), o27 = .done s42 ∧ HS w0 F0 w F3 [(sb b22 #[(vi s42.2.1), (vi s42.2.2)] 74), (sb b1 #[(vi 0), (vi 0)] 74)] ∧ Mem.le F1 F3 ∧ f.d = [] ∧ f 6 = (.pointer (some ⟨b1, 0, none⟩)) ∧ f 10 = (.pointer (some ⟨b22, 0, none⟩))) ?_ ?_
  ·refine Bk ?_
   refine CWP.loop (by kernel_rfl) (fun m f w => ∃ (s30 : (Int × Int × Int)) (F2 : Mem), iter (ref01_Since_L0 N x0 x1 x2 r4) m s30 = some o27 ∧ HS w0 F0 w F2 [(sb b22 #[(vi s30.2.1), (vi s30.2.2)] 74), (sb b12 #[(vi r4.1.Country), (vi r4.1.Zone), (vi r4.1.Continent)] 65), (sb b1 #[(vi 0), (vi 0)] 74)] ∧ Mem.le F1 F2 ∧ f.d = [] ∧ f 0 = (.slice a0_0 x0.length n0_0) ∧ f 1 = (.string ⟨(x1).toArray⟩) ∧ f 2 = (vi x2) ∧ f 6 = (.pointer (some ⟨b1, 0, none⟩)) ∧ f 8 = (.pointer (some ⟨b12, 0, none⟩)) ∧ f 10 = (.pointer (some ⟨b22, 0, none⟩)) ∧ f 11 = (vi s30.1)) N ⟨(0, 0, 99999), F1, ho28, hs26, (Mem.le.refl _), rfl, rfl, rfl, rfl, rfl, rfl, rfl, rfl⟩ ?_
   rintro m49 f w31 ⟨s30, F2, hit50, hs32, le33, e34, e35, e36, e37, e38, e39, e40, e41⟩
   obtain ⟨m51, fl52, rfl, hb53, hnx54⟩ := iter_step hit50
   refine Sq ?_
   refine Sq (Rg [0, 1, 2, 3] ?_)
   refine V 27 3 (mv 11 (vi s30.1) e41) ?_
   refine V 28 61 (mv 0 (.slice a0_0 x0.length n0_0) e35) ?_
   refine V 29 3 (ln 28 61 a0_0 x0.length n0_0 71 7 64) ?_
   refine V 30 4 (run_lss (t := 3) (t' := 3) (x := (.tmp 27)) (y := (.tmp 29)) (k := .i64) (a := s30.1) (b := (x0.length : Int)) rfl rfl) ?_
   refine Nt ?_
   refine CWP.cond (t := (decide (s30.1 < (x0.length : Int)))) (by kernel_rfl) rfl (fun hb55 => ?_) (fun hb55 => ?_)
   ·have h56 := cond_t hb53 hb55
    refine Sc ?_
    refine thenQ_nrm ?_
    refine Sq ?_
    refine Bk ?_
    refine Sq ?_
    obtain ⟨j63, hj73, h74⟩ := bind_some h56
    refine CWP.regionD (by kernel_rfl) (by kernel_rfl) (by kernel_rfl) (by kernel_rfl) (z := 13) (F := F2) (Lc := [(sb b22 #[(vi s30.2.1), (vi s30.2.2)] 74), (sb b12 #[(vi r4.1.Country), (vi r4.1.Zone), (vi r4.1.Continent)] 65), (sb b1 #[(vi 0), (vi 0)] 74)]) (Lz := []) (l := [false, false, false, false, false, false, false, false, false, false, false, false, false]) (fuel := 13) (by kernel_rfl) (by kernel_rfl) hs32 (by simp) (by simp) (fun f w => ∃ (F4 : Mem) (aj63_0 : Option Addr) (nj63_0 : Nat) (ej63_0 : Option Nat × Obj), HS w0 F0 w F4 [ej63_0, (sb b22 #[(vi s30.2.1), (vi s30.2.2)] 74), (sb b12 #[(vi r4.1.Country), (vi r4.1.Zone), (vi r4.1.Continent)] 65), (sb b1 #[(vi 0), (vi 0)] 74)] ∧ Mem.le F2 F4 ∧ f.d = [] ∧ f 0 = (.slice a0_0 x0.length n0_0) ∧ f 1 = (.string ⟨(x1).toArray⟩) ∧ f 2 = (vi x2) ∧ f 6 = (.pointer (some ⟨b1, 0, none⟩)) ∧ f 8 = (.pointer (some ⟨b12, 0, none⟩)) ∧ f 10 = (.pointer (some ⟨b22, 0, none⟩)) ∧ f 11 = (vi s30.1) ∧ f 12 = (.slice aj63_0 j63.length nj63_0) ∧ RowR tInt 3 F4 aj63_0 nj63_0 j63 ej63_0) (fun wd57 hw58 => ?_) ?_
    ·refine Dt 0 33 61 _ (fun _ hq => mv 0 (.slice a0_0 x0.length n0_0) e35) ?_
     refine Dt 1 34 3 _ (fun _ hq => mv 11 (vi s30.1) e41) ?_
     obtain ⟨x75, hx76, h78⟩ := bind_some hj73
     obtain ⟨hi77, hx76'⟩ := idx_spec hx76
     obtain ⟨b79, o80, C81, E82, fz83, rfl, hF85, hE86⟩ := SlA.open (SlA.mono hs0_0 (le10.trans le33)) hx76'
     have hc88 := hE86 _ _ hx76'
     refine Dt 2 35 0 (.pointer (some ⟨b79, (o80 + (s30.1 : Int).toNat * 7), none⟩)) (fun _ hq => ix 61 33 34 b79 o80 71 7 64 hi77) ?_
     refine Dt 3 36 0 (.pointer (some ⟨b79, ((o80 + (s30.1 : Int).toNat * 7) + 4), none⟩)) (fun _ hq => fa 71 35 4 4 1 b79 (o80 + (s30.1 : Int).toNat * 7) ((o80 + (s30.1 : Int).toNat * 7) + 4)) ?_
     refine Dt 4 37 3 _ (fun _ hq => lx 3 36 4 7 false 1 (vi x75.From) (hq.1.1 _ _ hF85) hc88) ?_
     refine Dt 5 38 61 _ (fun _ hq => mv 0 (.slice (some ⟨b79, o80, none⟩) x0.length n0_0) e35) ?_
     refine Dt 6 39 3 _ (fun _ hq => mv 11 (vi s30.1) e41) ?_
     obtain ⟨x89, hx90, h92⟩ := bind_some h78
     obtain ⟨hi91, hx90'⟩ := idx_spec hx90
     have hc94 := hE86 _ _ hx90'
     refine Dt 7 40 0 (.pointer (some ⟨b79, (o80 + (s30.1 : Int).toNat * 7), none⟩)) (fun _ hq => ix 61 38 39 b79 o80 71 7 64 hi91) ?_
     refine Dt 8 41 0 (.pointer (some ⟨b79, ((o80 + (s30.1 : Int).toNat * 7) + 5), none⟩)) (fun _ hq => fa 71 40 5 5 1 b79 (o80 + (s30.1 : Int).toNat * 7) ((o80 + (s30.1 : Int).toNat * 7) + 5)) ?_
     refine Dt 9 42 3 _ (fun _ hq => lx 3 41 5 7 false 1 (vi x89.To) (hq.1.1 _ _ hF85) hc94) ?_
     refine Dt 10 43 3 (vi (W64 (x89.To + 1))) (fun _ hq => run_add (t := 3) (t' := 3) (x := (.tmp 42)) (y := (.const (vi 1))) (k := .i64) (a := x89.To) (b := 1) rfl rfl) ?_
     refine DWP.one (i := 11) (by kernel_rfl) ?_
     refine DStep.buildSlice (l' := [true, true, true, true, true, true, true, true, true, true, true, true, false]) (zd := true) (by kernel_rfl) (by kernel_rfl) (dst := (some 44)) (ty := 77) (g := none) (by kernel_rfl) rfl (t := 77) (len := 2) (parts := #[(0, (.tmp 37)), (1, (.tmp 43))]) (vs := [(0, (vi x75.From)), (1, (vi (W64 (x89.To + 1))))]) (rfl) (E := 3) (cs := [(vi x75.From), (vi (W64 (x89.To + 1)))]) (by kernel_rfl) hw58 (Mem.le.refl _) (by simp) (fun e => by cases e) (fun b95 w96 (hs97 : HS w0 F0 w96 F2 [(some b95, .cells ([(vi x75.From), (vi (W64 (x89.To + 1)))] : List Value).toArray 3 (0, 0)), (sb b22 #[(vi s30.2.1), (vi s30.2.2)] 74), (sb b12 #[(vi r4.1.Country), (vi r4.1.Zone), (vi r4.1.Continent)] 65), (sb b1 #[(vi 0), (vi 0)] 74)]) => ?_)
     have hr99 : RowR tInt 3 F2 (some ⟨b95, 0, none⟩) 2 [x75.From, (W64 (x89.To + 1))] (some b95, .cells ([(vi x75.From), (vi (W64 (x89.To + 1)))] : List Value).toArray 3 (0, 0)) := RowR.lit ⟨rfl, ⟨rfl, rfl⟩⟩ (by simp)
     refine Dt 12 12 77 _ (fun _ hq => ma 44 (.slice (some ⟨b95, 0, none⟩) [x75.From, (W64 (x89.To + 1))].length 2)) ?_
     obtain rfl := some_inj h92
     exact DWP.done (by kernel_rfl) ⟨F2, (some ⟨b95, 0, none⟩), 2, (some b95, .cells ([(vi x75.From), (vi (W64 (x89.To + 1)))] : List Value).toArray 3 (0, 0)), hs97, (Mem.le.refl _), e34, e35, e36, e37, e38, e39, e40, e41, rfl, hr99⟩
    ·rintro f w59 ⟨F4, aj63_0, nj63_0, ej63_0, hs60, le61, e64, e65, e66, e67, e68, e69, e70, e71, e72, hrj63_0⟩
     refine thenQ_nrm ?_
     refine Sq (Rg [0] ?_)
     refine V 13 3 (mc (vi 0) (vi 0)) ?_
     refine Nt ?_
     obtain ⟨o100, ho101, h102⟩ := bind_some h74
     refine CWP.cut (fun f w => ∃ (s117 : (Int × Int × Int)) (F6 : Mem), o100 = .done s117 ∧ HS w0 F0 w F6 [(sb b22 #[(vi s117.2.1), (vi s117.2.2)] 74), (sb b12 #[(vi r4.1.Country), (vi r4.1.Zone), (vi r4.1.Continent)] 65), (sb b1 #[(vi 0), (vi 0)] 74)] ∧ Mem.le F4 F6 ∧ f.d = [] ∧ f 0 = (.slice a0_0 x0.length n0_0) ∧ f 1 = (.string ⟨(x1).toArray⟩) ∧ f 2 = (vi x2) ∧ f 6 = (.pointer (some ⟨b1, 0, none⟩)) ∧ f 8 = (.pointer (some ⟨b12, 0, none⟩)) ∧ f 10 = (.pointer (some ⟨b22, 0, none⟩)) ∧ f 11 = (vi s30.1)) ?_ ?_
     ·refine Bk ?_
      refine CWP.loop (by kernel_rfl) (fun m f w => ∃ (s103 : (Int × Int × Int)) (F5 : Mem), iter (ref01_Since_L1 N x0 x1 x2 r4 s30 j63) m s103 = some o100 ∧ HS w0 F0 w F5 [ej63_0, (sb b22 #[(vi s103.2.1), (vi s103.2.2)] 74), (sb b12 #[(vi r4.1.Country), (vi r4.1.Zone), (vi r4.1.Continent)] 65), (sb b1 #[(vi 0), (vi 0)] 74)] ∧ Mem.le F4 F5 ∧ f.d = [] ∧ f 0 = (.slice a0_0 x0.length n0_0) ∧ f 1 = (.string ⟨(x1).toArray⟩) ∧ f 2 = (vi x2) ∧ f 6 = (.pointer (some ⟨b1, 0, none⟩)) ∧ f 8 = (.pointer (some ⟨b12, 0, none⟩)) ∧ f 10 = (.pointer (some ⟨b22, 0, none⟩)) ∧ f 11 = (vi s30.1) ∧ f 12 = (.slice aj63_0 j63.length nj63_0) ∧ f 13 = (vi s103.1)) N ⟨(0, s30.2.1, s30.2.2), F4, ho101, hs60, (Mem.le.refl _), e64, e65, e66, e67, e68, e69, e70, e71, e72, rfl⟩ ?_
      rintro m129 f w104 ⟨s103, F5, hit130, hs105, le106, e107, e108, e109, e110, e111, e112, e113, e114, e115, e116⟩
      obtain ⟨m131, fl132, rfl, hb133, hnx134⟩ := iter_step hit130
      refine Sq ?_
      refine Sq (Rg [0, 1] ?_)
      refine V 45 3 (mv 13 (vi s103.1) e116) ?_
      refine V 46 4 (run_lss (t := 3) (t' := 3) (x := (.tmp 45)) (y := (.const (vi 2))) (k := .i64) (a := s103.1) (b := 2) rfl rfl) ?_
      refine Nt ?_
      refine CWP.cond (t := (decide (s103.1 < 2))) (by kernel_rfl) rfl (fun hb135 => ?_) (fun hb135 => ?_)
      ·have h136 := cond_t hb133 hb135
       refine Sc ?_
       refine thenQ_nrm ?_
       refine Sq ?_
       refine Bk ?_
       refine Sq (Rg [0, 1, 2, 3, 4] ?_)
       refine V 49 77 (mv 12 (.slice aj63_0 j63.length nj63_0) e115) ?_
       refine V 50 3 (mv 13 (vi s103.1) e116) ?_
       obtain ⟨x137, hx138, h140⟩ := bind_some h136
       obtain ⟨hi139, hx138'⟩ := idx_spec hx138
       obtain ⟨b141, C142, rfl, rfl, hE145⟩ := RowR.open (hrj63_0.mono le106) hx138'
       have hr146 := (hrj63_0.mono le106)
       have hc148 := hE145 _ _ hx138'
       refine V 51 0 (run_index0 (t := 77) (x := (.tmp 49)) (y := (.tmp 50)) (b := b141) (E := 3) (s := 1) (by_ := 8) rfl rfl (by kernel_rfl) hi139) ?_
       refine V 52 3 (lx 3 51 0 1 false 1 (vi x137) (hs105.ownAt (k := 0) rfl) hc148) ?_
       refine V 14 3 (ma 52 (vi x137)) ?_
       refine Nss ?_
       refine Sq ?_
       obtain ⟨j154, hj167, h168⟩ := bind_some h140
       refine CWP.regionD (by kernel_rfl) (by kernel_rfl) (by kernel_rfl) (by kernel_rfl) (z := 16) (F := F5) (Lc := [(some b141, .cells C142 3 (0, 0)), (sb b22 #[(vi s103.2.1), (vi s103.2.2)] 74), (sb b12 #[(vi r4.1.Country), (vi r4.1.Zone), (vi r4.1.Continent)] 65), (sb b1 #[(vi 0), (vi 0)] 74)]) (Lz := []) (l := [false, false, false, false, false, false, false, false, false, false, false, false, false, false, false, false]) (fuel := 16) (by kernel_rfl) (by kernel_rfl) hs105 (by simp) (by simp) (fun f w => ∃ (F7 : Mem), HS w0 F0 w F7 [(some b141, .cells C142 3 (0, 0)), (sb b22 #[(vi s103.2.1), (vi s103.2.2)] 74), (sb b12 #[(vi r4.1.Country), (vi r4.1.Zone), (vi r4.1.Continent)] 65), (sb b1 #[(vi 0), (vi 0)] 74)] ∧ Mem.le F5 F7 ∧ f.d = [] ∧ f 0 = (.slice a0_0 x0.length n0_0) ∧ f 1 = (.string ⟨(x1).toArray⟩) ∧ f 2 = (vi x2) ∧ f 6 = (.pointer (some ⟨b1, 0, none⟩)) ∧ f 8 = (.pointer (some ⟨b12, 0, none⟩)) ∧ f 10 = (.pointer (some ⟨b22, 0, none⟩)) ∧ f 11 = (vi s30.1) ∧ f 12 = (.slice (some ⟨b141, 0, none⟩) j63.length nj63_0) ∧ f 13 = (vi s103.1) ∧ f 14 = (vi x137) ∧ f 68 = (.bool j154)) (fun wd149 hw150 => ?_) ?_
       ·refine Dt 0 53 3 _ (fun _ hq => mv 14 (vi x137)) ?_
        refine Dt 1 54 4 (.bool (decide (x137 > 0))) (fun _ hq => run_gtr (t := 3) (t' := 3) (x := (.tmp 53)) (y := (.const (vi 0))) (k := .i64) (a := x137) (b := 0) rfl rfl) ?_
        refine Dt 2 55 4 _ (fun _ hq => mv 54 (.bool (decide (x137 > 0)))) ?_
        refine DWP.split (decide (x137 > 0)) (fun hb169 => ?_) (fun hb169 => ?_)
        ·have h170 := cond_t hj167 hb169
         refine Dg 3 56 3 _ 2 true 55 hb169 (fun _ hq => mv 14 (vi x137)) ?_
         refine Dg 4 57 3 _ 2 true 55 hb169 (fun _ hq => mv 2 (vi x2) e110) ?_
         refine Dg 5 58 4 (.bool (decide (x137 ≤ x2))) 2 true 55 hb169 (fun _ hq => run_leq (t := 3) (t' := 3) (x := (.tmp 56)) (y := (.tmp 57)) (k := .i64) (a := x137) (b := x2) rfl rfl) ?_
         refine Dt 6 59 4 _ (fun _ hq => p1 55 (.tmp 58) (.const (.bool false)) (.bool (decide (x137 ≤ x2))) hb169) ?_
         refine Dt 7 60 4 _ (fun _ hq => mv 59 (.bool (decide (x137 ≤ x2)))) ?_
         refine DWP.split (decide (x137 ≤ x2)) (fun hb171 => ?_) (fun hb171 => ?_)
         ·have h172 := cond_t h170 hb171
          refine Dg 8 61 61 _ 7 true 60 hb171 (fun _ hq => mv 0 (.slice a0_0 x0.length n0_0) e108) ?_
          refine Dg 9 62 9 _ 7 true 60 hb171 (fun _ hq => mv 1 (.string ⟨(x1).toArray⟩) e109) ?_
          refine Dg 10 63 3 _ 7 true 60 hb171 (fun _ hq => mv 14 (vi x137)) ?_
          refine Dg 11 64 3 (vi (W64 (x137 - 1))) 7 true 60 hb171 (fun _ hq => run_sub (t := 3) (t' := 3) (x := (.tmp 63)) (y := (.const (vi 1))) (k := .i64) (a := x137) (b := 1) rfl rfl) ?_
          refine Dg 13 66 65 _ 7 true 60 hb171 (fun _ hq => ld 65 8 b12 0 true 3 (.agg #[(vi r4.1.Country), (vi r4.1.Zone), (vi r4.1.Continent)]) (hq.1.2 2 _ _ rfl) e112) ?_
          refine DWP.one (i := 12) (by kernel_rfl) ?_
          obtain ⟨r173, hr174, h175⟩ := bind_some h172
          refine DStep.call (l' := [true, true, true, true, true, true, true, true, true, true, true, true, true, true, false, false]) (zd := true) (by kernel_rfl) (by kernel_rfl) (by kernel_rfl) (dst := (some 65)) (ty := 65) (g := (some (7, true))) (by kernel_rfl) (gd_y (d := 60) (by kernel_rfl) rfl hb171) (f0 := (.func 101)) (aos := #[(.tmp 61), (.tmp 62), (.tmp 64)]) (ats := #[61, 9, 3]) (fid := 101) (first := #[]) (cap := #[]) (args := [(.slice a0_0 x0.length n0_0), (.string ⟨(x1).toArray⟩), (vi (W64 (x137 - 1)))]) rfl co_ref01_place (rfl) hw150 (c_ref01_place N wd149 F5 hw150.pers (x0) a0_0 n0_0 hb0_0 (SlA.mono hs0_0 (((le10.trans le33).trans le61).trans le106)) (x1) ((W64 (x137 - 1))) _ hr174) ?_
          intro v176 F8 w177 hs178 le179 hp180
          obtain rfl := hp180
          refine Dg 14 67 4 (.bool (!((r173.Country == r4.1.Country) && ((r173.Zone == r4.1.Zone) && ((r173.Continent == r4.1.Continent) && true))))) 7 true 60 hb171 (fun _ hq => run_nes (t := 65) (t' := 65) (x := (.tmp 65)) (y := (.tmp 66)) (xs := #[(vi r173.Country), (vi r173.Zone), (vi r173.Continent)]) (ys := #[(vi r4.1.Country), (vi r4.1.Zone), (vi r4.1.Continent)]) (b := ((r173.Country == r4.1.Country) && ((r173.Zone == r4.1.Zone) && ((r173.Continent == r4.1.Continent) && true)))) rfl rfl (by kernel_rfl) (by kernel_rfl)) ?_
          refine Dt 15 68 4 _ (fun _ hq => p1 60 (.tmp 67) (.const (.bool false)) (.bool (!((r173.Country == r4.1.Country) && ((r173.Zone == r4.1.Zone) && ((r173.Continent == r4.1.Continent) && true))))) hb171) ?_
          obtain rfl := some_inj h175
          exact DWP.done (by kernel_rfl) ⟨F8, hs178, le179, e107, e108, e109, e110, e111, e112, e113, e114, e115, e116, rfl, rfl⟩
         ·have h181 := cond_f h170 hb171
          refine Dk [(8, 61), (9, 62), (10, 63), (11, 64), (12, 65), (13, 66), (14, 67)] 7 true 60 hb171 ?_
          refine Dt 15 68 4 _ (fun _ hq => p0 60 (.tmp 67) (.const (.bool false)) (.bool false) hb171) ?_
          obtain rfl := some_inj h181
          exact DWP.done (by kernel_rfl) ⟨F5, hw150, (Mem.le.refl _), e107, e108, e109, e110, e111, e112, e113, e114, e115, e116, rfl, rfl⟩
        ·have h182 := cond_f hj167 hb169
         refine Dk [(3, 56), (4, 57), (5, 58)] 2 true 55 hb169 ?_
         refine Dt 6 59 4 _ (fun _ hq => p0 55 (.tmp 58) (.const (.bool false)) (.bool false) hb169) ?_
         refine Dt 7 60 4 _ (fun _ hq => mv 59 (.bool false)) ?_
         refine Dk [(8, 61), (9, 62), (10, 63), (11, 64), (12, 65), (13, 66), (14, 67)] 7 true 60 rfl ?_
         refine Dt 15 68 4 _ (fun _ hq => p0 60 (.tmp 67) (.const (.bool false)) (.bool false) rfl) ?_
         obtain rfl := some_inj h182
         exact DWP.done (by kernel_rfl) ⟨F5, hw150, (Mem.le.refl _), e107, e108, e109, e110, e111, e112, e113, e114, e115, e116, rfl, rfl⟩
       ·rintro f w151 ⟨F7, hs152, le153, e155, e156, e157, e158, e159, e160, e161, e162, e163, e164, e165, e166⟩
        refine thenQ_nrm ?_
        obtain ⟨j186, hj198, h199⟩ := bind_some h168
        refine CWP.cut (fun f w => ∃ (F9 : Mem), HS w0 F0 w F9 [(some b141, .cells C142 3 (0, 0)), (sb b22 #[(vi j186), (vi s103.2.2)] 74), (sb b12 #[(vi r4.1.Country), (vi r4.1.Zone), (vi r4.1.Continent)] 65), (sb b1 #[(vi 0), (vi 0)] 74)] ∧ Mem.le F7 F9 ∧ f.d = [] ∧ f 0 = (.slice a0_0 x0.length n0_0) ∧ f 1 = (.string ⟨(x1).toArray⟩) ∧ f 2 = (vi x2) ∧ f 6 = (.pointer (some ⟨b1, 0, none⟩)) ∧ f 8 = (.pointer (some ⟨b12, 0, none⟩)) ∧ f 10 = (.pointer (some ⟨b22, 0, none⟩)) ∧ f 11 = (vi s30.1) ∧ f 12 = (.slice (some ⟨b141, 0, none⟩) j63.length nj63_0) ∧ f 13 = (vi s103.1) ∧ f 14 = (vi x137)) ?_ ?_
        ·refine CWP.cond (t := j154) (by kernel_rfl) e166 (fun hb200 => ?_) (fun hb200 => ?_)
         ·have h201 := cond_t hj198 hb200
          refine Rg [0, 1, 2, 3, 4, 5] ?_
          refine V 69 0 (fa 74 10 0 0 1 b22 0 0 e161) ?_
          refine V 70 3 (ld 3 69 b22 0 false 1 (vi s103.2.1) (hs152.ownAt (k := 1) rfl)) ?_
          refine V 71 3 (mv 14 (vi x137) e165) ?_
          refine V 72 3 (run_max2 (x := (.tmp 70)) (y := (.tmp 71)) (ats := #[3, 3]) (a := s103.2.1) (b := x137) rfl rfl) ?_
          refine V 73 0 (fa 74 10 0 0 1 b22 0 0 e161) ?_
          refine RWP.store (ty := 0) (g := none) (by kernel_rfl) rfl (x := (.tmp 73)) (y := (.tmp 72)) (t := 3) (gg := false) (s := 1) (v := (vi (max s103.2.1 x137))) (b := b22) (o := 0) (C := #[(vi s103.2.1), (vi s103.2.2)]) rfl rfl (by kernel_rfl) hs152 (k := 1) rfl rfl rfl rfl (C' := #[(vi (max s103.2.1 x137)), (vi s103.2.2)]) rfl (fun w202 (hs203 : HS w0 F0 w202 F7 [(some b141, .cells C142 3 (0, 0)), (sb b22 #[(vi (max s103.2.1 x137)), (vi s103.2.2)] 74), (sb b12 #[(vi r4.1.Country), (vi r4.1.Zone), (vi r4.1.Continent)] 65), (sb b1 #[(vi 0), (vi 0)] 74)]) => ?_)
          refine RWP.nil ?_
          obtain rfl := some_inj h201
          exact .inl ⟨rfl, F7, hs203, (Mem.le.refl _), e155, e156, e157, e158, e159, e160, e161, e162, e163, e164, e165⟩
         ·have h204 := cond_f hj198 hb200
          refine Sc ?_
          obtain rfl := some_inj h204
          exact .inl ⟨rfl, F7, hs152, (Mem.le.refl _), e155, e156, e157, e158, e159, e160, e161, e162, e163, e164, e165⟩
        ·rintro f w183 ⟨F9, hs184, le185, e187, e188, e189, e190, e191, e192, e193, e194, e195, e196, e197⟩
         refine thenQ_nrm ?_
         refine Sq ?_
         obtain ⟨j210, hj223, h224⟩ := bind_some h199
         refine CWP.regionD (by kernel_rfl) (by kernel_rfl) (by kernel_rfl) (by kernel_rfl) (z := 15) (F := F9) (Lc := [(some b141, .cells C142 3 (0, 0)), (sb b22 #[(vi j186), (vi s103.2.2)] 74), (sb b12 #[(vi r4.1.Country), (vi r4.1.Zone), (vi r4.1.Continent)] 65), (sb b1 #[(vi 0), (vi 0)] 74)]) (Lz := []) (l := [false, false, false, false, false, false, false, false, false, false, false, false, false, false, false]) (fuel := 15) (by kernel_rfl) (by kernel_rfl) hs184 (by simp) (by simp) (fun f w => ∃ (F10 : Mem), HS w0 F0 w F10 [(some b141, .cells C142 3 (0, 0)), (sb b22 #[(vi j186), (vi s103.2.2)] 74), (sb b12 #[(vi r4.1.Country), (vi r4.1.Zone), (vi r4.1.Continent)] 65), (sb b1 #[(vi 0), (vi 0)] 74)] ∧ Mem.le F9 F10 ∧ f.d = [] ∧ f 0 = (.slice a0_0 x0.length n0_0) ∧ f 1 = (.string ⟨(x1).toArray⟩) ∧ f 2 = (vi x2) ∧ f 6 = (.pointer (some ⟨b1, 0, none⟩)) ∧ f 8 = (.pointer (some ⟨b12, 0, none⟩)) ∧ f 10 = (.pointer (some ⟨b22, 0, none⟩)) ∧ f 11 = (vi s30.1) ∧ f 12 = (.slice (some ⟨b141, 0, none⟩) j63.length nj63_0) ∧ f 13 = (vi s103.1) ∧ f 14 = (vi x137) ∧ f 88 = (.bool j210)) (fun wd205 hw206 => ?_) ?_
         ·refine Dt 0 74 3 _ (fun _ hq => mv 14 (vi x137) e197) ?_
          refine Dt 1 75 3 _ (fun _ hq => mv 2 (vi x2) e190) ?_
          refine Dt 2 76 4 (.bool (decide (x137 > x2))) (fun _ hq => run_gtr (t := 3) (t' := 3) (x := (.tmp 74)) (y := (.tmp 75)) (k := .i64) (a := x137) (b := x2) rfl rfl) ?_
          refine Dt 3 77 4 _ (fun _ hq => mv 76 (.bool (decide (x137 > x2)))) ?_
          refine DWP.split (decide (x137 > x2)) (fun hb225 => ?_) (fun hb225 => ?_)
          ·have h226 := cond_t hj223 hb225
           refine Dg 4 78 3 _ 3 true 77 hb225 (fun _ hq => mv 14 (vi x137) e197) ?_
           refine Dg 5 79 4 (.bool (decide (x137 ≤ 99999))) 3 true 77 hb225 (fun _ hq => run_leq (t := 3) (t' := 3) (x := (.tmp 78)) (y := (.const (vi 99999))) (k := .i64) (a := x137) (b := 99999) rfl rfl) ?_
           refine Dt 6 80 4 _ (fun _ hq => p1 77 (.tmp 79) (.const (.bool false)) (.bool (decide (x137 ≤ 99999))) hb225) ?_
           refine Dt 7 81 4 _ (fun _ hq => mv 80 (.bool (decide (x137 ≤ 99999)))) ?_
           refine DWP.split (decide (x137 ≤ 99999)) (fun hb227 => ?_) (fun hb227 => ?_)
           ·have h228 := cond_t h226 hb227
            refine Dg 8 82 61 _ 7 true 81 hb227 (fun _ hq => mv 0 (.slice a0_0 x0.length n0_0) e188) ?_
            refine Dg 9 83 9 _ 7 true 81 hb227 (fun _ hq => mv 1 (.string ⟨(x1).toArray⟩) e189) ?_
            refine Dg 10 84 3 _ 7 true 81 hb227 (fun _ hq => mv 14 (vi x137) e197) ?_
            refine Dg 12 86 65 _ 7 true 81 hb227 (fun _ hq => ld 65 8 b12 0 true 3 (.agg #[(vi r4.1.Country), (vi r4.1.Zone), (vi r4.1.Continent)]) (hq.1.2 2 _ _ rfl) e192) ?_
            refine DWP.one (i := 11) (by kernel_rfl) ?_
            obtain ⟨r229, hr230, h231⟩ := bind_some h228
            refine DStep.call (l' := [true, true, true, true, true, true, true, true, true, true, true, true, true, false, false]) (zd := true) (by kernel_rfl) (by kernel_rfl) (by kernel_rfl) (dst := (some 85)) (ty := 65) (g := (some (7, true))) (by kernel_rfl) (gd_y (d := 81) (by kernel_rfl) rfl hb227) (f0 := (.func 101)) (aos := #[(.tmp 82), (.tmp 83), (.tmp 84)]) (ats := #[61, 9, 3]) (fid := 101) (first := #[]) (cap := #[]) (args := [(.slice a0_0 x0.length n0_0), (.string ⟨(x1).toArray⟩), (vi x137)]) rfl co_ref01_place (rfl) hw206 (c_ref01_place N wd205 F9 hw206.pers (x0) a0_0 n0_0 hb0_0 (SlA.mono hs0_0 (((((le10.trans le33).trans le61).trans le106).trans le153).trans le185)) (x1) (x137) _ hr230) ?_
            intro v232 F11 w233 hs234 le235 hp236
            obtain rfl := hp236
            refine Dg 13 87 4 (.bool (!((r229.Country == r4.1.Country) && ((r229.Zone == r4.1.Zone) && ((r229.Continent == r4.1.Continent) && true))))) 7 true 81 hb227 (fun _ hq => run_nes (t := 65) (t' := 65) (x := (.tmp 85)) (y := (.tmp 86)) (xs := #[(vi r229.Country), (vi r229.Zone), (vi r229.Continent)]) (ys := #[(vi r4.1.Country), (vi r4.1.Zone), (vi r4.1.Continent)]) (b := ((r229.Country == r4.1.Country) && ((r229.Zone == r4.1.Zone) && ((r229.Continent == r4.1.Continent) && true)))) rfl rfl (by kernel_rfl) (by kernel_rfl)) ?_
            refine Dt 14 88 4 _ (fun _ hq => p1 81 (.tmp 87) (.const (.bool false)) (.bool (!((r229.Country == r4.1.Country) && ((r229.Zone == r4.1.Zone) && ((r229.Continent == r4.1.Continent) && true))))) hb227) ?_
            obtain rfl := some_inj h231
            exact DWP.done (by kernel_rfl) ⟨F11, hs234, le235, e187, e188, e189, e190, e191, e192, e193, e194, e195, e196, e197, rfl⟩
           ·have h237 := cond_f h226 hb227
            refine Dk [(8, 82), (9, 83), (10, 84), (11, 85), (12, 86), (13, 87)] 7 true 81 hb227 ?_
            refine Dt 14 88 4 _ (fun _ hq => p0 81 (.tmp 87) (.const (.bool false)) (.bool false) hb227) ?_
            obtain rfl := some_inj h237
            exact DWP.done (by kernel_rfl) ⟨F9, hw206, (Mem.le.refl _), e187, e188, e189, e190, e191, e192, e193, e194, e195, e196, e197, rfl⟩
          ·have h238 := cond_f hj223 hb225
           refine Dk [(4, 78), (5, 79)] 3 true 77 hb225 ?_
           refine Dt 6 80 4 _ (fun _ hq => p0 77 (.tmp 79) (.const (.bool false)) (.bool false) hb225) ?_
           refine Dt 7 81 4 _ (fun _ hq => mv 80 (.bool false)) ?_
           refine Dk [(8, 82), (9, 83), (10, 84), (11, 85), (12, 86), (13, 87)] 7 true 81 rfl ?_
           refine Dt 14 88 4 _ (fun _ hq => p0 81 (.tmp 87) (.const (.bool false)) (.bool false) rfl) ?_
           obtain rfl := some_inj h238
           exact DWP.done (by kernel_rfl) ⟨F9, hw206, (Mem.le.refl _), e187, e188, e189, e190, e191, e192, e193, e194, e195, e196, e197, rfl⟩
         ·rintro f w207 ⟨F10, hs208, le209, e211, e212, e213, e214, e215, e216, e217, e218, e219, e220, e221, e222⟩
          refine thenQ_nrm ?_
          obtain ⟨j242, hj253, h254⟩ := bind_some h224
          refine CWP.cut (fun f w => ∃ (F12 : Mem), HS w0 F0 w F12 [(some b141, .cells C142 3 (0, 0)), (sb b22 #[(vi j186), (vi j242)] 74), (sb b12 #[(vi r4.1.Country), (vi r4.1.Zone), (vi r4.1.Continent)] 65), (sb b1 #[(vi 0), (vi 0)] 74)] ∧ Mem.le F10 F12 ∧ f.d = [] ∧ f 0 = (.slice a0_0 x0.length n0_0) ∧ f 1 = (.string ⟨(x1).toArray⟩) ∧ f 2 = (vi x2) ∧ f 6 = (.pointer (some ⟨b1, 0, none⟩)) ∧ f 8 = (.pointer (some ⟨b12, 0, none⟩)) ∧ f 10 = (.pointer (some ⟨b22, 0, none⟩)) ∧ f 11 = (vi s30.1) ∧ f 12 = (.slice (some ⟨b141, 0, none⟩) j63.length nj63_0) ∧ f 13 = (vi s103.1)) ?_ ?_
          ·refine CWP.cond (t := j210) (by kernel_rfl) e222 (fun hb255 => ?_) (fun hb255 => ?_)
           ·have h256 := cond_t hj253 hb255
            refine Rg [0, 1, 2, 3, 4, 5, 6] ?_
            refine V 89 0 (fa 74 10 1 1 1 b22 0 1 e217) ?_
            refine V 90 3 (ld 3 89 b22 1 false 1 (vi s103.2.2) (hs208.ownAt (k := 1) rfl)) ?_
            refine V 91 3 (mv 14 (vi x137) e221) ?_
            refine V 92 3 (run_sub (t := 3) (t' := 3) (x := (.tmp 91)) (y := (.const (vi 1))) (k := .i64) (a := x137) (b := 1) rfl rfl) ?_
            refine V 93 3 (run_min2 (x := (.tmp 90)) (y := (.tmp 92)) (ats := #[3, 3]) (a := s103.2.2) (b := (W64 (x137 - 1))) rfl rfl) ?_
            refine V 94 0 (fa 74 10 1 1 1 b22 0 1 e217) ?_
            refine RWP.store (ty := 0) (g := none) (by kernel_rfl) rfl (x := (.tmp 94)) (y := (.tmp 93)) (t := 3) (gg := false) (s := 1) (v := (vi (min s103.2.2 (W64 (x137 - 1))))) (b := b22) (o := 1) (C := #[(vi j186), (vi s103.2.2)]) rfl rfl (by kernel_rfl) hs208 (k := 1) rfl rfl rfl rfl (C' := #[(vi j186), (vi (min s103.2.2 (W64 (x137 - 1))))]) rfl (fun w257 (hs258 : HS w0 F0 w257 F10 [(some b141, .cells C142 3 (0, 0)), (sb b22 #[(vi j186), (vi (min s103.2.2 (W64 (x137 - 1))))] 74), (sb b12 #[(vi r4.1.Country), (vi r4.1.Zone), (vi r4.1.Continent)] 65), (sb b1 #[(vi 0), (vi 0)] 74)]) => ?_)
            refine RWP.nil ?_
            obtain rfl := some_inj h256
            exact .inl ⟨rfl, F10, hs258, (Mem.le.refl _), e211, e212, e213, e214, e215, e216, e217, e218, e219, e220⟩
           ·have h259 := cond_f hj253 hb255
            refine Sc ?_
            obtain rfl := some_inj h259
            exact .inl ⟨rfl, F10, hs208, (Mem.le.refl _), e211, e212, e213, e214, e215, e216, e217, e218, e219, e220⟩
          ·rintro f w239 ⟨F12, hs240, le241, e243, e244, e245, e246, e247, e248, e249, e250, e251, e252⟩
           refine blockQ_nrm ?_
           refine thenQ_nrm ?_
           refine Rg [0, 1, 2] ?_
           refine V 47 3 (mv 13 (vi s103.1) e252) ?_
           refine V 48 3 (run_add (t := 3) (t' := 3) (x := (.tmp 47)) (y := (.const (vi 1))) (k := .i64) (a := s103.1) (b := 1) rfl rfl) ?_
           refine V 13 3 (ma 48 (vi (W64 (s103.1 + 1)))) ?_
           refine RWP.nil ?_
           have hn260 := iter_next h254 hnx134
           exact ⟨m131, Nat.lt_succ_self _, ((W64 (s103.1 + 1)), j186, j242), F12, hn260, hs240, ((((le106.trans le153).trans le185).trans le209).trans le241), e243, e244, e245, e246, e247, e248, e249, e250, e251, rfl⟩
      ·have h261 := cond_f hb133 hb135
       refine CWP.exit (by kernel_rfl) ?_
       refine thenQ_ex ?_
       refine thenQ_ex ?_
       refine blockQ_hit rfl ?_
       have hs262 : HS w0 F0 w104 F5 [(sb b22 #[(vi s103.2.1), (vi s103.2.2)] 74), (sb b12 #[(vi r4.1.Country), (vi r4.1.Zone), (vi r4.1.Continent)] 65), (sb b1 #[(vi 0), (vi 0)] 74)] := hs105.drop 0
       have ho263 := iter_done h261 hnx134
       exact .inl ⟨rfl, (s103.1, s103.2.1, s103.2.2), F5, ho263, hs262, le106, e107, e108, e109, e110, e111, e112, e113, e114⟩
     ·rintro f w118 ⟨s117, F6, rfl, hs119, le120, e121, e122, e123, e124, e125, e126, e127, e128⟩
      have h264 := k_done h102
      refine blockQ_nrm ?_
      refine thenQ_nrm ?_
      refine Rg [0, 1, 2] ?_
      refine V 31 3 (mv 11 (vi s30.1) e128) ?_
      refine V 32 3 (run_add (t := 3) (t' := 3) (x := (.tmp 31)) (y := (.const (vi 1))) (k := .i64) (a := s30.1) (b := 1) rfl rfl) ?_
      refine V 11 3 (ma 32 (vi (W64 (s30.1 + 1)))) ?_
      refine RWP.nil ?_
      have hn265 := iter_next h264 hnx54
      exact ⟨m51, Nat.lt_succ_self _, ((W64 (s30.1 + 1)), s117.2.1, s117.2.2), F6, hn265, hs119, ((le33.trans le61).trans le120), e121, e122, e123, e124, e125, e126, e127, rfl⟩
   ·have h266 := cond_f hb53 hb55
    refine CWP.exit (by kernel_rfl) ?_
    refine thenQ_ex ?_
    refine thenQ_ex ?_
    refine blockQ_hit rfl ?_
    have hs267 : HS w0 F0 w31 F2 [(sb b22 #[(vi s30.2.1), (vi s30.2.2)] 74), (sb b1 #[(vi 0), (vi 0)] 74)] := hs32.drop 1
    have ho268 := iter_done h266 hnx54
    exact .inl ⟨rfl, (s30.1, s30.2.1, s30.2.2), F2, ho268, hs267, le33, e34, e38, e40⟩
  ·rintro f w43 ⟨s42, F3, rfl, hs44, le45, e46, e47, e48⟩
   have h269 := k_done h29
   refine thenQ_nrm ?_
   refine Sq (Rg [0, 1, 2] ?_)
   refine V 95 74 (ld 74 10 b22 0 true 2 (.agg #[(vi s42.2.1), (vi s42.2.2)]) (hs44.ownAt (k := 0) rfl) e48) ?_
   refine RWP.store (ty := 0) (g := none) (by kernel_rfl) rfl (x := (.tmp 6)) (y := (.tmp 95)) (t := 74) (gg := true) (s := 2) (v := (.agg #[(vi s42.2.1), (vi s42.2.2)])) (b := b1) (o := 0) (C := #[(vi 0), (vi 0)]) e47 rfl (by kernel_rfl) hs44 (k := 1) rfl rfl rfl rfl (C' := #[(vi s42.2.1), (vi s42.2.2)]) rfl (fun w270 (hs271 : HS w0 F0 w270 F3 [(sb b22 #[(vi s42.2.1), (vi s42.2.2)] 74), (sb b1 #[(vi s42.2.1), (vi s42.2.2)] 74)]) => ?_)
   refine V 7 23 (mc (vi 0) (vi 0)) ?_
   refine Nt ?_
   refine CWP.ret (by kernel_rfl) ?_
   have hfin := some_inj h269
   subst hfin
   exact ⟨e46, (.tuple #[(.agg #[(vi s42.2.1), (vi s42.2.2)]), (vi 0)]), res_of (l := [.cell 6 74, .tmp 7]) (by kernel_rfl) (vs := [(.agg #[(vi s42.2.1), (vi s42.2.2)]), (vi 0)]) ⟨b1, 0, e47, run_loadVar' (t := 74) (g := true) (s := 2) (by kernel_rfl) (hs271.ownAt (k := 1) rfl) rfl (by decide), ⟨rfl, trivial⟩⟩, (.tuple #[(.agg #[(vi s42.2.1), (vi s42.2.2)]), (vi 0)]), F3, rfl, hs271.clear, rfl⟩
end Go.Proofs.YtlddakefmfcblaaGreatDoor
namespace Go.Proofs.YtlddakefmfcblaaGreatDoor
theorem bang_get (zs : List Int) {j : Nat} (h : j < zs.length) : zs.toArray[j]! = zs[j] := by
 simp [h]
theorem compact_sub (zs : List Int) : (Go.Lib.compact zs).Sublist zs := by
 have : (List.range zs.length).map (fun j => zs.toArray[j]!) = zs := by
  apply List.ext_getElem
  ·simp
  ·intro i h1 h2
   rw [List.getElem_map, List.getElem_range, bang_get zs h2]
 unfold Go.Lib.compact Go.Lib.compactUpTo
 conv => rhs; rw [← this]
 exact List.Sublist.map _ List.filter_sublist
theorem compact_mem {zs : List Int} {x : Int} (h : x ∈ zs) : x ∈ Go.Lib.compact zs := by
 obtain ⟨j, hj, hx⟩ := List.getElem_of_mem h
 have key : ∀ n j, j ≤ n → ∀ hj : j < zs.length, zs[j] = x → x ∈ Go.Lib.compact zs := by
  intro n
  induction n with
  | zero =>
   intro j hjn hj hx
   have : j = 0 := by omega
   subst this
   unfold Go.Lib.compact Go.Lib.compactUpTo
   rw [List.mem_map]
   exact ⟨0, by rw [List.mem_filter, List.mem_range]; exact ⟨hj, by simp [Go.Lib.keeps]⟩, by rw [bang_get zs hj]; exact hx⟩
  | succ n ih =>
   intro j hjn hj hx
   by_cases hk : Go.Lib.keeps zs.toArray j = true
   ·unfold Go.Lib.compact Go.Lib.compactUpTo
    rw [List.mem_map]
    exact ⟨j, by rw [List.mem_filter, List.mem_range]; exact ⟨hj, hk⟩, by rw [bang_get zs hj]; exact hx⟩
   ·unfold Go.Lib.keeps at hk
    rw [decide_eq_true_eq] at hk
    have h0 : j ≠ 0 := fun h => hk (.inl h)
    have h1 : zs.toArray[j]! = zs.toArray[j - 1]! := Classical.byContradiction fun h => hk (.inr h)
    rw [bang_get zs hj, bang_get zs (show j - 1 < zs.length by omega)] at h1
    exact ih (j - 1) (by omega) (by omega) (by rw [← h1]; exact hx)
 exact key j j (Nat.le_refl _) hj hx
theorem sortI_mem {l : List Int} {x : Int} : x ∈ sortI l ↔ x ∈ l := by
 unfold sortI; exact (List.mergeSort_perm l _).mem_iff
theorem sortI_sorted (l : List Int) : (sortI l).Pairwise (fun x y => x ≤ y) := by
 unfold sortI
 have := List.pairwise_mergeSort (le := fun x y : Int => decide (x ≤ y)) (by intro a b c h1 h2; simp at h1 h2 ⊢; omega) (by intro a b; simp; omega) l
 exact this.imp (fun h => by simpa using h)
def sameB (T : List Prefix) (c : List UInt8) (pl : Place) (x : Int) : Bool := match findS T c x with
 | some i => decide (plOf (pAt T i) = pl)
 | none => false
structure Run (T : List Prefix) (c : List UInt8) (pl : Place) (d lo hi : Int) : Prop where
 lo0 : 0 ≤ lo
 lod : lo ≤ d
 hid : d ≤ hi
 hi9 : hi ≤ 99999
 same : ∀ y, lo ≤ y → y ≤ hi → sameB T c pl y = true
 below : lo = 0 ∨ sameB T c pl (lo - 1) = false
 above : hi = 99999 ∨ sameB T c pl (hi + 1) = false
theorem run_one {T : List Prefix} {c : List UInt8} {pl : Place} {d e lo hi lo' hi' : Int} (h : Run T c pl d lo hi) (h' : Run T c pl e lo' hi') (h1 : lo ≤ e) (h2 : e ≤ hi) : lo = lo' ∧ hi = hi' := by
 constructor
 ·rcases Int.lt_trichotomy lo lo' with hlt | heq | hgt
  ·exfalso
   rcases h'.below with hb | hb
   ·have := h.lo0; omega
   ·have := h.same (lo' - 1) (by omega) (by have := h'.lod; omega)
    rw [hb] at this; cases this
  ·exact heq
  ·exfalso
   rcases h.below with hb | hb
   ·have := h'.lo0; omega
   ·have := h'.same (lo - 1) (by omega) (by have := h'.hid; omega)
    rw [hb] at this; cases this
 ·rcases Int.lt_trichotomy hi hi' with hlt | heq | hgt
  ·exfalso
   rcases h.above with hb | hb
   ·have := h'.hi9; omega
   ·have := h'.same (hi + 1) (by have := h'.lod; omega) (by omega)
    rw [hb] at this; cases this
  ·exact heq
  ·exfalso
   rcases h'.above with hb | hb
   ·have := h.hi9; omega
   ·have := h.same (hi' + 1) (by have := h'.hid; omega) (by omega)
    rw [hb] at this; cases this
def bnd (T : List Prefix) (x : Int) : Prop := ∃ p, p ∈ T ∧ (x = p.From ∨ x = p.To + 1)
theorem findS_congr {T : List Prefix} {c : List UInt8} {y y' : Int} (h : ∀ p, p ∈ T → dayIn p y = dayIn p y') : findS T c y = findS T c y' := by
 have hk : ∀ k, atK T k y = atK T k y' := by
  intro k
  unfold atK
  refine firstN_congr (m := T.length) (by omega) (fun i _ hi => ?_)
  rw [h _ (pAt_mem hi)]
 unfold findS
 rw [hk]
 cases atK T { text_ := c, whole_ := true } y' with
 | some i => rfl
 | none =>
  simp only
  generalize (bC c).length = n
  induction n with
  | zero => rfl
  | succ n ih => unfold downF; rw [hk, ih]
theorem day_step {T : List Prefix} {c : List UInt8} {y : Int} (h : ¬ bnd T (y + 1)) : findS T c y = findS T c (y + 1) := by
 refine findS_congr fun p hp => ?_
 rw [Bool.eq_iff_iff, dayIn_iff, dayIn_iff]
 have h1 : y + 1 ≠ p.From := fun hh => h ⟨p, hp, .inl hh⟩
 have h2 : y + 1 ≠ p.To + 1 := fun hh => h ⟨p, hp, .inr hh⟩
 omega
def loC (T : List Prefix) (c : List UInt8) (pl : Place) (d x : Int) : Bool := decide (x ≤ d) && !sameB T c pl (x - 1)
def hiC (T : List Prefix) (c : List UInt8) (pl : Place) (d x : Int) : Bool := decide (x > d) && (decide (x ≤ 99999) && !sameB T c pl x)
structure LoOK (T : List Prefix) (c : List UInt8) (pl : Place) (d lo : Int) : Prop where
 pos : 0 ≤ lo
 at' : lo = 0 ∨ loC T c pl d lo = true
 top : ∀ x, bnd T x → loC T c pl d x = true → x ≤ lo
structure HiOK (T : List Prefix) (c : List UInt8) (pl : Place) (d hi : Int) : Prop where
 le : hi ≤ 99999
 at' : hi = 99999 ∨ hiC T c pl d (hi + 1) = true
 bot : ∀ x, bnd T x → hiC T c pl d x = true → hi + 1 ≤ x
theorem run_of {T : List Prefix} {c : List UInt8} {pl : Place} {d lo hi : Int} (hd : 0 ≤ d ∧ d ≤ 99999) (hs : sameB T c pl d = true) (hl : LoOK T c pl d lo) (hh : HiOK T c pl d hi) : Run T c pl d lo hi := by
 have hlod : lo ≤ d := by
  rcases hl.at' with h | h
  ·omega
  ·unfold loC at h; rw [Bool.and_eq_true, decide_eq_true_eq] at h; exact h.1
 have hdhi : d ≤ hi := by
  rcases hh.at' with h | h
  ·omega
  ·unfold hiC at h; rw [Bool.and_eq_true, decide_eq_true_eq] at h; omega
 have down : ∀ n : Nat, lo ≤ d - n → sameB T c pl (d - n) = true := by
  intro n
  induction n with
  | zero => intro _; simpa using hs
  | succ n ih =>
   intro hn
   have h1 := ih (by omega)
   by_cases hb : bnd T (d - n)
   ·cases hc : sameB T c pl (d - (n + 1 : Nat)) with
    | true => rfl
    | false =>
     have : loC T c pl d (d - n) = true := by
      unfold loC
      rw [decide_eq_true (by omega), show d - (n : Int) - 1 = d - ((n + 1 : Nat) : Int) by omega, hc]; rfl
     have := hl.top _ hb this
     omega
   ·have e : d - (n : Int) = (d - ((n + 1 : Nat) : Int)) + 1 := by omega
    rw [e] at hb h1
    unfold sameB at h1 ⊢
    rw [day_step hb]; exact h1
 have up : ∀ n : Nat, d + n ≤ hi → sameB T c pl (d + n) = true := by
  intro n
  induction n with
  | zero => intro _; simpa using hs
  | succ n ih =>
   intro hn
   have h1 := ih (by omega)
   have e : d + ((n + 1 : Nat) : Int) = d + (n : Int) + 1 := by omega
   rw [e]
   by_cases hb : bnd T (d + n + 1)
   ·cases hc : sameB T c pl (d + n + 1) with
    | true => rfl
    | false =>
     have : hiC T c pl d (d + n + 1) = true := by
      unfold hiC
      rw [decide_eq_true (by omega), decide_eq_true (by have := hh.le; omega), hc]; rfl
     have := hh.bot _ hb this
     omega
   ·unfold sameB at h1 ⊢
    rw [← day_step hb]; exact h1
 refine ⟨hl.pos, hlod, hdhi, hh.le, fun y h1 h2 => ?_, ?_, ?_⟩
 ·rcases Int.le_total y d with h | h
  ·have := down (d - y).toNat (by omega)
   rwa [show d - ((d - y).toNat : Int) = y by omega] at this
  ·have := up (y - d).toNat (by omega)
   rwa [show d + ((y - d).toNat : Int) = y by omega] at this
 ·rcases hl.at' with h | h
  ·exact .inl h
  ·unfold loC at h; rw [Bool.and_eq_true, Bool.not_eq_true'] at h; exact .inr h.2
 ·rcases hh.at' with h | h
  ·exact .inl h
  ·unfold hiC at h; rw [Bool.and_eq_true, Bool.and_eq_true, Bool.not_eq_true'] at h; exact .inr h.2.2
def SinceOK (T : List Prefix) (c : List UInt8) (d : Int) (r : Span × Int) : Prop :=
 ((placeS T c d).2 ≠ 0 ∧ r = ({ Lo := 0, Hi := 0 }, (placeS T c d).2)) ∨ ((placeS T c d).2 = 0 ∧ r.2 = 0 ∧ Run T c (placeS T c d).1 d r.1.Lo r.1.Hi)
theorem since_one {T : List Prefix} {c : List UInt8} {d : Int} {r r' : Span × Int} (h : SinceOK T c d r) (h' : SinceOK T c d r') : r = r' := by
 rcases h with ⟨h1, h2⟩ | ⟨h1, h2, h3⟩
 ·rcases h' with ⟨_, h2'⟩ | ⟨h1', _⟩
  ·rw [h2, h2']
  ·exact absurd h1' h1
 ·rcases h' with ⟨h1', _⟩ | ⟨h1', h2', h3'⟩
  ·exact absurd h1 h1'
  ·obtain ⟨a, b⟩ := run_one h3 h3' h3.lod h3.hid
   obtain ⟨⟨lo, hi⟩, e⟩ := r
   obtain ⟨⟨lo', hi'⟩, e'⟩ := r'
   simp only at a b h2 h2'
   rw [a, b, h2, h2']
theorem place_ok {T : List Prefix} {c : List UInt8} {d : Int} (h : (placeS T c d).2 = 0) : wrongT T c d = 0 ∧ ∃ i, findS T c d = some i ∧ (placeS T c d).1 = plOf (pAt T i) ∧ sameB T c (placeS T c d).1 d = true := by
 unfold placeS at h ⊢
 by_cases hw : wrongT T c d = 0
 ·rw [if_pos hw] at h
  cases hf : findS T c d with
  | none => rw [hf] at h; exact absurd (show (3 : Int) = 0 from h) (by decide)
  | some i =>
   refine ⟨hw, i, rfl, by rw [if_pos hw], ?_⟩
   rw [if_pos hw]
   unfold sameB
   rw [hf]
   simp
 ·rw [if_neg hw] at h; exact absurd h hw
theorem rowOf_place {T : List Prefix} {c : List UInt8} {d : Int} : (rowOfS T c d).2 = (placeS T c d).2 := by
 unfold rowOfS placeS
 by_cases hw : wrongT T c d = 0
 ·rw [if_pos hw, if_pos hw]; cases findS T c d <;> rfl
 ·rw [if_neg hw, if_neg hw]
theorem peq_pl (p q : Place) : ((p.Country == q.Country) && ((p.Zone == q.Zone) && ((p.Continent == q.Continent) && true))) = decide (p = q) := by
 obtain ⟨a, b, e⟩ := p
 obtain ⟨a', b', e'⟩ := q
 rw [Bool.eq_iff_iff]
 simp
section
variable {N : Nat} {T : List Prefix} {c : List UInt8} {d : Int}
def bl (T : List Prefix) : List Int := cat T.length (fun i => [(pAt T i).From, (pAt T i).To + 1])
theorem bl_mem {x : Int} : x ∈ bl T ↔ bnd T x := by
 unfold bl cat bnd
 rw [List.mem_flatMap]
 constructor
 ·rintro ⟨i, hi, hx⟩
  rw [List.mem_range] at hi
  simp only [List.mem_cons, List.not_mem_nil, or_false] at hx
  exact ⟨pAt T i, pAt_mem hi, hx⟩
 ·rintro ⟨p, hp, hx⟩
  obtain ⟨i, hi, rfl⟩ := mem_pAt hp
  exact ⟨i, by rw [List.mem_range]; exact hi, by simpa using hx⟩
theorem s_Since1 {m : List (air_key × List Int)} (hm : ∀ k, mgetD m k [] = keyIdx T k T.length) (h400 : T.length ≤ 400) (hN : 4294967300 < N) {j : Nat} (hj : j < T.length) (x : Int) : air_Since_1 N x m T c (j : Int) = some (sameB T c (plOf (pAt T j)) x) := by
 unfold air_Since_1 sameB
 rw [s_table_row hm h400 hN, Option.bind_some, toI_ge]
 cases hf : findS T c x with
 | none => rfl
 | some i =>
  simp only [Option.isSome_some, cond_true]
  rw [show toI (some i) = (i : Int) from rfl, idx_p (findS_lt hf).1, idx_p hj]
  simp only [Option.bind_some]
  have e1 : air_placeOf N (pAt T i) = some (plOf (pAt T i)) := rfl
  have e2 : air_placeOf N (pAt T j) = some (plOf (pAt T j)) := rfl
  rw [e1, e2]
  simp only [Option.bind_some]
  rw [peq_pl]
theorem back_loop {body : Int → Int × Int → Option (Int × Bool)} {B : List Int} {P : Int → Bool} (hP : ∀ i x, x ∈ B → body 0 (i, x) = some (if P x = true then (x, false) else (0, true))) (hB : B.length < 4000000000) (hN : 4294967300 < N) :
  ∃ lo f, slices_Backward_int_int_1 N (brkY body) B ((0 : Int), true) = some (lo, f) ∧ ((lo = 0 ∧ ∀ x, x ∈ B → P x = false) ∨ ∃ j, ∃ h : j < B.length, lo = B[j] ∧ P B[j] = true ∧ ∀ k (hk : k < B.length), j < k → P B[k] = false) := by
 unfold slices_Backward_int_int_1
 rw [W64_id (by omega) (by omega)]
 have loop : ∀ k M, k < M → k ≤ B.length → (∀ q (hq : q < B.length), k ≤ q → P B[q] = false) → ∃ lo f, ((iter (slices_Backward_int_int_1_L0 N (brkY body) B ((0 : Int), true)) M ((k : Int) - 1, ((0 : Int), true))).bind fun o => o.k (fun r => some r) (fun s14 => some s14.2)) = some (lo, f) ∧ ((lo = 0 ∧ ∀ x, x ∈ B → P x = false) ∨ ∃ j, ∃ h : j < B.length, lo = B[j] ∧ P B[j] = true ∧ ∀ k (hk : k < B.length), j < k → P B[k] = false) := by
  intro k
  induction k with
  | zero =>
   intro M hM _ hno
   obtain ⟨M, rfl⟩ : ∃ M', M = M' + 1 := ⟨M - 1, by omega⟩
   refine ⟨0, true, ?_, .inl ⟨rfl, fun x hx => ?_⟩⟩
   ·rw [iter]
    have : slices_Backward_int_int_1_L0 N (brkY body) B ((0 : Int), true) (((0 : Nat) : Int) - 1, ((0 : Int), true)) = some (.done (((0 : Nat) : Int) - 1, ((0 : Int), true))) := by
     unfold slices_Backward_int_int_1_L0
     rw [decide_eq_false (show ¬ ((((0 : Nat) : Int) - 1, ((0 : Int), true)) : Int × Int × Bool).1 ≥ 0 by decide), cond_false]
    rw [this]; rfl
   ·obtain ⟨q, hq, rfl⟩ := List.getElem_of_mem hx
    exact hno q hq (by omega)
  | succ k ih =>
   intro M hM hk hno
   obtain ⟨M, rfl⟩ : ∃ M', M = M' + 1 := ⟨M - 1, by omega⟩
   have hkB : k < B.length := by omega
   have e0 : (((k + 1 : Nat) : Int) - 1) = (k : Int) := by omega
   rw [e0]
   have hbody : slices_Backward_int_int_1_L0 N (brkY body) B ((0 : Int), true) ((k : Int), ((0 : Int), true)) = some (if P B[k] = true then .ret (B[k], false) else .next ((k : Int) - 1, ((0 : Int), true))) := by
    unfold slices_Backward_int_int_1_L0
    simp only
    rw [decide_eq_true (show (k : Int) ≥ 0 by omega), cond_true, idx_nat hkB, Option.bind_some]
    unfold brkY
    simp only [cond_true]
    rw [hP _ _ (List.getElem_mem hkB), W64_id (by omega) (by omega)]
    by_cases hp : P B[k] = true
    ·rw [if_pos hp, if_pos hp]; rfl
    ·rw [if_neg hp, if_neg hp]; rfl
   rw [iter, hbody]
   by_cases hp : P B[k] = true
   ·rw [if_pos hp]
    exact ⟨B[k], false, rfl, .inr ⟨k, hkB, rfl, hp, fun q hq hkq => hno q hq (by omega)⟩⟩
   ·rw [if_neg hp]
    refine ih M (by omega) (by omega) (fun q hq hkq => ?_)
    by_cases hqk : q = k
    ·subst hqk; simpa using hp
    ·exact hno q hq (by omega)
 exact loop B.length N (by omega) (Nat.le_refl _) (fun q hq hk => by omega)
theorem s_Since (hT : fitT N T) (hN : 4294967300 < N) : ∃ r, air_Since N T c d = some r ∧ SinceOK T c d r := by
 unfold air_Since
 rw [s_RowOf hT hN, Option.bind_some, rowOf_place]
 by_cases hp : (placeS T c d).2 = 0
 ·rw [hp, show ((0 : Int) != 0) = false from rfl, cond_false]
  obtain ⟨hw, j, hf, hpl, hsame⟩ := place_ok hp
  have hv := (wrongT_ok hw).1
  have hday := (wrongT_ok hw).2.2
  unfold inI at hday
  rw [Bool.and_eq_true, decide_eq_true_eq, decide_eq_true_eq] at hday
  obtain ⟨h400, hR, hA⟩ := valid_R hv
  have hj := (findS_lt hf).1
  have er : rowOfS T c d = ((j : Int), 0) := by unfold rowOfS; rw [if_pos hw, hf]
  obtain ⟨m, hm, hk⟩ := s_tableOf (N := N) h400 hN
  rw [hm, Option.bind_some, er]
  rw [iter_cat' (n := T.length) 2 (fun i => [(pAt T i).From, (pAt T i).To + 1]) (fun i _ => by simp) (s0 := []) (fun i s hi hs => by
   unfold air_Since_L0
   simp only
   have hp := hR _ (pAt_mem hi)
   have h1 := hp.f0
   have h2 := hp.ft
   have h3 := hp.tle
   rw [lt_dec hi, cond_true, idx_p hi, Option.bind_some, W64_id (n := (pAt T i).To + 1) (by omega) (by omega), apnd_ok (by simp at hs ⊢; omega), Option.bind_some, w64s i (by omega)]) (fun s => by
   unfold air_Since_L0
   simp only [lt_dec', cond_false]) (by omega)]
  simp only [List.nil_append, Option.bind_some, Flow.k]
  have ebl : cat T.length (fun i => [(pAt T i).From, (pAt T i).To + 1]) = bl T := rfl
  rw [ebl]
  have e1 : slices_Sort_int_int N (bl T) = some (sortI (bl T)) := rfl
  have e2 : slices_Compact_int_int N (sortI (bl T)) = some (Go.Lib.compact (sortI (bl T))) := by
   unfold slices_Compact_int_int
   rw [if_pos (compact_sub _).length_le]
  rw [e1, Option.bind_some, e2, Option.bind_some]
  have hBm : ∀ x, x ∈ Go.Lib.compact (sortI (bl T)) ↔ bnd T x := fun x => ⟨fun h => bl_mem.1 (sortI_mem.1 ((compact_sub _).subset h)), fun h => compact_mem (sortI_mem.2 (bl_mem.2 h))⟩
  have hBs : (Go.Lib.compact (sortI (bl T))).Pairwise (fun x y => x ≤ y) := (sortI_sorted _).sublist (compact_sub _)
  have hBl : (Go.Lib.compact (sortI (bl T))).length ≤ 800 := by
   refine Nat.le_trans (compact_sub _).length_le ?_
   unfold sortI
   rw [List.length_mergeSort]
   unfold bl
   have := cat_le (n := T.length) (K := 2) (f := fun i => [(pAt T i).From, (pAt T i).To + 1]) (fun i _ => by simp)
   omega
  have hB0 : ∀ x, bnd T x → 0 ≤ x ∧ x ≤ 100000 := by
   rintro x ⟨p, hp, hx⟩
   have h1 := (hR p hp).f0
   have h2 := (hR p hp).ft
   have h3 := (hR p hp).tle
   rcases hx with rfl | rfl <;> omega
  generalize hBB : Go.Lib.compact (sortI (bl T)) = B at hBm hBs hBl
  rw [List.pairwise_iff_getElem] at hBs
  have hpj : plOf (pAt T j) = (placeS T c d).1 := hpl.symm
  obtain ⟨lo, f, hback, hlo⟩ := back_loop (N := N) (body := air_Since_L1 N T c d ((j : Int), 0) m (bl T, (T.length : Int)) (sortI (bl T)) B) (B := B) (P := loC T c (placeS T c d).1 d) (fun i x hx => by
   have hx0 := hB0 x ((hBm x).1 hx)
   unfold air_Since_L1
   simp only
   rw [W64_id (n := x - 1) (by omega) (by omega), s_Since1 hk h400 hN hj, Option.bind_some, hpj]
   unfold loC
   by_cases hxd : x ≤ d
   ·rw [decide_eq_true hxd, cond_true, Option.bind_some, Bool.true_and]
    cases sameB T c (placeS T c d).1 (x - 1) <;> rfl
   ·rw [decide_eq_false hxd]; rfl) (by omega) hN
  rw [hback, Option.bind_some]
  have LO : LoOK T c (placeS T c d).1 d lo := by
   rcases hlo with ⟨h1, h2⟩ | ⟨q, hq, h1, h2, h3⟩
   ·refine ⟨by omega, .inl h1, fun x hx hc => ?_⟩
    rw [h2 x ((hBm x).2 hx)] at hc; cases hc
   ·have hq0 := hB0 _ ((hBm _).1 (List.getElem_mem hq))
    refine ⟨by rw [h1]; exact hq0.1, .inr (by rw [h1]; exact h2), fun x hx hc => ?_⟩
    obtain ⟨k, hkl, rfl⟩ := List.getElem_of_mem ((hBm x).2 hx)
    rcases Nat.lt_trichotomy k q with h | h | h
    ·rw [h1]; exact hBs k q hkl hq h
    ·subst h; omega
    ·rw [h3 k hkl h] at hc; cases hc
  obtain ⟨o, ho, hO⟩ := iter_ex (body := air_Since_L2 N T c d ((j : Int), 0) m (bl T, (T.length : Int)) (sortI (bl T)) B (lo, f)) B.length (fun i s => s = ((i : Int), 99999) ∧ ∀ k (hk : k < B.length), k < i → hiC T c (placeS T c d).1 d B[k] = false)
   (fun o => (o = .done ((B.length : Int), 99999) ∧ ∀ k (hk : k < B.length), hiC T c (placeS T c d).1 d B[k] = false) ∨ ∃ i, ∃ hi : i < B.length, o = .done ((i : Int), B[i] - 1) ∧ hiC T c (placeS T c d).1 d B[i] = true ∧ ∀ k (hk : k < B.length), k < i → hiC T c (placeS T c d).1 d B[k] = false) (by
   rintro i s hi ⟨rfl, hno⟩
   by_cases h : i < B.length
   ·have hx0 := hB0 _ ((hBm _).1 (List.getElem_mem h))
    have hbody : air_Since_L2 N T c d ((j : Int), 0) m (bl T, (T.length : Int)) (sortI (bl T)) B (lo, f) ((i : Int), 99999) = some (bif hiC T c (placeS T c d).1 d B[i] then .done ((i : Int), B[i] - 1) else .next (((i + 1 : Nat) : Int), 99999)) := by
     unfold air_Since_L2
     simp only
     rw [lt_dec h, cond_true, idx_nat h, Option.bind_some, s_Since1 hk h400 hN hj, Option.bind_some, hpj, W64_id (n := B[i] - 1) (by omega) (by omega), w64s i (by omega)]
     unfold hiC
     cases decide (B[i] > d) <;> cases decide (B[i] ≤ 99999) <;> cases sameB T c (placeS T c d).1 B[i] <;> rfl
    rw [hbody]
    cases hc : hiC T c (placeS T c d).1 d B[i] with
    | true => exact .inr ⟨_, rfl, (fun _ h => by cases h), .inr ⟨i, h, rfl, hc, hno⟩⟩
    | false =>
     refine .inl ⟨_, rfl, ⟨rfl, fun k hk hki => ?_⟩, h⟩
     by_cases hkk : k = i
     ·subst hkk; exact hc
     ·exact hno k hk (by omega)
   ·have : i = B.length := by omega
    subst this
    refine .inr ⟨_, ?_, (fun _ h => by cases h), .inl ⟨rfl, fun k hk => hno k hk hk⟩⟩
    unfold air_Since_L2
    simp only [lt_dec', cond_false]) B.length N 0 (0, 99999) (by omega) ⟨rfl, fun k hk h => by omega⟩ (by omega)
  have HI : ∀ hi, (hi = 99999 ∧ ∀ k (hk : k < B.length), hiC T c (placeS T c d).1 d B[k] = false) ∨ (∃ i, ∃ h : i < B.length, hi = B[i] - 1 ∧ hiC T c (placeS T c d).1 d B[i] = true ∧ ∀ k (hk : k < B.length), k < i → hiC T c (placeS T c d).1 d B[k] = false) → HiOK T c (placeS T c d).1 d hi := by
   rintro hi (⟨h1, h2⟩ | ⟨i, hi', h1, h2, h3⟩)
   ·refine ⟨by omega, .inl h1, fun x hx hc => ?_⟩
    obtain ⟨k, hkl, rfl⟩ := List.getElem_of_mem ((hBm x).2 hx)
    rw [h2 k hkl] at hc; cases hc
   ·have h2' := h2
    unfold hiC at h2'
    rw [Bool.and_eq_true, Bool.and_eq_true, decide_eq_true_eq, decide_eq_true_eq] at h2'
    refine ⟨by omega, .inr (by rw [h1, Int.sub_add_cancel]; exact h2), fun x hx hc => ?_⟩
    obtain ⟨k, hkl, rfl⟩ := List.getElem_of_mem ((hBm x).2 hx)
    rcases Nat.lt_trichotomy k i with h | h | h
    ·rw [h3 k hkl h] at hc; cases hc
    ·subst h; omega
    ·have := hBs i k hi' hkl h; omega
  rw [ho]
  rcases hO with ⟨rfl, h2⟩ | ⟨i, hi', rfl, h2, h3⟩
  ·exact ⟨({ Lo := lo, Hi := 99999 }, 0), rfl, .inr ⟨hp, rfl, run_of hday hsame LO (HI 99999 (.inl ⟨rfl, h2⟩))⟩⟩
  ·exact ⟨({ Lo := lo, Hi := B[i] - 1 }, 0), rfl, .inr ⟨hp, rfl, run_of hday hsame LO (HI (B[i] - 1) (.inr ⟨i, hi', rfl, h2, h3⟩))⟩⟩
 ·rw [show ((placeS T c d).2 != 0) = true by simpa using hp, cond_true]
  exact ⟨_, rfl, .inl ⟨hp, rfl⟩⟩
end
end Go.Proofs.YtlddakefmfcblaaGreatDoor
namespace Go.Proofs.YtlddakefmfcblaaGreatDoor
open Go.Proofs
end Go.Proofs.YtlddakefmfcblaaGreatDoor
namespace Go.Proofs.YtlddakefmfcblaaGreatDoor
open Go.Proofs
end Go.Proofs.YtlddakefmfcblaaGreatDoor
namespace Go.Proofs.YtlddakefmfcblaaGreatDoor
structure OKL (T : List Prefix) (c : List UInt8) (pl : Place) (d : Int) (L : List Int) (lo hi : Int) : Prop where
 pos : 0 ≤ lo
 lo' : lo = 0 ∨ loC T c pl d lo = true
 top : ∀ x, x ∈ L → loC T c pl d x = true → x ≤ lo
 le : hi ≤ 99999
 hi' : hi = 99999 ∨ hiC T c pl d (hi + 1) = true
 bot : ∀ x, x ∈ L → hiC T c pl d x = true → hi + 1 ≤ x
section
variable {N : Nat} {T : List Prefix} {c : List UInt8} {d : Int} {pl : Place}
theorem okl_step {L : List Int} {lo hi x : Int} (h : OKL T c pl d L lo hi) (hx : 0 ≤ x) : OKL T c pl d (L ++ [x]) (if (decide (x > 0) && loC T c pl d x) = true then max lo x else lo) (if hiC T c pl d x = true then min hi (x - 1) else hi) := by
 have hp := h.pos
 refine ⟨?_, ?_, ?_, ?_, ?_, ?_⟩
 ·split <;> omega
 ·split
  ·rename_i hc
   rw [Bool.and_eq_true] at hc
   rcases Int.le_total lo x with hl | hl
   ·rw [Int.max_eq_right hl]; exact .inr hc.2
   ·rw [Int.max_eq_left hl]; exact h.lo'
  ·exact h.lo'
 ·intro y hy hc
  rcases List.mem_append.1 hy with hy | hy
  ·have := h.top y hy hc
   split <;> omega
  ·simp only [List.mem_singleton] at hy
   subst hy
   by_cases h0 : y > 0
   ·rw [if_pos (show (decide (y > 0) && loC T c pl d y) = true by rw [decide_eq_true h0, hc]; rfl)]; omega
   ·split <;> omega
 ·have := h.le; split <;> omega
 ·split
  ·rename_i hc
   rcases Int.le_total hi (x - 1) with hl | hl
   ·rw [Int.min_eq_left hl]; exact h.hi'
   ·rw [Int.min_eq_right hl, Int.sub_add_cancel]; exact .inr hc
  ·exact h.hi'
 ·intro y hy hc
  rcases List.mem_append.1 hy with hy | hy
  ·have := h.bot y hy hc
   split <;> omega
  ·simp only [List.mem_singleton] at hy
   subst hy
   rw [if_pos hc]; omega
theorem ref_same (h : pl.Country ≠ 0) (x : Int) : decide (refPl T c x = pl) = sameB T c pl x := by
 unfold refPl sameB
 cases findS T c x with
 | none =>
  rw [decide_eq_false]
  rintro rfl
  exact h rfl
 | some i => rfl
theorem s_rSince (hT : fitT N T) (hN : 4294967300 < N) : ∃ r, ref01_Since N T c d = some r ∧ SinceOK T c d r := by
 unfold ref01_Since
 rw [s_rPlaceOf hT hN, Option.bind_some]
 by_cases hp : (placeS T c d).2 = 0
 ·rw [hp, show ((0 : Int) != 0) = false from rfl, cond_false]
  obtain ⟨hw, j, hf, hpl, hsame⟩ := place_ok hp
  have hv := (wrongT_ok hw).1
  have hday := (wrongT_ok hw).2.2
  unfold inI at hday
  rw [Bool.and_eq_true, decide_eq_true_eq, decide_eq_true_eq] at hday
  obtain ⟨h400, hR, hA⟩ := valid_R hv
  have hne : (placeS T c d).1.Country ≠ 0 := by
   rw [hpl]
   have := (hR _ (pAt_mem (findS_lt hf).1)).c1
   show (pAt T j).Country ≠ 0
   omega
  have inner : ∀ (i : Nat) (hi : i < T.length) (s30 : Int × Int × Int) (L : List Int) (lo hi' : Int), OKL T c (placeS T c d).1 d L lo hi' → ∃ lo2 hi2, iter (ref01_Since_L1 N T c d (placeS T c d) s30 [(pAt T i).From, (pAt T i).To + 1]) N (0, lo, hi') = some (.done (2, lo2, hi2)) ∧ OKL T c (placeS T c d).1 d (L ++ [(pAt T i).From, (pAt T i).To + 1]) lo2 hi2 := by
   intro i hi s30 L lo hi' hok
   have hp := hR _ (pAt_mem hi)
   have h1 := hp.f0
   have h2 := hp.ft
   have h3 := hp.tle
   generalize hB : [(pAt T i).From, (pAt T i).To + 1] = B
   have hBl : B.length = 2 := by subst hB; rfl
   have hB0 : ∀ x, x ∈ B → 0 ≤ x ∧ x ≤ 100000 := by
    subst hB
    intro x hx
    simp only [List.mem_cons, List.not_mem_nil, or_false] at hx
    rcases hx with rfl | rfl <;> omega
   obtain ⟨o, ho, lo2, hi2, rfl, hres⟩ := iter_ex (body := ref01_Since_L1 N T c d (placeS T c d) s30 B) 2 (fun k s => ∃ lo hi, s = ((k : Int), lo, hi) ∧ OKL T c (placeS T c d).1 d (L ++ B.take k) lo hi) (fun o => ∃ lo2 hi2, o = .done (2, lo2, hi2) ∧ OKL T c (placeS T c d).1 d (L ++ B) lo2 hi2) (by
    rintro k s hk ⟨lo, hi, rfl, hok⟩
    by_cases h : k < 2
    ·have hkB : k < B.length := by omega
     have hx := hB0 _ (List.getElem_mem hkB)
     have htake : B.take (k + 1) = B.take k ++ [B[k]] := by rw [List.take_add_one, List.getElem?_eq_getElem hkB]; rfl
     have step := okl_step hok hx.1
     rw [List.append_assoc, ← htake] at step
     refine .inl ⟨_, ?_, ⟨_, _, rfl, step⟩, h⟩
     ·unfold ref01_Since_L1
      simp only
      rw [decide_eq_true (show (k : Int) < 2 by omega), cond_true, idx_nat hkB, Option.bind_some, W64_id (n := B[k] - 1) (by omega) (by omega), s_rplace hR h400 hN, s_rplace hR h400 hN, Option.bind_some, Option.bind_some, peq_pl, peq_pl, ref_same hne, ref_same hne, w64s k (by omega)]
      have a1 : (bif (decide (B[k] > 0)) then (bif (decide (B[k] ≤ d)) then some (!sameB T c (placeS T c d).1 (B[k] - 1)) else some false) else some false) = some (decide (B[k] > 0) && loC T c (placeS T c d).1 d B[k]) := by
       unfold loC
       cases decide (B[k] > 0) <;> cases decide (B[k] ≤ d) <;> rfl
      have a2 : (bif (decide (B[k] > d)) then (bif (decide (B[k] ≤ 99999)) then some (!sameB T c (placeS T c d).1 B[k]) else some false) else some false) = some (hiC T c (placeS T c d).1 d B[k]) := by
       unfold hiC
       cases decide (B[k] > d) <;> cases decide (B[k] ≤ 99999) <;> rfl
      rw [a1, a2, Option.bind_some]
      have a3 : (bif (decide (B[k] > 0) && loC T c (placeS T c d).1 d B[k]) then some (max lo B[k]) else some lo) = some (if (decide (B[k] > 0) && loC T c (placeS T c d).1 d B[k]) = true then max lo B[k] else lo) := by
       cases (decide (B[k] > 0) && loC T c (placeS T c d).1 d B[k]) <;> rfl
      have a4 : (bif (hiC T c (placeS T c d).1 d B[k]) then some (min hi (B[k] - 1)) else some hi) = some (if hiC T c (placeS T c d).1 d B[k] = true then min hi (B[k] - 1) else hi) := by
       cases hiC T c (placeS T c d).1 d B[k] <;> rfl
      rw [a3, Option.bind_some, Option.bind_some, a4, Option.bind_some]
    ·have : k = 2 := by omega
     subst this
     rw [← hBl, List.take_length] at hok
     refine .inr ⟨_, ?_, (fun _ h => by cases h), lo, hi, rfl, hok⟩
     unfold ref01_Since_L1
     simp only
     rw [decide_eq_false (show ¬ (((2 : Nat) : Int) < 2) by decide), cond_false]
     rfl) 2 N 0 (0, lo, hi') (by omega) ⟨lo, hi', rfl, by simpa using hok⟩ (by omega)
   exact ⟨lo2, hi2, ho, hres⟩
  obtain ⟨o, ho, lo, hi, rfl, hok⟩ := iter_ex (body := ref01_Since_L0 N T c d (placeS T c d)) T.length (fun i s => ∃ lo hi, s = ((i : Int), lo, hi) ∧ OKL T c (placeS T c d).1 d (cat i (fun i => [(pAt T i).From, (pAt T i).To + 1])) lo hi) (fun o => ∃ lo hi, o = .done ((T.length : Int), lo, hi) ∧ OKL T c (placeS T c d).1 d (bl T) lo hi) (by
   rintro i s hi ⟨lo, hi', rfl, hok⟩
   by_cases h : i < T.length
   ·obtain ⟨lo2, hi2, h1, h2⟩ := inner i h ((i : Int), lo, hi') _ lo hi' hok
    refine .inl ⟨_, ?_, ⟨lo2, hi2, rfl, by rw [cat_succ]; exact h2⟩, h⟩
    have hp := hR _ (pAt_mem h)
    have q1 := hp.f0
    have q2 := hp.ft
    have q3 := hp.tle
    unfold ref01_Since_L0
    simp only
    rw [lt_dec h, cond_true, idx_p h]
    simp only [Option.bind_some]
    rw [W64_id (n := (pAt T i).To + 1) (by omega) (by omega), h1, w64s i (by omega)]
    rfl
   ·have : i = T.length := by omega
    subst this
    refine .inr ⟨_, ?_, (fun _ h => by cases h), lo, hi', rfl, hok⟩
    unfold ref01_Since_L0
    simp only [lt_dec', cond_false]) T.length N 0 (0, 0, 99999) (by omega) ⟨0, 99999, rfl, by
     refine ⟨Int.le_refl _, .inl rfl, fun x hx => ?_, Int.le_refl _, .inl rfl, fun x hx => ?_⟩ <;> simp [cat] at hx⟩ (by omega)
  rw [ho]
  refine ⟨({ Lo := lo, Hi := hi }, 0), rfl, .inr ⟨hp, rfl, run_of hday hsame ⟨hok.pos, hok.lo', fun x hx => hok.top x (bl_mem.2 hx)⟩ ⟨hok.le, hok.hi', fun x hx => hok.bot x (bl_mem.2 hx)⟩⟩⟩
 ·rw [show ((placeS T c d).2 != 0) = true by simpa using hp, cond_true]
  exact ⟨_, rfl, .inl ⟨hp, rfl⟩⟩
end
end Go.Proofs.YtlddakefmfcblaaGreatDoor
namespace Go.Proofs.YtlddakefmfcblaaGreatDoor
open Go.Proofs
def air_Texts_L0 (N : Nat) (x0 : (List Prefix)) (x1 : Int) (x2 : Int) (r1 : Bool) (j15 : (Bool)) : (List (List UInt8) × Int) → Option (Flow ((List (List UInt8)) × Int) (List (List UInt8) × Int)) := fun s50 =>
 (bif (decide (s50.2 < (x0.length : Int))) then ((idx x0 s50.2).bind fun x75 => ((bif (!x75.Whole) then (bif (x75.Country == x1) then ((air_within N x2 x75.From x75.To).bind fun r113 => some r113) else some false) else some false).bind fun j97 => ((bif j97 then ((apnd s50.1 [x75.Text]).bind fun r143 => some r143) else some s50.1).bind fun j126 => some (.next (j126, (W64 (s50.2 + 1))))))) else some (.done (s50.1, s50.2)))
def air_Texts (N : Nat) (x0 : (List Prefix)) (x1 : Int) (x2 : Int) : Option ((List (List UInt8)) × Int) :=
 ((air_ValidTable N x0).bind fun r1 => (bif (!r1) then some (([] : List (List UInt8)), 12) else (((air_within N x2 0 99999).bind fun r23 => (bif (!r23) then some true else ((air_within N x1 1 65535).bind fun r34 => some (!r34)))).bind fun j15 => (bif j15 then some (([] : List (List UInt8)), 1) else ((iter (air_Texts_L0 N x0 x1 x2 r1 j15) N (([] : List (List UInt8)), 0)).bind fun o => o.k (fun r => some r) (fun s61 => ((slices_Sort_string_string N s61.1).bind fun r160 => some (r160, 0))))))))
theorem co_air_Texts : CallOk Tryz.prog 61 := fun _ _ => by kernel_rfl
set_option maxHeartbeats 4000000 in
set_option maxRecDepth 100000 in
theorem c_air_Texts (N : Nat) (w0 : World) (F0 : Mem) (hF : ∀ b o, F0 b = some o → w0.heap[b]? = some o) (x0 : (List Prefix)) (a0_0 : Option Addr) (n0_0 : Nat) (hb0_0 : LC x0.length n0_0) (hs0_0 : SlA tPrefix F0 a0_0 x0) (x1 : Int) (x2 : Int) (r : ((List (List UInt8)) × Int)) (h : air_Texts N x0 x1 x2 = some r) :
  Calls Tryz.prog 61 ([(.slice a0_0 x0.length n0_0), (vi x1), (vi x2)] : List Value).toArray w0 (FRet w0 F0 fun F' v => ∃ (aq0_0 : Option Addr) (nq0_0 : Nat), v = (.tuple #[(.slice aq0_0 r.1.length nq0_0), (vi r.2)]) ∧ LC r.1.length nq0_0 ∧ SlA tStr F' aq0_0 r.1) := by
 have hs0 := HS.start hF
 refine calls_of (n := 56) (c := bodyOf Tryz.f61) Tryz.func61 (by kernel_rfl) (by kernel_rfl) (by kernel_rfl) ?_
 refine Sq (Rg [0, 1] ?_)
 refine V 6 80 (mc (.slice none 0 0) (.slice none ([] : List (List UInt8)).length 0)) ?_
 refine V 7 23 (mc (vi 0) (vi 0)) ?_
 refine Nss ?_
 refine Bk ?_
 refine Sq (Rg [0, 1, 2, 3] ?_)
 refine V 12 61 (mv 0 (.slice a0_0 x0.length n0_0)) ?_
 obtain ⟨r1, hr2, h3⟩ := bind_some h
 refine Cl 13 4 56 #[(.tmp 12)] #[61] co_air_ValidTable hs0 (c_air_ValidTable N w0 F0 hs0.pers (x0) a0_0 n0_0 hb0_0 hs0_0 _ hr2) ?_
 intro v4 F1 w5 hs6 le7 hp8
 obtain rfl := hp8
 refine V 14 4 (run_not (t := 4) (x := (.tmp 13)) (a := r1) rfl) ?_
 refine V 11 4 (ma 14 (.bool (!r1))) ?_
 refine Nt ?_
 refine CWP.cond (t := (!r1)) (by kernel_rfl) rfl (fun hb9 => ?_) (fun hb9 => ?_)
 ·have h10 := cond_t h3 hb9
  refine Sq (Rg [0, 1] ?_)
  refine V 6 80 (mc (.slice none 0 0) (.slice none ([] : List (List UInt8)).length 0)) ?_
  refine V 7 23 (mc (vi 12) (vi 12)) ?_
  refine Nt ?_
  refine CWP.ret (by kernel_rfl) ?_
  refine blockQ_ret ?_
  refine thenQ_ret ?_
  have hfin := some_inj h10
  subst hfin
  exact ⟨rfl, (.tuple #[(.slice none ([] : List (List UInt8)).length 0), (vi 12)]), res_of (l := [.tmp 6, .tmp 7]) (by kernel_rfl) (vs := [(.slice none ([] : List (List UInt8)).length 0), (vi 12)]) ⟨rfl, ⟨rfl, trivial⟩⟩, (.tuple #[(.slice none ([] : List (List UInt8)).length 0), (vi 12)]), F1, rfl, hs6.clear, ⟨none, 0, rfl, LC.nil, (.inl rfl)⟩⟩
 ·have h11 := cond_f h3 hb9
  refine Sq (Rg [0, 1, 2, 3, 4, 5, 6, 7, 8] ?_)
  obtain ⟨j15, hj21, h22⟩ := bind_some h11
  refine RWP.cut (fun f w => ∃ (F2 : Mem), HS w0 F0 w F2 [] ∧ Mem.le F1 F2 ∧ f.d = [] ∧ f 0 = (.slice a0_0 x0.length n0_0) ∧ f 1 = (vi x1) ∧ f 2 = (vi x2) ∧ f 15 = (.bool j15)) ?_ ?_
  ·refine V 16 3 (mv 2 (vi x2)) ?_
   obtain ⟨r23, hr24, h25⟩ := bind_some hj21
   refine Cl 17 4 73 #[(.tmp 16), (.const (vi 0)), (.const (vi 99999))] #[3, 3, 3] co_air_within hs6 (c_air_within N w5 F1 hs6.pers (x2) (0) (99999) _ hr24) ?_
   intro v26 F3 w27 hs28 le29 hp30
   obtain rfl := hp30
   refine V 18 4 (run_not (t := 4) (x := (.tmp 17)) (a := r23) rfl) ?_
   refine V 19 4 (mv 18 (.bool (!r23))) ?_
   refine RWP.split (!r23) (fun hb31 => ?_) (fun hb31 => ?_)
   ·have h32 := cond_t h25 hb31
    refine Sk [20, 21, 22] 3 false 19 hb31 ?_
    refine V 23 4 (p1 19 (.const (.bool true)) (.tmp 22) (.bool true) hb31) ?_
    refine V 15 4 (ma 23 (.bool true)) ?_
    obtain rfl := some_inj h32
    exact RWP.nil ⟨rfl, F3, hs28, le29, rfl, rfl, rfl, rfl, rfl⟩
   ·have h33 := cond_f h25 hb31
    refine Vg 20 3 3 false 19 hb31 (mv 1 (vi x1)) ?_
    obtain ⟨r34, hr35, h36⟩ := bind_some h33
    refine RWP.call (dst := (some 21)) (ty := 4) (g := (some (3, false))) (by kernel_rfl) (gd_y (d := 19) (by kernel_rfl) rfl hb31) (f0 := (.func 73)) (aos := #[(.tmp 20), (.const (vi 1)), (.const (vi 65535))]) (ats := #[3, 3, 3]) (fid := 73) (first := #[]) (cap := #[]) (args := [(vi x1), (vi 1), (vi 65535)]) rfl co_air_within (rfl) hs28 (c_air_within N w27 F3 hs28.pers (x1) (1) (65535) _ hr35) ?_
    intro v37 F4 w38 hs39 le40 hp41
    obtain rfl := hp41
    refine Vg 22 4 3 false 19 hb31 (run_not (t := 4) (x := (.tmp 21)) (a := r34) rfl) ?_
    refine V 23 4 (p0 19 (.const (.bool true)) (.tmp 22) (.bool (!r34)) hb31) ?_
    refine V 15 4 (ma 23 (.bool (!r34))) ?_
    obtain rfl := some_inj h36
    exact RWP.nil ⟨rfl, F4, hs39, (le29.trans le40), rfl, rfl, rfl, rfl, rfl⟩
  ·rintro f w12 ⟨F2, hs13, le14, e16, e17, e18, e19, e20⟩
   refine thenQ_nrm ?_
   refine CWP.cond (t := j15) (by kernel_rfl) e20 (fun hb42 => ?_) (fun hb42 => ?_)
   ·have h43 := cond_t h22 hb42
    refine Sq (Rg [0, 1] ?_)
    refine V 6 80 (mc (.slice none 0 0) (.slice none ([] : List (List UInt8)).length 0)) ?_
    refine V 7 23 (mc (vi 1) (vi 1)) ?_
    refine Nt ?_
    refine CWP.ret (by kernel_rfl) ?_
    refine blockQ_ret ?_
    refine thenQ_ret ?_
    have hfin := some_inj h43
    subst hfin
    exact ⟨e16, (.tuple #[(.slice none ([] : List (List UInt8)).length 0), (vi 1)]), res_of (l := [.tmp 6, .tmp 7]) (by kernel_rfl) (vs := [(.slice none ([] : List (List UInt8)).length 0), (vi 1)]) ⟨rfl, ⟨rfl, trivial⟩⟩, (.tuple #[(.slice none ([] : List (List UInt8)).length 0), (vi 1)]), F2, rfl, hs13.clear, ⟨none, 0, rfl, LC.nil, (.inl rfl)⟩⟩
   ·have h44 := cond_f h22 hb42
    refine Sc ?_
    refine blockQ_nrm ?_
    refine thenQ_nrm ?_
    refine Sq (Rg [0] ?_)
    refine V 8 80 (mc (.slice none 0 0) (.slice none ([] : List (List UInt8)).length 0)) ?_
    refine Nss ?_
    refine Sq (Rg [0, 1, 2] ?_)
    refine V 24 61 (mv 0 (.slice a0_0 x0.length n0_0) e17) ?_
    refine V 25 3 (ln 24 61 a0_0 x0.length n0_0 71 7 64) ?_
    refine V 26 3 (run_move (x := (.const (vi 0))) (v := (vi 0)) rfl) ?_
    refine Nt ?_
    have hs45 : HS w0 F0 w12 F2 [(none, .cells #[] 0 (0, 0))] := hs13.dummy _
    obtain ⟨o47, ho48, h49⟩ := bind_some h44
    refine CWP.cut (fun f w => ∃ (s61 : (List (List UInt8) × Int)) (F6 : Mem) (as61_0 : Option Addr) (ns61_0 : Nat) (es61_0 : Option Nat × Obj), o47 = .done s61 ∧ HS w0 F0 w F6 [es61_0] ∧ Mem.le F2 F6 ∧ f.d = [] ∧ f 8 = (.slice as61_0 s61.1.length ns61_0) ∧ RowR tStr 9 F6 as61_0 ns61_0 s61.1 es61_0) ?_ ?_
    ·refine Bk ?_
     refine CWP.loop (by kernel_rfl) (fun m f w => ∃ (s50 : (List (List UInt8) × Int)) (F5 : Mem) (as50_0 : Option Addr) (ns50_0 : Nat) (es50_0 : Option Nat × Obj), iter (air_Texts_L0 N x0 x1 x2 r1 j15) m s50 = some o47 ∧ HS w0 F0 w F5 [es50_0] ∧ Mem.le F2 F5 ∧ f.d = [] ∧ f 1 = (vi x1) ∧ f 2 = (vi x2) ∧ f 8 = (.slice as50_0 s50.1.length ns50_0) ∧ f 24 = (.slice a0_0 x0.length n0_0) ∧ f 25 = (vi (x0.length : Int)) ∧ f 26 = (vi s50.2) ∧ RowR tStr 9 F5 as50_0 ns50_0 s50.1 es50_0) N ⟨(([] : List (List UInt8)), 0), F2, none, 0, (none, .cells #[] 0 (0, 0)), ho48, hs45, (Mem.le.refl _), e16, e18, e19, rfl, rfl, rfl, rfl, (RowR.nil tStr 9 F2 _)⟩ ?_
     rintro m67 f w51 ⟨s50, F5, as50_0, ns50_0, es50_0, hit68, hs52, le53, e54, e55, e56, e57, e58, e59, e60, hrs50_0⟩
     obtain ⟨m69, fl70, rfl, hb71, hnx72⟩ := iter_step hit68
     refine Sq (Rg [0] ?_)
     refine V 27 0 (run_lss (t := 3) (t' := 3) (x := (.tmp 26)) (y := (.tmp 25)) (k := .i64) (a := s50.2) (b := (x0.length : Int)) e60 e59) ?_
     refine Nss ?_
     refine CWP.cond (t := (decide (s50.2 < (x0.length : Int)))) (by kernel_rfl) rfl (fun hb73 => ?_) (fun hb73 => ?_)
     ·have h74 := cond_t hb71 hb73
      refine Sc ?_
      refine thenQ_nrm ?_
      refine Sq ?_
      refine Bk ?_
      refine Sq (Rg [0, 1, 2, 3] ?_)
      obtain ⟨x75, hx76, h78⟩ := bind_some h74
      obtain ⟨hi77, hx76'⟩ := idx_spec hx76
      obtain ⟨b79, o80, C81, E82, fz83, rfl, hF85, hE86⟩ := SlA.open (SlA.mono hs0_0 ((le7.trans le14).trans le53)) hx76'
      have hc88 := hE86 _ _ hx76'
      refine V 28 0 (run_index (t := 61) (x := (.tmp 24)) (y := (.tmp 26)) (b := b79) (o := o80) (E := 71) (s := 7) (by_ := 64) e58 e60 (by kernel_rfl) hi77) ?_
      refine V 29 71 (lx 71 28 0 7 true 7 (.agg #[(.string ⟨(x75.Text).toArray⟩), (vi x75.Country), (vi x75.Zone), (vi x75.Continent), (vi x75.From), (vi x75.To), (.bool x75.Whole)]) (hs52.pers _ _ hF85) hc88) ?_
      refine Al 10 0 71 #[(.string ⟨(([] : List UInt8)).toArray⟩), (vi 0), (vi 0), (vi 0), (vi 0), (vi 0), (.bool false)] hs52 (fun b89 w90 (hs91 : HS w0 F0 w90 F5 [(sb b89 #[(.string ⟨(([] : List UInt8)).toArray⟩), (vi 0), (vi 0), (vi 0), (vi 0), (vi 0), (.bool false)] 71), es50_0]) => ?_)
      refine RWP.store (ty := 0) (g := none) (by kernel_rfl) rfl (x := (.tmp 10)) (y := (.tmp 29)) (t := 71) (gg := true) (s := 7) (v := (.agg #[(.string ⟨(x75.Text).toArray⟩), (vi x75.Country), (vi x75.Zone), (vi x75.Continent), (vi x75.From), (vi x75.To), (.bool x75.Whole)])) (b := b89) (o := 0) (C := #[(.string ⟨(([] : List UInt8)).toArray⟩), (vi 0), (vi 0), (vi 0), (vi 0), (vi 0), (.bool false)]) rfl rfl (by kernel_rfl) hs91 (k := 0) rfl rfl rfl rfl (C' := #[(.string ⟨(x75.Text).toArray⟩), (vi x75.Country), (vi x75.Zone), (vi x75.Continent), (vi x75.From), (vi x75.To), (.bool x75.Whole)]) rfl (fun w92 (hs93 : HS w0 F0 w92 F5 [(sb b89 #[(.string ⟨(x75.Text).toArray⟩), (vi x75.Country), (vi x75.Zone), (vi x75.Continent), (vi x75.From), (vi x75.To), (.bool x75.Whole)] 71), es50_0]) => ?_)
      refine Nss (Rg [0, 1, 2, 3, 4, 5, 6, 7, 8, 9, 10, 11, 12, 13, 14, 15, 16] ?_)
      obtain ⟨j97, hj107, h108⟩ := bind_some h78
      refine RWP.cut (fun f w => ∃ (F7 : Mem), HS w0 F0 w F7 [(sb b89 #[(.string ⟨(x75.Text).toArray⟩), (vi x75.Country), (vi x75.Zone), (vi x75.Continent), (vi x75.From), (vi x75.To), (.bool x75.Whole)] 71), es50_0] ∧ Mem.le F5 F7 ∧ f.d = [] ∧ f 1 = (vi x1) ∧ f 2 = (vi x2) ∧ f 8 = (.slice as50_0 s50.1.length ns50_0) ∧ f 10 = (.pointer (some ⟨b89, 0, none⟩)) ∧ f 24 = (.slice (some ⟨b79, o80, none⟩) x0.length n0_0) ∧ f 25 = (vi (x0.length : Int)) ∧ f 26 = (vi s50.2) ∧ f 46 = (.bool j97)) ?_ ?_
      ·refine V 30 0 (fa 71 10 6 6 1 b89 0 6) ?_
       refine V 31 4 (ld 4 30 b89 6 false 1 (.bool x75.Whole) (hs93.ownAt (k := 0) rfl)) ?_
       refine V 32 4 (run_not (t := 4) (x := (.tmp 31)) (a := x75.Whole) rfl) ?_
       refine V 33 4 (mv 32 (.bool (!x75.Whole))) ?_
       refine RWP.split (!x75.Whole) (fun hb109 => ?_) (fun hb109 => ?_)
       ·have h110 := cond_t hj107 hb109
        refine Vg 34 0 3 true 33 hb109 (fa 71 10 1 1 1 b89 0 1) ?_
        refine Vg 35 3 3 true 33 hb109 (ld 3 34 b89 1 false 1 (vi x75.Country) (hs93.ownAt (k := 0) rfl)) ?_
        refine Vg 36 3 3 true 33 hb109 (mv 1 (vi x1) e55) ?_
        refine Vg 37 4 3 true 33 hb109 (run_eql (t := 3) (t' := 3) (x := (.tmp 35)) (y := (.tmp 36)) (k := .i64) (a := x75.Country) (b := x1) rfl rfl) ?_
        refine V 38 4 (p1 33 (.tmp 37) (.const (.bool false)) (.bool (x75.Country == x1)) hb109) ?_
        refine V 39 4 (mv 38 (.bool (x75.Country == x1))) ?_
        refine RWP.split (x75.Country == x1) (fun hb111 => ?_) (fun hb111 => ?_)
        ·have h112 := cond_t h110 hb111
         refine Vg 40 3 9 true 39 hb111 (mv 2 (vi x2) e56) ?_
         refine Vg 41 0 9 true 39 hb111 (fa 71 10 4 4 1 b89 0 4) ?_
         refine Vg 42 3 9 true 39 hb111 (ld 3 41 b89 4 false 1 (vi x75.From) (hs93.ownAt (k := 0) rfl)) ?_
         refine Vg 43 0 9 true 39 hb111 (fa 71 10 5 5 1 b89 0 5) ?_
         refine Vg 44 3 9 true 39 hb111 (ld 3 43 b89 5 false 1 (vi x75.To) (hs93.ownAt (k := 0) rfl)) ?_
         obtain ⟨r113, hr114, h115⟩ := bind_some h112
         refine RWP.call (dst := (some 45)) (ty := 4) (g := (some (9, true))) (by kernel_rfl) (gd_y (d := 39) (by kernel_rfl) rfl hb111) (f0 := (.func 73)) (aos := #[(.tmp 40), (.tmp 42), (.tmp 44)]) (ats := #[3, 3, 3]) (fid := 73) (first := #[]) (cap := #[]) (args := [(vi x2), (vi x75.From), (vi x75.To)]) rfl co_air_within (rfl) hs93 (c_air_within N w92 F5 hs93.pers (x2) (x75.From) (x75.To) _ hr114) ?_
         intro v116 F8 w117 hs118 le119 hp120
         obtain rfl := hp120
         refine V 46 4 (p1 39 (.tmp 45) (.const (.bool false)) (.bool r113) hb111) ?_
         obtain rfl := some_inj h115
         exact RWP.nil ⟨rfl, F8, hs118, le119, e54, e55, e56, e57, rfl, e58, e59, e60, rfl⟩
        ·have h121 := cond_f h110 hb111
         refine Sk [40, 41, 42, 43, 44, 45] 9 true 39 hb111 ?_
         refine V 46 4 (p0 39 (.tmp 45) (.const (.bool false)) (.bool false) hb111) ?_
         obtain rfl := some_inj h121
         exact RWP.nil ⟨rfl, F5, hs93, (Mem.le.refl _), e54, e55, e56, e57, rfl, e58, e59, e60, rfl⟩
       ·have h122 := cond_f hj107 hb109
        refine Sk [34, 35, 36, 37] 3 true 33 hb109 ?_
        refine V 38 4 (p0 33 (.tmp 37) (.const (.bool false)) (.bool false) hb109) ?_
        refine V 39 4 (mv 38 (.bool false)) ?_
        refine Sk [40, 41, 42, 43, 44, 45] 9 true 39 rfl ?_
        refine V 46 4 (p0 39 (.tmp 45) (.const (.bool false)) (.bool false) rfl) ?_
        obtain rfl := some_inj h122
        exact RWP.nil ⟨rfl, F5, hs93, (Mem.le.refl _), e54, e55, e56, e57, rfl, e58, e59, e60, rfl⟩
      ·rintro f w94 ⟨F7, hs95, le96, e98, e99, e100, e101, e102, e103, e104, e105, e106⟩
       refine thenQ_nrm ?_
       obtain ⟨j126, hj134, h135⟩ := bind_some h108
       refine CWP.cut (fun f w => ∃ (F9 : Mem) (aj126_0 : Option Addr) (nj126_0 : Nat) (ej126_0 : Option Nat × Obj), HS w0 F0 w F9 [ej126_0] ∧ Mem.le F7 F9 ∧ f.d = [] ∧ f 1 = (vi x1) ∧ f 2 = (vi x2) ∧ f 8 = (.slice aj126_0 j126.length nj126_0) ∧ f 24 = (.slice (some ⟨b79, o80, none⟩) x0.length n0_0) ∧ f 25 = (vi (x0.length : Int)) ∧ f 26 = (vi s50.2) ∧ RowR tStr 9 F9 aj126_0 nj126_0 j126 ej126_0) ?_ ?_
       ·refine CWP.cond (t := j97) (by kernel_rfl) e106 (fun hb136 => ?_) (fun hb136 => ?_)
        ·have h137 := cond_t hj134 hb136
         refine Rg [0, 1, 2, 3, 4, 5] ?_
         refine V 47 80 (mv 8 (.slice as50_0 s50.1.length ns50_0) e101) ?_
         refine V 48 0 (fa 71 10 0 0 1 b89 0 0 e102) ?_
         refine V 49 9 (ld 9 48 b89 0 false 1 (.string ⟨(x75.Text).toArray⟩) (hs95.ownAt (k := 0) rfl)) ?_
         refine RWP.buildSlice (dst := (some 50)) (ty := 80) (g := none) (by kernel_rfl) rfl (t := 80) (len := 1) (parts := #[(0, (.tmp 49))]) (vs := [(0, (.string ⟨(x75.Text).toArray⟩))]) (rfl) (E := 9) (cs := [(.string ⟨(x75.Text).toArray⟩)]) (by kernel_rfl) hs95 (fun b138 w139 (hs140 : HS w0 F0 w139 F7 [(some b138, .cells ([(.string ⟨(x75.Text).toArray⟩)] : List Value).toArray 9 (0, 0)), (sb b89 #[(.string ⟨(x75.Text).toArray⟩), (vi x75.Country), (vi x75.Zone), (vi x75.Continent), (vi x75.From), (vi x75.To), (.bool x75.Whole)] 71), es50_0]) => ?_)
         have hr142 : RowR tStr 9 F7 (some ⟨b138, 0, none⟩) 1 [x75.Text] (some b138, .cells ([(.string ⟨(x75.Text).toArray⟩)] : List Value).toArray 9 (0, 0)) := RowR.lit ⟨rfl, rfl⟩ (by simp)
         obtain ⟨r143, hap144, h145⟩ := bind_some h137
         refine RWP.append (dst := (some 51)) (ty := 80) (g := none) (by kernel_rfl) rfl (x := (.tmp 47)) (y := (.tmp 50)) (t := 80) (t2 := 80) (by_ := 16) (z := (.string ⟨(([] : List UInt8)).toArray⟩)) (a2 := (some ⟨b138, 0, none⟩)) (c2 := 1) (m := [x75.Text]) (T := tStr) (E := 9) (a := as50_0) (cap := ns50_0) (l := s50.1) rfl rfl (by kernel_rfl) (by decide) (by kernel_rfl) (by kernel_rfl) rfl oStr hs140 (k := 2) rfl (hrs50_0.mono le96) (RowR.rd hs140 (k := 0) rfl hr142) (r := r143) hap144 (fun a146 n147 e148 w149 (hs150 : HS w0 F0 w149 F7 [(some b138, .cells ([(.string ⟨(x75.Text).toArray⟩)] : List Value).toArray 9 (0, 0)), (sb b89 #[(.string ⟨(x75.Text).toArray⟩), (vi x75.Country), (vi x75.Zone), (vi x75.Continent), (vi x75.From), (vi x75.To), (.bool x75.Whole)] 71), e148]) hr151 => ?_)
         refine V 8 80 (ma 51 (.slice a146 r143.length n147)) ?_
         refine RWP.nil ?_
         obtain rfl := some_inj h145
         have hs152 : HS w0 F0 w149 F7 [(sb b89 #[(.string ⟨(x75.Text).toArray⟩), (vi x75.Country), (vi x75.Zone), (vi x75.Continent), (vi x75.From), (vi x75.To), (.bool x75.Whole)] 71), e148] := hs150.drop 0
         have hs153 : HS w0 F0 w149 F7 [e148] := hs152.drop 0
         exact .inl ⟨rfl, F7, a146, n147, e148, hs153, (Mem.le.refl _), e98, e99, e100, rfl, e103, e104, e105, hr151⟩
        ·have h154 := cond_f hj134 hb136
         refine Sc ?_
         obtain rfl := some_inj h154
         have hs155 : HS w0 F0 w94 F7 [es50_0] := hs95.drop 0
         exact .inl ⟨rfl, F7, as50_0, ns50_0, es50_0, hs155, (Mem.le.refl _), e98, e99, e100, e101, e103, e104, e105, (hrs50_0.mono le96)⟩
       ·rintro f w123 ⟨F9, aj126_0, nj126_0, ej126_0, hs124, le125, e127, e128, e129, e130, e131, e132, e133, hrj126_0⟩
        refine blockQ_nrm ?_
        refine thenQ_nrm ?_
        refine Rg [0, 1] ?_
        refine V 52 3 (run_add (t := 3) (t' := 3) (x := (.tmp 26)) (y := (.const (vi 1))) (k := .i64) (a := s50.2) (b := 1) e133 rfl) ?_
        refine V 26 3 (mv 52 (vi (W64 (s50.2 + 1)))) ?_
        refine RWP.nil ?_
        have hn156 := iter_next h135 hnx72
        exact ⟨m69, Nat.lt_succ_self _, (j126, (W64 (s50.2 + 1))), F9, aj126_0, nj126_0, ej126_0, hn156, hs124, ((le53.trans le96).trans le125), e127, e128, e129, e130, e131, e132, rfl, hrj126_0⟩
     ·have h157 := cond_f hb71 hb73
      refine CWP.exit (by kernel_rfl) ?_
      refine thenQ_ex ?_
      refine thenQ_ex ?_
      refine blockQ_hit rfl ?_
      have ho158 := iter_done h157 hnx72
      exact .inl ⟨rfl, (s50.1, s50.2), F5, as50_0, ns50_0, es50_0, ho158, hs52, le53, e54, e57, hrs50_0⟩
    ·rintro f w62 ⟨s61, F6, as61_0, ns61_0, es61_0, rfl, hs63, le64, e65, e66, hrs61_0⟩
     have h159 := k_done h49
     refine thenQ_nrm ?_
     refine Sq (Rg [0, 1] ?_)
     refine V 53 80 (mv 8 (.slice as61_0 s61.1.length ns61_0) e66) ?_
     obtain ⟨r160, hr161, h162⟩ := bind_some h159
     refine RWP.callS (dst := (some 54)) (ty := 0) (g := none) (by kernel_rfl) rfl (f0 := (.func 106)) (aos := #[(.tmp 53)]) (ats := #[80]) (fid := 106) (first := #[]) (cap := #[]) (args := [(.slice as61_0 s61.1.length ns61_0)]) rfl co_slices_Sort_string_string (rfl) (c_slices_Sort_string_string N (Lf := []) s61.1 as61_0 ns61_0 es61_0 hrs61_0 hs63  _ hr161) ?_
     rintro _ w164 ⟨F10, e163, rfl, hs165, le166, hr167⟩
     refine ⟨_, rfl, ?_⟩
     have hs168 : HS w0 F0 w164 F10 [e163] := hs165
     refine Nss (Rg [0, 1, 2] ?_)
     refine V 55 80 (mv 8 (.slice as61_0 r160.length ns61_0) (len_eq e66 (ml_slices_Sort_string_string hr161))) ?_
     refine V 6 80 (ma 55 (.slice as61_0 r160.length ns61_0)) ?_
     refine V 7 23 (mc (vi 0) (vi 0)) ?_
     refine Nt ?_
     refine CWP.ret (by kernel_rfl) ?_
     have hb172 := RowR.bound hr167
     obtain ⟨F11, hs169, le170, hs171⟩ : ∃ Fq, HS w0 F0 w164 Fq [] ∧ Mem.le F10 Fq ∧ SlA tStr Fq as61_0 r160 := HS.freezeRow hs168 (k := 0) rfl hr167
     have hfin := some_inj h162
     subst hfin
     exact ⟨e65, (.tuple #[(.slice as61_0 r160.length ns61_0), (vi 0)]), res_of (l := [.tmp 6, .tmp 7]) (by kernel_rfl) (vs := [(.slice as61_0 r160.length ns61_0), (vi 0)]) ⟨rfl, ⟨rfl, trivial⟩⟩, (.tuple #[(.slice as61_0 r160.length ns61_0), (vi 0)]), F11, rfl, hs169.clear, ⟨as61_0, ns61_0, rfl, hb172, hs171⟩⟩
end Go.Proofs.YtlddakefmfcblaaGreatDoor
namespace Go.Proofs.YtlddakefmfcblaaGreatDoor
open Go.Proofs
def ref01_Texts_L1 (N : Nat) (x0 : (List Prefix)) (x1 : Int) (x2 : Int) (r1 : Bool) (j15 : (Bool)) (s50 : (List (List UInt8) × Int)) (j79 : (Bool)) : Int → Option (Flow ((List (List UInt8)) × Int) Int) := fun s142 =>
 ((bif (decide (s142 > 0)) then ((idx s50.1 (W64 (s142 - 1))).bind fun x188 => ((idx x0 s50.2).bind fun x200 => some (!(sless x188 x200.Text || x188 == x200.Text)))) else some false).bind fun j175 => (bif j175 then some (.next (W64 (s142 - 1))) else some (.done s142)))
def ref01_Texts_L0 (N : Nat) (x0 : (List Prefix)) (x1 : Int) (x2 : Int) (r1 : Bool) (j15 : (Bool)) : (List (List UInt8) × Int) → Option (Flow ((List (List UInt8)) × Int) (List (List UInt8) × Int)) := fun s50 =>
 (bif (decide (s50.2 < (x0.length : Int))) then (((idx x0 s50.2).bind fun x89 => (bif x89.Whole then some true else ((idx x0 s50.2).bind fun x106 => (bif (x106.Country != x1) then some true else ((idx x0 s50.2).bind fun x115 => ((idx x0 s50.2).bind fun x121 => ((ref01_within N x2 x115.From x121.To).bind fun r127 => some (!r127)))))))).bind fun j79 => (bif j79 then some (.next (s50.1, (W64 (s50.2 + 1)))) else ((iter (ref01_Texts_L1 N x0 x1 x2 r1 j15 s50 j79) N (s50.1.length : Int)).bind fun o => o.k (fun r => some (.ret r)) (fun s153 => ((sub s50.1 0 s153).bind fun r225 => ((apnd ([] : List (List UInt8)) r225).bind fun r235 => ((idx x0 s50.2).bind fun x244 => ((apnd r235 [x244.Text]).bind fun r263 => ((sub s50.1 s153 (s50.1.length : Int)).bind fun r272 => ((apnd r263 r272).bind fun r280 => some (.next (r280, (W64 (s50.2 + 1)))))))))))))) else some (.done (s50.1, s50.2)))
def ref01_Texts (N : Nat) (x0 : (List Prefix)) (x1 : Int) (x2 : Int) : Option ((List (List UInt8)) × Int) :=
 ((ref01_ValidTable N x0).bind fun r1 => (bif (!r1) then some (([] : List (List UInt8)), 12) else (((ref01_within N x2 0 99999).bind fun r23 => (bif (!r23) then some true else ((ref01_within N x1 1 65535).bind fun r34 => some (!r34)))).bind fun j15 => (bif j15 then some (([] : List (List UInt8)), 1) else ((iter (ref01_Texts_L0 N x0 x1 x2 r1 j15) N (([] : List (List UInt8)), 0)).bind fun o => o.k (fun r => some r) (fun s60 => some (s60.1, 0)))))))
theorem co_ref01_Texts : CallOk Tryz.prog 62 := fun _ _ => by kernel_rfl
set_option maxHeartbeats 4000000 in
set_option maxRecDepth 100000 in
theorem c_ref01_Texts (N : Nat) (w0 : World) (F0 : Mem) (hF : ∀ b o, F0 b = some o → w0.heap[b]? = some o) (x0 : (List Prefix)) (a0_0 : Option Addr) (n0_0 : Nat) (hb0_0 : LC x0.length n0_0) (hs0_0 : SlA tPrefix F0 a0_0 x0) (x1 : Int) (x2 : Int) (r : ((List (List UInt8)) × Int)) (h : ref01_Texts N x0 x1 x2 = some r) :
  Calls Tryz.prog 62 ([(.slice a0_0 x0.length n0_0), (vi x1), (vi x2)] : List Value).toArray w0 (FRet w0 F0 fun F' v => ∃ (aq0_0 : Option Addr) (nq0_0 : Nat), v = (.tuple #[(.slice aq0_0 r.1.length nq0_0), (vi r.2)]) ∧ LC r.1.length nq0_0 ∧ SlA tStr F' aq0_0 r.1) := by
 have hs0 := HS.start hF
 refine calls_of (n := 97) (c := bodyOf Tryz.f62) Tryz.func62 (by kernel_rfl) (by kernel_rfl) (by kernel_rfl) ?_
 refine Sq (Rg [0, 1] ?_)
 refine V 6 80 (mc (.slice none 0 0) (.slice none ([] : List (List UInt8)).length 0)) ?_
 refine V 7 23 (mc (vi 0) (vi 0)) ?_
 refine Nss ?_
 refine Sq (Rg [0, 1, 2] ?_)
 refine V 12 61 (mv 0 (.slice a0_0 x0.length n0_0)) ?_
 obtain ⟨r1, hr2, h3⟩ := bind_some h
 refine Cl 13 4 57 #[(.tmp 12)] #[61] co_ref01_ValidTable hs0 (c_ref01_ValidTable N w0 F0 hs0.pers (x0) a0_0 n0_0 hb0_0 hs0_0 _ hr2) ?_
 intro v4 F1 w5 hs6 le7 hp8
 obtain rfl := hp8
 refine V 14 4 (run_not (t := 4) (x := (.tmp 13)) (a := r1) rfl) ?_
 refine Nt ?_
 refine CWP.cond (t := (!r1)) (by kernel_rfl) rfl (fun hb9 => ?_) (fun hb9 => ?_)
 ·have h10 := cond_t h3 hb9
  refine Sq (Rg [0, 1] ?_)
  refine V 6 80 (mc (.slice none 0 0) (.slice none ([] : List (List UInt8)).length 0)) ?_
  refine V 7 23 (mc (vi 12) (vi 12)) ?_
  refine Nt ?_
  refine CWP.ret (by kernel_rfl) ?_
  refine thenQ_ret ?_
  have hfin := some_inj h10
  subst hfin
  exact ⟨rfl, (.tuple #[(.slice none ([] : List (List UInt8)).length 0), (vi 12)]), res_of (l := [.tmp 6, .tmp 7]) (by kernel_rfl) (vs := [(.slice none ([] : List (List UInt8)).length 0), (vi 12)]) ⟨rfl, ⟨rfl, trivial⟩⟩, (.tuple #[(.slice none ([] : List (List UInt8)).length 0), (vi 12)]), F1, rfl, hs6.clear, ⟨none, 0, rfl, LC.nil, (.inl rfl)⟩⟩
 ·have h11 := cond_f h3 hb9
  refine Sc ?_
  refine thenQ_nrm ?_
  refine Sq ?_
  refine Sq (Rg [0, 1, 2, 3, 4, 5, 6, 7] ?_)
  obtain ⟨j15, hj21, h22⟩ := bind_some h11
  refine RWP.cut (fun f w => ∃ (F2 : Mem), HS w0 F0 w F2 [] ∧ Mem.le F1 F2 ∧ f.d = [] ∧ f 0 = (.slice a0_0 x0.length n0_0) ∧ f 1 = (vi x1) ∧ f 2 = (vi x2) ∧ f 22 = (.bool j15)) ?_ ?_
  ·refine V 15 3 (mv 2 (vi x2)) ?_
   obtain ⟨r23, hr24, h25⟩ := bind_some hj21
   refine Cl 16 4 67 #[(.tmp 15), (.const (vi 0)), (.const (vi 99999))] #[3, 3, 3] co_ref01_within hs6 (c_ref01_within N w5 F1 hs6.pers (x2) (0) (99999) _ hr24) ?_
   intro v26 F3 w27 hs28 le29 hp30
   obtain rfl := hp30
   refine V 17 4 (run_not (t := 4) (x := (.tmp 16)) (a := r23) rfl) ?_
   refine V 18 4 (mv 17 (.bool (!r23))) ?_
   refine RWP.split (!r23) (fun hb31 => ?_) (fun hb31 => ?_)
   ·have h32 := cond_t h25 hb31
    refine Sk [19, 20, 21] 3 false 18 hb31 ?_
    refine V 22 4 (p1 18 (.const (.bool true)) (.tmp 21) (.bool true) hb31) ?_
    obtain rfl := some_inj h32
    exact RWP.nil ⟨rfl, F3, hs28, le29, rfl, rfl, rfl, rfl, rfl⟩
   ·have h33 := cond_f h25 hb31
    refine Vg 19 3 3 false 18 hb31 (mv 1 (vi x1)) ?_
    obtain ⟨r34, hr35, h36⟩ := bind_some h33
    refine RWP.call (dst := (some 20)) (ty := 4) (g := (some (3, false))) (by kernel_rfl) (gd_y (d := 18) (by kernel_rfl) rfl hb31) (f0 := (.func 67)) (aos := #[(.tmp 19), (.const (vi 1)), (.const (vi 65535))]) (ats := #[3, 3, 3]) (fid := 67) (first := #[]) (cap := #[]) (args := [(vi x1), (vi 1), (vi 65535)]) rfl co_ref01_within (rfl) hs28 (c_ref01_within N w27 F3 hs28.pers (x1) (1) (65535) _ hr35) ?_
    intro v37 F4 w38 hs39 le40 hp41
    obtain rfl := hp41
    refine Vg 21 4 3 false 18 hb31 (run_not (t := 4) (x := (.tmp 20)) (a := r34) rfl) ?_
    refine V 22 4 (p0 18 (.const (.bool true)) (.tmp 21) (.bool (!r34)) hb31) ?_
    obtain rfl := some_inj h36
    exact RWP.nil ⟨rfl, F4, hs39, (le29.trans le40), rfl, rfl, rfl, rfl, rfl⟩
  ·rintro f w12 ⟨F2, hs13, le14, e16, e17, e18, e19, e20⟩
   refine thenQ_nrm ?_
   refine CWP.cond (t := j15) (by kernel_rfl) e20 (fun hb42 => ?_) (fun hb42 => ?_)
   ·have h43 := cond_t h22 hb42
    refine Sq (Rg [0, 1] ?_)
    refine V 6 80 (mc (.slice none 0 0) (.slice none ([] : List (List UInt8)).length 0)) ?_
    refine V 7 23 (mc (vi 1) (vi 1)) ?_
    refine Nt ?_
    refine CWP.ret (by kernel_rfl) ?_
    refine thenQ_ret ?_
    have hfin := some_inj h43
    subst hfin
    exact ⟨e16, (.tuple #[(.slice none ([] : List (List UInt8)).length 0), (vi 1)]), res_of (l := [.tmp 6, .tmp 7]) (by kernel_rfl) (vs := [(.slice none ([] : List (List UInt8)).length 0), (vi 1)]) ⟨rfl, ⟨rfl, trivial⟩⟩, (.tuple #[(.slice none ([] : List (List UInt8)).length 0), (vi 1)]), F2, rfl, hs13.clear, ⟨none, 0, rfl, LC.nil, (.inl rfl)⟩⟩
   ·have h44 := cond_f h22 hb42
    refine Sc ?_
    refine thenQ_nrm ?_
    refine Sq (Rg [0] ?_)
    refine V 8 80 (mc (.slice none 0 0) (.slice none ([] : List (List UInt8)).length 0)) ?_
    refine Nss ?_
    refine Sq (Rg [0] ?_)
    refine V 9 3 (mc (vi 0) (vi 0)) ?_
    refine Nt ?_
    have hs45 : HS w0 F0 w12 F2 [(none, .cells #[] 0 (0, 0))] := hs13.dummy _
    obtain ⟨o47, ho48, h49⟩ := bind_some h44
    refine CWP.cut (fun f w => ∃ (s60 : (List (List UInt8) × Int)) (F6 : Mem) (as60_0 : Option Addr) (ns60_0 : Nat) (es60_0 : Option Nat × Obj), o47 = .done s60 ∧ HS w0 F0 w F6 [es60_0] ∧ Mem.le F2 F6 ∧ f.d = [] ∧ f 8 = (.slice as60_0 s60.1.length ns60_0) ∧ RowR tStr 9 F6 as60_0 ns60_0 s60.1 es60_0) ?_ ?_
    ·refine Bk ?_
     refine CWP.loop (by kernel_rfl) (fun m f w => ∃ (s50 : (List (List UInt8) × Int)) (F5 : Mem) (as50_0 : Option Addr) (ns50_0 : Nat) (es50_0 : Option Nat × Obj), iter (ref01_Texts_L0 N x0 x1 x2 r1 j15) m s50 = some o47 ∧ HS w0 F0 w F5 [es50_0] ∧ Mem.le F2 F5 ∧ f.d = [] ∧ f 0 = (.slice a0_0 x0.length n0_0) ∧ f 1 = (vi x1) ∧ f 2 = (vi x2) ∧ f 8 = (.slice as50_0 s50.1.length ns50_0) ∧ f 9 = (vi s50.2) ∧ RowR tStr 9 F5 as50_0 ns50_0 s50.1 es50_0) N ⟨(([] : List (List UInt8)), 0), F2, none, 0, (none, .cells #[] 0 (0, 0)), ho48, hs45, (Mem.le.refl _), e16, e17, e18, e19, rfl, rfl, (RowR.nil tStr 9 F2 _)⟩ ?_
     rintro m66 f w51 ⟨s50, F5, as50_0, ns50_0, es50_0, hit67, hs52, le53, e54, e55, e56, e57, e58, e59, hrs50_0⟩
     obtain ⟨m68, fl69, rfl, hb70, hnx71⟩ := iter_step hit67
     refine Sq ?_
     refine Sq (Rg [0, 1, 2, 3] ?_)
     refine V 23 3 (mv 9 (vi s50.2) e59) ?_
     refine V 24 61 (mv 0 (.slice a0_0 x0.length n0_0) e55) ?_
     refine V 25 3 (ln 24 61 a0_0 x0.length n0_0 71 7 64) ?_
     refine V 26 4 (run_lss (t := 3) (t' := 3) (x := (.tmp 23)) (y := (.tmp 25)) (k := .i64) (a := s50.2) (b := (x0.length : Int)) rfl rfl) ?_
     refine Nt ?_
     refine CWP.cond (t := (decide (s50.2 < (x0.length : Int)))) (by kernel_rfl) rfl (fun hb72 => ?_) (fun hb72 => ?_)
     ·have h73 := cond_t hb70 hb72
      refine Sc ?_
      refine thenQ_nrm ?_
      refine Sq ?_
      refine Bk ?_
      refine Sq ?_
      refine Sq ?_
      obtain ⟨j79, hj87, h88⟩ := bind_some h73
      refine CWP.regionD (by kernel_rfl) (by kernel_rfl) (by kernel_rfl) (by kernel_rfl) (z := 29) (F := F5) (Lc := [es50_0]) (Lz := []) (l := [false, false, false, false, false, false, false, false, false, false, false, false, false, false, false, false, false, false, false, false, false, false, false, false, false, false, false, false, false]) (fuel := 29) (by kernel_rfl) (by kernel_rfl) hs52 (by simp) (by simp) (fun f w => ∃ (F7 : Mem), HS w0 F0 w F7 [es50_0] ∧ Mem.le F5 F7 ∧ f.d = [] ∧ f 0 = (.slice a0_0 x0.length n0_0) ∧ f 1 = (vi x1) ∧ f 2 = (vi x2) ∧ f 8 = (.slice as50_0 s50.1.length ns50_0) ∧ f 9 = (vi s50.2) ∧ f 57 = (.bool j79)) (fun wd74 hw75 => ?_) ?_
      ·refine Dtl 0 29 61 _ [tt, ff, ff, ff, ff, ff, ff, ff, ff, ff, ff, ff, ff, ff, ff, ff, ff, ff, ff, ff, ff, ff, ff, ff, ff, ff, ff, ff, ff] (fun _ hq => mv 0 (.slice a0_0 x0.length n0_0) e55) ?_
       refine Dtl 1 30 3 _ [tt, tt, ff, ff, ff, ff, ff, ff, ff, ff, ff, ff, ff, ff, ff, ff, ff, ff, ff, ff, ff, ff, ff, ff, ff, ff, ff, ff, ff] (fun _ hq => mv 9 (vi s50.2) e59) ?_
       obtain ⟨x89, hx90, h92⟩ := bind_some hj87
       obtain ⟨hi91, hx90'⟩ := idx_spec hx90
       obtain ⟨b93, o94, C95, E96, fz97, rfl, hF99, hE100⟩ := SlA.open (SlA.mono hs0_0 ((le7.trans le14).trans le53)) hx90'
       have hc102 := hE100 _ _ hx90'
       refine Dtl 2 31 0 (.pointer (some ⟨b93, (o94 + (s50.2 : Int).toNat * 7), none⟩)) [tt, tt, tt, ff, ff, ff, ff, ff, ff, ff, ff, ff, ff, ff, ff, ff, ff, ff, ff, ff, ff, ff, ff, ff, ff, ff, ff, ff, ff] (fun _ hq => ix 61 29 30 b93 o94 71 7 64 hi91) ?_
       refine Dtl 3 32 0 (.pointer (some ⟨b93, ((o94 + (s50.2 : Int).toNat * 7) + 6), none⟩)) [tt, tt, tt, tt, ff, ff, ff, ff, ff, ff, ff, ff, ff, ff, ff, ff, ff, ff, ff, ff, ff, ff, ff, ff, ff, ff, ff, ff, ff] (fun _ hq => fa 71 31 6 6 1 b93 (o94 + (s50.2 : Int).toNat * 7) ((o94 + (s50.2 : Int).toNat * 7) + 6)) ?_
       refine Dtl 4 33 4 _ [tt, tt, tt, tt, tt, ff, ff, ff, ff, ff, ff, ff, ff, ff, ff, ff, ff, ff, ff, ff, ff, ff, ff, ff, ff, ff, ff, ff, ff] (fun _ hq => lx 4 32 6 7 false 1 (.bool x89.Whole) (hq.1.1 _ _ hF99) hc102) ?_
       refine Dtl 5 34 4 _ [tt, tt, tt, tt, tt, tt, ff, ff, ff, ff, ff, ff, ff, ff, ff, ff, ff, ff, ff, ff, ff, ff, ff, ff, ff, ff, ff, ff, ff] (fun _ hq => mv 33 (.bool x89.Whole)) ?_
       refine DWP.split x89.Whole (fun hb103 => ?_) (fun hb103 => ?_)
       ·have h104 := cond_t h92 hb103
        refine Dkl [(6, 35), (7, 36), (8, 37), (9, 38), (10, 39), (11, 40)] 5 false 34 hb103 [tt, tt, tt, tt, tt, tt, tt, tt, tt, tt, tt, tt, ff, ff, ff, ff, ff, ff, ff, ff, ff, ff, ff, ff, ff, ff, ff, ff, ff] ?_
        refine Dkl [(12, 41)] 5 false 34 hb103 [tt, tt, tt, tt, tt, tt, tt, tt, tt, tt, tt, tt, tt, ff, ff, ff, ff, ff, ff, ff, ff, ff, ff, ff, ff, ff, ff, ff, ff] ?_
        refine Dtl 13 42 4 _ [tt, tt, tt, tt, tt, tt, tt, tt, tt, tt, tt, tt, tt, tt, ff, ff, ff, ff, ff, ff, ff, ff, ff, ff, ff, ff, ff, ff, ff] (fun _ hq => p1 34 (.const (.bool true)) (.tmp 41) (.bool true) hb103) ?_
        refine Dtl 14 43 4 _ [tt, tt, tt, tt, tt, tt, tt, tt, tt, tt, tt, tt, tt, tt, tt, ff, ff, ff, ff, ff, ff, ff, ff, ff, ff, ff, ff, ff, ff] (fun _ hq => mv 42 (.bool true)) ?_
        refine Dkl [(15, 44), (16, 45), (17, 46), (18, 47), (19, 48), (20, 49)] 14 false 43 rfl [tt, tt, tt, tt, tt, tt, tt, tt, tt, tt, tt, tt, tt, tt, tt, tt, tt, tt, tt, tt, tt, ff, ff, ff, ff, ff, ff, ff, ff] ?_
        refine Dkl [(21, 50), (22, 51), (23, 52), (24, 53), (25, 54), (26, 55)] 14 false 43 rfl [tt, tt, tt, tt, tt, tt, tt, tt, tt, tt, tt, tt, tt, tt, tt, tt, tt, tt, tt, tt, tt, tt, tt, tt, tt, tt, tt, ff, ff] ?_
        refine Dkl [(27, 56)] 14 false 43 rfl [tt, tt, tt, tt, tt, tt, tt, tt, tt, tt, tt, tt, tt, tt, tt, tt, tt, tt, tt, tt, tt, tt, tt, tt, tt, tt, tt, tt, ff] ?_
        refine Dtl 28 57 4 _ [tt, tt, tt, tt, tt, tt, tt, tt, tt, tt, tt, tt, tt, tt, tt, tt, tt, tt, tt, tt, tt, tt, tt, tt, tt, tt, tt, tt, tt] (fun _ hq => p1 43 (.const (.bool true)) (.tmp 56) (.bool true) rfl) ?_
        obtain rfl := some_inj h104
        exact DWP.done (by kernel_rfl) ⟨F5, hw75, (Mem.le.refl _), e54, e55, e56, e57, e58, e59, rfl⟩
       ·have h105 := cond_f h92 hb103
        refine Dgl 6 35 61 _ [tt, tt, tt, tt, tt, tt, tt, ff, ff, ff, ff, ff, ff, ff, ff, ff, ff, ff, ff, ff, ff, ff, ff, ff, ff, ff, ff, ff, ff] 5 false 34 hb103 (fun _ hq => mv 0 (.slice (some ⟨b93, o94, none⟩) x0.length n0_0) e55) ?_
        refine Dgl 7 36 3 _ [tt, tt, tt, tt, tt, tt, tt, tt, ff, ff, ff, ff, ff, ff, ff, ff, ff, ff, ff, ff, ff, ff, ff, ff, ff, ff, ff, ff, ff] 5 false 34 hb103 (fun _ hq => mv 9 (vi s50.2) e59) ?_
        obtain ⟨x106, hx107, h109⟩ := bind_some h105
        obtain ⟨hi108, hx107'⟩ := idx_spec hx107
        have hc111 := hE100 _ _ hx107'
        refine Dgl 8 37 0 (.pointer (some ⟨b93, (o94 + (s50.2 : Int).toNat * 7), none⟩)) [tt, tt, tt, tt, tt, tt, tt, tt, tt, ff, ff, ff, ff, ff, ff, ff, ff, ff, ff, ff, ff, ff, ff, ff, ff, ff, ff, ff, ff] 5 false 34 hb103 (fun _ hq => ix 61 35 36 b93 o94 71 7 64 hi108) ?_
        refine Dgl 9 38 0 (.pointer (some ⟨b93, ((o94 + (s50.2 : Int).toNat * 7) + 1), none⟩)) [tt, tt, tt, tt, tt, tt, tt, tt, tt, tt, ff, ff, ff, ff, ff, ff, ff, ff, ff, ff, ff, ff, ff, ff, ff, ff, ff, ff, ff] 5 false 34 hb103 (fun _ hq => fa 71 37 1 1 1 b93 (o94 + (s50.2 : Int).toNat * 7) ((o94 + (s50.2 : Int).toNat * 7) + 1)) ?_
        refine Dgl 10 39 3 _ [tt, tt, tt, tt, tt, tt, tt, tt, tt, tt, tt, ff, ff, ff, ff, ff, ff, ff, ff, ff, ff, ff, ff, ff, ff, ff, ff, ff, ff] 5 false 34 hb103 (fun _ hq => lx 3 38 1 7 false 1 (vi x106.Country) (hq.1.1 _ _ hF99) hc111) ?_
        refine Dgl 11 40 3 _ [tt, tt, tt, tt, tt, tt, tt, tt, tt, tt, tt, tt, ff, ff, ff, ff, ff, ff, ff, ff, ff, ff, ff, ff, ff, ff, ff, ff, ff] 5 false 34 hb103 (fun _ hq => mv 1 (vi x1) e56) ?_
        refine Dgl 12 41 4 (.bool (x106.Country != x1)) [tt, tt, tt, tt, tt, tt, tt, tt, tt, tt, tt, tt, tt, ff, ff, ff, ff, ff, ff, ff, ff, ff, ff, ff, ff, ff, ff, ff, ff] 5 false 34 hb103 (fun _ hq => run_neq (t := 3) (t' := 3) (x := (.tmp 39)) (y := (.tmp 40)) (k := .i64) (a := x106.Country) (b := x1) rfl rfl) ?_
        refine Dtl 13 42 4 _ [tt, tt, tt, tt, tt, tt, tt, tt, tt, tt, tt, tt, tt, tt, ff, ff, ff, ff, ff, ff, ff, ff, ff, ff, ff, ff, ff, ff, ff] (fun _ hq => p0 34 (.const (.bool true)) (.tmp 41) (.bool (x106.Country != x1)) hb103) ?_
        refine Dtl 14 43 4 _ [tt, tt, tt, tt, tt, tt, tt, tt, tt, tt, tt, tt, tt, tt, tt, ff, ff, ff, ff, ff, ff, ff, ff, ff, ff, ff, ff, ff, ff] (fun _ hq => mv 42 (.bool (x106.Country != x1))) ?_
        refine DWP.split (x106.Country != x1) (fun hb112 => ?_) (fun hb112 => ?_)
        ·have h113 := cond_t h109 hb112
         refine Dkl [(15, 44), (16, 45), (17, 46), (18, 47), (19, 48), (20, 49)] 14 false 43 hb112 [tt, tt, tt, tt, tt, tt, tt, tt, tt, tt, tt, tt, tt, tt, tt, tt, tt, tt, tt, tt, tt, ff, ff, ff, ff, ff, ff, ff, ff] ?_
         refine Dkl [(21, 50), (22, 51), (23, 52), (24, 53), (25, 54), (26, 55)] 14 false 43 hb112 [tt, tt, tt, tt, tt, tt, tt, tt, tt, tt, tt, tt, tt, tt, tt, tt, tt, tt, tt, tt, tt, tt, tt, tt, tt, tt, tt, ff, ff] ?_
         refine Dkl [(27, 56)] 14 false 43 hb112 [tt, tt, tt, tt, tt, tt, tt, tt, tt, tt, tt, tt, tt, tt, tt, tt, tt, tt, tt, tt, tt, tt, tt, tt, tt, tt, tt, tt, ff] ?_
         refine Dtl 28 57 4 _ [tt, tt, tt, tt, tt, tt, tt, tt, tt, tt, tt, tt, tt, tt, tt, tt, tt, tt, tt, tt, tt, tt, tt, tt, tt, tt, tt, tt, tt] (fun _ hq => p1 43 (.const (.bool true)) (.tmp 56) (.bool true) hb112) ?_
         obtain rfl := some_inj h113
         exact DWP.done (by kernel_rfl) ⟨F5, hw75, (Mem.le.refl _), e54, e55, e56, e57, e58, e59, rfl⟩
        ·have h114 := cond_f h109 hb112
         refine Dgl 15 44 3 _ [tt, tt, tt, tt, tt, tt, tt, tt, tt, tt, tt, tt, tt, tt, tt, tt, ff, ff, ff, ff, ff, ff, ff, ff, ff, ff, ff, ff, ff] 14 false 43 hb112 (fun _ hq => mv 2 (vi x2) e57) ?_
         refine Dgl 16 45 61 _ [tt, tt, tt, tt, tt, tt, tt, tt, tt, tt, tt, tt, tt, tt, tt, tt, tt, ff, ff, ff, ff, ff, ff, ff, ff, ff, ff, ff, ff] 14 false 43 hb112 (fun _ hq => mv 0 (.slice (some ⟨b93, o94, none⟩) x0.length n0_0) e55) ?_
         refine Dgl 17 46 3 _ [tt, tt, tt, tt, tt, tt, tt, tt, tt, tt, tt, tt, tt, tt, tt, tt, tt, tt, ff, ff, ff, ff, ff, ff, ff, ff, ff, ff, ff] 14 false 43 hb112 (fun _ hq => mv 9 (vi s50.2) e59) ?_
         obtain ⟨x115, hx116, h118⟩ := bind_some h114
         obtain ⟨hi117, hx116'⟩ := idx_spec hx116
         have hc120 := hE100 _ _ hx116'
         refine Dgl 18 47 0 (.pointer (some ⟨b93, (o94 + (s50.2 : Int).toNat * 7), none⟩)) [tt, tt, tt, tt, tt, tt, tt, tt, tt, tt, tt, tt, tt, tt, tt, tt, tt, tt, tt, ff, ff, ff, ff, ff, ff, ff, ff, ff, ff] 14 false 43 hb112 (fun _ hq => ix 61 45 46 b93 o94 71 7 64 hi117) ?_
         refine Dgl 19 48 0 (.pointer (some ⟨b93, ((o94 + (s50.2 : Int).toNat * 7) + 4), none⟩)) [tt, tt, tt, tt, tt, tt, tt, tt, tt, tt, tt, tt, tt, tt, tt, tt, tt, tt, tt, tt, ff, ff, ff, ff, ff, ff, ff, ff, ff] 14 false 43 hb112 (fun _ hq => fa 71 47 4 4 1 b93 (o94 + (s50.2 : Int).toNat * 7) ((o94 + (s50.2 : Int).toNat * 7) + 4)) ?_
         refine Dgl 20 49 3 _ [tt, tt, tt, tt, tt, tt, tt, tt, tt, tt, tt, tt, tt, tt, tt, tt, tt, tt, tt, tt, tt, ff, ff, ff, ff, ff, ff, ff, ff] 14 false 43 hb112 (fun _ hq => lx 3 48 4 7 false 1 (vi x115.From) (hq.1.1 _ _ hF99) hc120) ?_
         refine Dgl 21 50 61 _ [tt, tt, tt, tt, tt, tt, tt, tt, tt, tt, tt, tt, tt, tt, tt, tt, tt, tt, tt, tt, tt, tt, ff, ff, ff, ff, ff, ff, ff] 14 false 43 hb112 (fun _ hq => mv 0 (.slice (some ⟨b93, o94, none⟩) x0.length n0_0) e55) ?_
         refine Dgl 22 51 3 _ [tt, tt, tt, tt, tt, tt, tt, tt, tt, tt, tt, tt, tt, tt, tt, tt, tt, tt, tt, tt, tt, tt, tt, ff, ff, ff, ff, ff, ff] 14 false 43 hb112 (fun _ hq => mv 9 (vi s50.2) e59) ?_
         obtain ⟨x121, hx122, h124⟩ := bind_some h118
         obtain ⟨hi123, hx122'⟩ := idx_spec hx122
         have hc126 := hE100 _ _ hx122'
         refine Dgl 23 52 0 (.pointer (some ⟨b93, (o94 + (s50.2 : Int).toNat * 7), none⟩)) [tt, tt, tt, tt, tt, tt, tt, tt, tt, tt, tt, tt, tt, tt, tt, tt, tt, tt, tt, tt, tt, tt, tt, tt, ff, ff, ff, ff, ff] 14 false 43 hb112 (fun _ hq => ix 61 50 51 b93 o94 71 7 64 hi123) ?_
         refine Dgl 24 53 0 (.pointer (some ⟨b93, ((o94 + (s50.2 : Int).toNat * 7) + 5), none⟩)) [tt, tt, tt, tt, tt, tt, tt, tt, tt, tt, tt, tt, tt, tt, tt, tt, tt, tt, tt, tt, tt, tt, tt, tt, tt, ff, ff, ff, ff] 14 false 43 hb112 (fun _ hq => fa 71 52 5 5 1 b93 (o94 + (s50.2 : Int).toNat * 7) ((o94 + (s50.2 : Int).toNat * 7) + 5)) ?_
         refine Dgl 25 54 3 _ [tt, tt, tt, tt, tt, tt, tt, tt, tt, tt, tt, tt, tt, tt, tt, tt, tt, tt, tt, tt, tt, tt, tt, tt, tt, tt, ff, ff, ff] 14 false 43 hb112 (fun _ hq => lx 3 53 5 7 false 1 (vi x121.To) (hq.1.1 _ _ hF99) hc126) ?_
         refine DWP.one (i := 26) (by kernel_rfl) ?_
         obtain ⟨r127, hr128, h129⟩ := bind_some h124
         refine DStep.call (l' := [true, true, true, true, true, true, true, true, true, true, true, true, true, true, true, true, true, true, true, true, true, true, true, true, true, true, true, false, false]) (zd := true) (by kernel_rfl) (by kernel_rfl) (by kernel_rfl) (dst := (some 55)) (ty := 4) (g := (some (14, false))) (by kernel_rfl) (gd_y (d := 43) (by kernel_rfl) rfl hb112) (f0 := (.func 67)) (aos := #[(.tmp 44), (.tmp 49), (.tmp 54)]) (ats := #[3, 3, 3]) (fid := 67) (first := #[]) (cap := #[]) (args := [(vi x2), (vi x115.From), (vi x121.To)]) rfl co_ref01_within (rfl) hw75 (c_ref01_within N wd74 F5 hw75.pers (x2) (x115.From) (x121.To) _ hr128) ?_
         intro v130 F8 w131 hs132 le133 hp134
         obtain rfl := hp134
         refine Dgl 27 56 4 (.bool (!r127)) [tt, tt, tt, tt, tt, tt, tt, tt, tt, tt, tt, tt, tt, tt, tt, tt, tt, tt, tt, tt, tt, tt, tt, tt, tt, tt, tt, tt, ff] 14 false 43 hb112 (fun _ hq => run_not (t := 4) (x := (.tmp 55)) (a := r127) rfl) ?_
         refine Dtl 28 57 4 _ [tt, tt, tt, tt, tt, tt, tt, tt, tt, tt, tt, tt, tt, tt, tt, tt, tt, tt, tt, tt, tt, tt, tt, tt, tt, tt, tt, tt, tt] (fun _ hq => p0 43 (.const (.bool true)) (.tmp 56) (.bool (!r127)) hb112) ?_
         obtain rfl := some_inj h129
         exact DWP.done (by kernel_rfl) ⟨F8, hs132, le133, e54, e55, e56, e57, e58, e59, rfl⟩
      ·rintro f w76 ⟨F7, hs77, le78, e80, e81, e82, e83, e84, e85, e86⟩
       refine thenQ_nrm ?_
       refine CWP.cond (t := j79) (by kernel_rfl) e86 (fun hb135 => ?_) (fun hb135 => ?_)
       ·have h136 := cond_t h88 hb135
        refine CWP.exit (by kernel_rfl) ?_
        refine thenQ_ex ?_
        refine blockQ_hit rfl ?_
        refine thenQ_nrm ?_
        refine Rg [0, 1, 2] ?_
        refine V 27 3 (mv 9 (vi s50.2) e85) ?_
        refine V 28 3 (run_add (t := 3) (t' := 3) (x := (.tmp 27)) (y := (.const (vi 1))) (k := .i64) (a := s50.2) (b := 1) rfl rfl) ?_
        refine V 9 3 (ma 28 (vi (W64 (s50.2 + 1)))) ?_
        refine RWP.nil ?_
        have hn137 := iter_next h136 hnx71
        exact ⟨m68, Nat.lt_succ_self _, (s50.1, (W64 (s50.2 + 1))), F7, as50_0, ns50_0, es50_0, hn137, hs77, (le53.trans le78), e80, e81, e82, e83, e84, rfl, (hrs50_0.mono le78)⟩
       ·have h138 := cond_f h88 hb135
        refine Sc ?_
        refine thenQ_nrm ?_
        refine Sq (Rg [0, 1, 2] ?_)
        refine V 58 80 (mv 8 (.slice as50_0 s50.1.length ns50_0) e84) ?_
        refine V 59 3 (ln 58 80 as50_0 s50.1.length ns50_0 9 1 16) ?_
        refine V 10 3 (ma 59 (vi (s50.1.length : Int))) ?_
        refine Nss ?_
        obtain ⟨o139, ho140, h141⟩ := bind_some h138
        refine CWP.cut (fun f w => ∃ (s153 : Int) (F10 : Mem), o139 = .done s153 ∧ HS w0 F0 w F10 [es50_0] ∧ Mem.le F7 F10 ∧ f.d = [] ∧ f 0 = (.slice a0_0 x0.length n0_0) ∧ f 1 = (vi x1) ∧ f 2 = (vi x2) ∧ f 8 = (.slice as50_0 s50.1.length ns50_0) ∧ f 9 = (vi s50.2) ∧ f 10 = (vi s153)) ?_ ?_
        ·refine Bk ?_
         refine CWP.loop (by kernel_rfl) (fun m f w => ∃ (s142 : Int) (F9 : Mem), iter (ref01_Texts_L1 N x0 x1 x2 r1 j15 s50 j79) m s142 = some o139 ∧ HS w0 F0 w F9 [es50_0] ∧ Mem.le F7 F9 ∧ f.d = [] ∧ f 0 = (.slice a0_0 x0.length n0_0) ∧ f 1 = (vi x1) ∧ f 2 = (vi x2) ∧ f 8 = (.slice as50_0 s50.1.length ns50_0) ∧ f 9 = (vi s50.2) ∧ f 10 = (vi s142)) N ⟨(s50.1.length : Int), F7, ho140, hs77, (Mem.le.refl _), e80, e81, e82, e83, e84, e85, rfl⟩ ?_
         rintro m164 f w143 ⟨s142, F9, hit165, hs144, le145, e146, e147, e148, e149, e150, e151, e152⟩
         obtain ⟨m166, fl167, rfl, hb168, hnx169⟩ := iter_step hit165
         refine Sq ?_
         refine Sq ?_
         obtain ⟨j175, hj184, h185⟩ := bind_some hb168
         refine CWP.regionD (by kernel_rfl) (by kernel_rfl) (by kernel_rfl) (by kernel_rfl) (z := 15) (F := F9) (Lc := [es50_0]) (Lz := []) (l := [false, false, false, false, false, false, false, false, false, false, false, false, false, false, false]) (fuel := 15) (by kernel_rfl) (by kernel_rfl) hs144 (by simp) (by simp) (fun f w => ∃ (F11 : Mem), HS w0 F0 w F11 [es50_0] ∧ Mem.le F9 F11 ∧ f.d = [] ∧ f 0 = (.slice a0_0 x0.length n0_0) ∧ f 1 = (vi x1) ∧ f 2 = (vi x2) ∧ f 8 = (.slice as50_0 s50.1.length ns50_0) ∧ f 9 = (vi s50.2) ∧ f 10 = (vi s142) ∧ f 74 = (.bool j175)) (fun wd170 hw171 => ?_) ?_
         ·refine Dt 0 60 3 _ (fun _ hq => mv 10 (vi s142) e152) ?_
          refine Dt 1 61 4 (.bool (decide (s142 > 0))) (fun _ hq => run_gtr (t := 3) (t' := 3) (x := (.tmp 60)) (y := (.const (vi 0))) (k := .i64) (a := s142) (b := 0) rfl rfl) ?_
          refine Dt 2 62 4 _ (fun _ hq => mv 61 (.bool (decide (s142 > 0)))) ?_
          refine DWP.split (decide (s142 > 0)) (fun hb186 => ?_) (fun hb186 => ?_)
          ·have h187 := cond_t hj184 hb186
           refine Dg 3 63 80 _ 2 true 62 hb186 (fun _ hq => mv 8 (.slice as50_0 s50.1.length ns50_0) e150) ?_
           refine Dg 4 64 3 _ 2 true 62 hb186 (fun _ hq => mv 10 (vi s142) e152) ?_
           refine Dg 5 65 3 (vi (W64 (s142 - 1))) 2 true 62 hb186 (fun _ hq => run_sub (t := 3) (t' := 3) (x := (.tmp 64)) (y := (.const (vi 1))) (k := .i64) (a := s142) (b := 1) rfl rfl) ?_
           obtain ⟨x188, hx189, h191⟩ := bind_some h187
           obtain ⟨hi190, hx189'⟩ := idx_spec hx189
           obtain ⟨b192, C193, rfl, rfl, hE196⟩ := RowR.open (hrs50_0.mono (le78.trans le145)) hx189'
           have hr197 := (hrs50_0.mono (le78.trans le145))
           have hc199 := hE196 _ _ hx189'
           refine Dg 6 66 0 (.pointer (some ⟨b192, (((W64 (s142 - 1)) : Int).toNat * 1), none⟩)) 2 true 62 hb186 (fun _ hq => run_index0 (t := 80) (x := (.tmp 63)) (y := (.tmp 65)) (b := b192) (E := 9) (s := 1) (by_ := 16) rfl rfl (by kernel_rfl) hi190) ?_
           refine Dg 7 67 9 _ 2 true 62 hb186 (fun _ hq => lx 9 66 0 1 false 1 (.string ⟨(x188).toArray⟩) (hq.1.2 0 _ _ rfl) hc199) ?_
           refine Dg 8 68 61 _ 2 true 62 hb186 (fun _ hq => mv 0 (.slice a0_0 x0.length n0_0) e147) ?_
           refine Dg 9 69 3 _ 2 true 62 hb186 (fun _ hq => mv 9 (vi s50.2) e151) ?_
           obtain ⟨x200, hx201, h203⟩ := bind_some h191
           obtain ⟨hi202, hx201'⟩ := idx_spec hx201
           obtain ⟨b204, o205, C206, E207, fz208, rfl, hF210, hE211⟩ := SlA.open (SlA.mono hs0_0 ((((le7.trans le14).trans le53).trans le78).trans le145)) hx201'
           have hc213 := hE211 _ _ hx201'
           refine Dg 10 70 0 (.pointer (some ⟨b204, (o205 + (s50.2 : Int).toNat * 7), none⟩)) 2 true 62 hb186 (fun _ hq => ix 61 68 69 b204 o205 71 7 64 hi202) ?_
           refine Dg 11 71 0 (.pointer (some ⟨b204, (o205 + (s50.2 : Int).toNat * 7), none⟩)) 2 true 62 hb186 (fun _ hq => fa 71 70 0 0 1 b204 (o205 + (s50.2 : Int).toNat * 7) (o205 + (s50.2 : Int).toNat * 7)) ?_
           refine Dg 12 72 9 _ 2 true 62 hb186 (fun _ hq => lx 9 71 0 7 false 1 (.string ⟨(x200.Text).toArray⟩) (hq.1.1 _ _ hF210) hc213) ?_
           refine Dg 13 73 4 (.bool (!(sless x188 x200.Text || x188 == x200.Text))) 2 true 62 hb186 (fun _ hq => run_scmp (t := 9) (t' := 9) (x := (.tmp 67)) (y := (.tmp 72)) (op := .gtr) (a := x188) (b := x200.Text) (v := (!(sless x188 x200.Text || x188 == x200.Text))) rfl rfl rfl) ?_
           refine Dt 14 74 4 _ (fun _ hq => p1 62 (.tmp 73) (.const (.bool false)) (.bool (!(sless x188 x200.Text || x188 == x200.Text))) hb186) ?_
           obtain rfl := some_inj h203
           exact DWP.done (by kernel_rfl) ⟨F9, hw171, (Mem.le.refl _), e146, e147, e148, e149, e150, e151, e152, rfl⟩
          ·have h214 := cond_f hj184 hb186
           refine Dk [(3, 63), (4, 64), (5, 65), (6, 66), (7, 67), (8, 68), (9, 69), (10, 70), (11, 71), (12, 72), (13, 73)] 2 true 62 hb186 ?_
           refine Dt 14 74 4 _ (fun _ hq => p0 62 (.tmp 73) (.const (.bool false)) (.bool false) hb186) ?_
           obtain rfl := some_inj h214
           exact DWP.done (by kernel_rfl) ⟨F9, hw171, (Mem.le.refl _), e146, e147, e148, e149, e150, e151, e152, rfl⟩
         ·rintro f w172 ⟨F11, hs173, le174, e176, e177, e178, e179, e180, e181, e182, e183⟩
          refine thenQ_nrm ?_
          refine CWP.cond (t := j175) (by kernel_rfl) e183 (fun hb215 => ?_) (fun hb215 => ?_)
          ·have h216 := cond_t h185 hb215
           refine Sc ?_
           refine thenQ_nrm ?_
           refine Bk ?_
           refine Rg [0, 1, 2] ?_
           refine V 75 3 (mv 10 (vi s142) e182) ?_
           refine V 76 3 (run_sub (t := 3) (t' := 3) (x := (.tmp 75)) (y := (.const (vi 1))) (k := .i64) (a := s142) (b := 1) rfl rfl) ?_
           refine V 10 3 (ma 76 (vi (W64 (s142 - 1)))) ?_
           refine RWP.nil ?_
           refine blockQ_nrm ?_
           have hn217 := iter_next h216 hnx169
           exact ⟨m166, Nat.lt_succ_self _, (W64 (s142 - 1)), F11, hn217, hs173, (le145.trans le174), e176, e177, e178, e179, e180, e181, rfl⟩
          ·have h218 := cond_f h185 hb215
           refine CWP.exit (by kernel_rfl) ?_
           refine thenQ_ex ?_
           refine thenQ_ex ?_
           refine blockQ_hit rfl ?_
           have ho219 := iter_done h218 hnx169
           exact .inl ⟨rfl, s142, F11, ho219, hs173, (le145.trans le174), e176, e177, e178, e179, e180, e181, e182⟩
        ·rintro f w154 ⟨s153, F10, rfl, hs155, le156, e157, e158, e159, e160, e161, e162, e163⟩
         have h220 := k_done h141
         refine thenQ_nrm ?_
         refine Sq (Rg [0] ?_)
         refine V 11 80 (mc (.slice none 0 0) (.slice none ([] : List (List UInt8)).length 0)) ?_
         refine Nss (Rg [0, 1, 2, 3, 4, 5] ?_)
         refine V 77 80 (mv 11 (.slice none ([] : List (List UInt8)).length 0)) ?_
         refine V 78 80 (mv 8 (.slice as50_0 s50.1.length ns50_0) e161) ?_
         refine V 79 3 (mv 10 (vi s153) e163) ?_
         have hb224 := RowR.bound (hrs50_0.mono (le78.trans le156))
         obtain ⟨F12, hs221, le222, hs223⟩ : ∃ Fq, HS w0 F0 w154 Fq [] ∧ Mem.le F10 Fq ∧ SlA tStr Fq as50_0 s50.1 := HS.freezeRow hs155 (k := 0) rfl (hrs50_0.mono (le78.trans le156))
         obtain ⟨r225, hr226, h227⟩ := bind_some h220
         obtain ⟨a228, n229, hb230, hs231, hrun232⟩ := part_val (P := Tryz.prog) (T := tStr) (lo := none) (hi := (some (.tmp 79))) (mx := none) (t := 80) (E := 9) (by_ := 16) (c := ns50_0) (a := as50_0) (l := s50.1) (r := r225) (il := 0) (ih := s153) (im := 0) (by kernel_rfl) (by kernel_rfl) hb224 hs223 (fun h => by first | rfl | cases h) hr226
         refine V 80 80 (hrun232 (x := (.tmp 78)) rfl rfl rfl trivial) ?_
         have hs233 : HS w0 F0 w154 F12 [(none, .cells #[] 0 (0, 0))] := hs221.dummy _
         obtain ⟨r235, hap236, h237⟩ := bind_some h227
         refine RWP.append (dst := (some 81)) (ty := 80) (g := none) (by kernel_rfl) rfl (x := (.tmp 77)) (y := (.tmp 80)) (t := 80) (t2 := 80) (by_ := 16) (z := (.string ⟨(([] : List UInt8)).toArray⟩)) (a2 := a228) (c2 := n229) (m := r225) (T := tStr) (E := 9) (a := none) (cap := 0) (l := ([] : List (List UInt8))) rfl rfl (by kernel_rfl) (by decide) (by kernel_rfl) (by kernel_rfl) rfl oStr hs233 (k := 0) rfl (RowR.nil tStr 9 F12 _) (SlA.rd hs233 hs231) (r := r235) hap236 (fun a238 n239 e240 w241 (hs242 : HS w0 F0 w241 F12 [e240]) hr243 => ?_)
         refine V 11 80 (ma 81 (.slice a238 r235.length n239)) ?_
         refine Nss (Rg [0, 1, 2, 3, 4, 5, 6, 7, 8] ?_)
         refine V 82 80 (mv 11 (.slice a238 r235.length n239)) ?_
         refine V 83 61 (mv 0 (.slice a0_0 x0.length n0_0) e158) ?_
         refine V 84 3 (mv 9 (vi s50.2) e162) ?_
         obtain ⟨x244, hx245, h247⟩ := bind_some h237
         obtain ⟨hi246, hx245'⟩ := idx_spec hx245
         obtain ⟨b248, o249, C250, E251, fz252, rfl, hF254, hE255⟩ := SlA.open (SlA.mono hs0_0 (((((le7.trans le14).trans le53).trans le78).trans le156).trans le222)) hx245'
         have hc257 := hE255 _ _ hx245'
         refine V 85 0 (ix 61 83 84 b248 o249 71 7 64 hi246) ?_
         refine V 86 0 (fa 71 85 0 0 1 b248 (o249 + (s50.2 : Int).toNat * 7) (o249 + (s50.2 : Int).toNat * 7)) ?_
         refine V 87 9 (lx 9 86 0 7 false 1 (.string ⟨(x244.Text).toArray⟩) (hs242.pers _ _ hF254) hc257) ?_
         refine RWP.buildSlice (dst := (some 88)) (ty := 80) (g := none) (by kernel_rfl) rfl (t := 80) (len := 1) (parts := #[(0, (.tmp 87))]) (vs := [(0, (.string ⟨(x244.Text).toArray⟩))]) (rfl) (E := 9) (cs := [(.string ⟨(x244.Text).toArray⟩)]) (by kernel_rfl) hs242 (fun b258 w259 (hs260 : HS w0 F0 w259 F12 [(some b258, .cells ([(.string ⟨(x244.Text).toArray⟩)] : List Value).toArray 9 (0, 0)), e240]) => ?_)
         have hr262 : RowR tStr 9 F12 (some ⟨b258, 0, none⟩) 1 [x244.Text] (some b258, .cells ([(.string ⟨(x244.Text).toArray⟩)] : List Value).toArray 9 (0, 0)) := RowR.lit ⟨rfl, rfl⟩ (by simp)
         obtain ⟨r263, hap264, h265⟩ := bind_some h247
         refine RWP.append (dst := (some 89)) (ty := 80) (g := none) (by kernel_rfl) rfl (x := (.tmp 82)) (y := (.tmp 88)) (t := 80) (t2 := 80) (by_ := 16) (z := (.string ⟨(([] : List UInt8)).toArray⟩)) (a2 := (some ⟨b258, 0, none⟩)) (c2 := 1) (m := [x244.Text]) (T := tStr) (E := 9) (a := a238) (cap := n239) (l := r235) rfl rfl (by kernel_rfl) (by decide) (by kernel_rfl) (by kernel_rfl) rfl oStr hs260 (k := 1) rfl hr243 (RowR.rd hs260 (k := 0) rfl hr262) (r := r263) hap264 (fun a266 n267 e268 w269 (hs270 : HS w0 F0 w269 F12 [(some b258, .cells ([(.string ⟨(x244.Text).toArray⟩)] : List Value).toArray 9 (0, 0)), e268]) hr271 => ?_)
         refine V 11 80 (ma 89 (.slice a266 r263.length n267)) ?_
         refine Nss (Rg [0, 1, 2, 3, 4, 5] ?_)
         refine V 90 80 (mv 11 (.slice a266 r263.length n267)) ?_
         refine V 91 80 (mv 8 (.slice as50_0 s50.1.length ns50_0) e161) ?_
         refine V 92 3 (mv 10 (vi s153) e163) ?_
         obtain ⟨r272, hr273, h274⟩ := bind_some h265
         obtain ⟨a275, n276, hb277, hs278, hrun279⟩ := part_val (P := Tryz.prog) (T := tStr) (lo := (some (.tmp 92))) (hi := none) (mx := none) (t := 80) (E := 9) (by_ := 16) (c := ns50_0) (a := as50_0) (l := s50.1) (r := r272) (il := s153) (ih := (s50.1.length : Int)) (im := 0) (by kernel_rfl) (by kernel_rfl) hb224 hs223 (fun h => by first | rfl | cases h) hr273
         refine V 93 80 (hrun279 (x := (.tmp 91)) rfl rfl rfl trivial) ?_
         obtain ⟨r280, hap281, h282⟩ := bind_some h274
         refine RWP.append (dst := (some 94)) (ty := 80) (g := none) (by kernel_rfl) rfl (x := (.tmp 90)) (y := (.tmp 93)) (t := 80) (t2 := 80) (by_ := 16) (z := (.string ⟨(([] : List UInt8)).toArray⟩)) (a2 := a275) (c2 := n276) (m := r272) (T := tStr) (E := 9) (a := a266) (cap := n267) (l := r263) rfl rfl (by kernel_rfl) (by decide) (by kernel_rfl) (by kernel_rfl) rfl oStr hs270 (k := 1) rfl hr271 (SlA.rd hs270 hs278) (r := r280) hap281 (fun a283 n284 e285 w286 (hs287 : HS w0 F0 w286 F12 [(some b258, .cells ([(.string ⟨(x244.Text).toArray⟩)] : List Value).toArray 9 (0, 0)), e285]) hr288 => ?_)
         refine V 11 80 (ma 94 (.slice a283 r280.length n284)) ?_
         refine Nt ?_
         refine Rg [0, 1] ?_
         refine V 95 80 (mv 11 (.slice a283 r280.length n284)) ?_
         refine V 8 80 (ma 95 (.slice a283 r280.length n284)) ?_
         refine RWP.nil ?_
         refine blockQ_nrm ?_
         refine thenQ_nrm ?_
         refine Rg [0, 1, 2] ?_
         refine V 27 3 (mv 9 (vi s50.2) e162) ?_
         refine V 28 3 (run_add (t := 3) (t' := 3) (x := (.tmp 27)) (y := (.const (vi 1))) (k := .i64) (a := s50.2) (b := 1) rfl rfl) ?_
         refine V 9 3 (ma 28 (vi (W64 (s50.2 + 1)))) ?_
         refine RWP.nil ?_
         have hs289 : HS w0 F0 w286 F12 [e285] := hs287.drop 0
         have hn290 := iter_next h282 hnx71
         exact ⟨m68, Nat.lt_succ_self _, (r280, (W64 (s50.2 + 1))), F12, a283, n284, e285, hn290, hs289, (((le53.trans le78).trans le156).trans le222), e157, e158, e159, e160, rfl, rfl, hr288⟩
     ·have h291 := cond_f hb70 hb72
      refine CWP.exit (by kernel_rfl) ?_
      refine thenQ_ex ?_
      refine thenQ_ex ?_
      refine blockQ_hit rfl ?_
      have ho292 := iter_done h291 hnx71
      exact .inl ⟨rfl, (s50.1, s50.2), F5, as50_0, ns50_0, es50_0, ho292, hs52, le53, e54, e58, hrs50_0⟩
    ·rintro f w61 ⟨s60, F6, as60_0, ns60_0, es60_0, rfl, hs62, le63, e64, e65, hrs60_0⟩
     have h293 := k_done h49
     refine thenQ_nrm ?_
     refine Sq (Rg [0, 1, 2] ?_)
     refine V 96 80 (mv 8 (.slice as60_0 s60.1.length ns60_0) e65) ?_
     refine V 6 80 (ma 96 (.slice as60_0 s60.1.length ns60_0)) ?_
     refine V 7 23 (mc (vi 0) (vi 0)) ?_
     refine Nt ?_
     refine CWP.ret (by kernel_rfl) ?_
     have hb297 := RowR.bound hrs60_0
     obtain ⟨F13, hs294, le295, hs296⟩ : ∃ Fq, HS w0 F0 w61 Fq [] ∧ Mem.le F6 Fq ∧ SlA tStr Fq as60_0 s60.1 := HS.freezeRow hs62 (k := 0) rfl hrs60_0
     have hfin := some_inj h293
     subst hfin
     exact ⟨e64, (.tuple #[(.slice as60_0 s60.1.length ns60_0), (vi 0)]), res_of (l := [.tmp 6, .tmp 7]) (by kernel_rfl) (vs := [(.slice as60_0 s60.1.length ns60_0), (vi 0)]) ⟨rfl, ⟨rfl, trivial⟩⟩, (.tuple #[(.slice as60_0 s60.1.length ns60_0), (vi 0)]), F13, rfl, hs294.clear, ⟨as60_0, ns60_0, rfl, hb297, hs296⟩⟩
end Go.Proofs.YtlddakefmfcblaaGreatDoor
namespace Go.Proofs.YtlddakefmfcblaaGreatDoor
open Go.Proofs
def ref01_SameTexts_L0 (N : Nat) (x0 : (List (List UInt8))) (x1 : (List (List UInt8))) : Int → Option (Flow Bool Int) := fun s7 =>
 (bif (decide (s7 < (x0.length : Int))) then (((idx x0 s7).bind fun x41 => ((idx x1 s7).bind fun x55 => some (x41 != x55))).bind fun j33 => (bif j33 then some (.ret false) else some (.next (W64 (s7 + 1))))) else some (.done s7))
def ref01_SameTexts (N : Nat) (x0 : (List (List UInt8))) (x1 : (List (List UInt8))) : Option Bool :=
 (bif ((x0.length : Int) != (x1.length : Int)) then some false else ((iter (ref01_SameTexts_L0 N x0 x1) N 0).bind fun o => o.k (fun r => some r) (fun s15 => some true)))
theorem co_ref01_SameTexts : CallOk Tryz.prog 63 := fun _ _ => by kernel_rfl
set_option maxHeartbeats 4000000 in
set_option maxRecDepth 100000 in
theorem c_ref01_SameTexts (N : Nat) (w0 : World) (F0 : Mem) (hF : ∀ b o, F0 b = some o → w0.heap[b]? = some o) (x0 : (List (List UInt8))) (a0_0 : Option Addr) (n0_0 : Nat) (hb0_0 : LC x0.length n0_0) (hs0_0 : SlA tStr F0 a0_0 x0) (x1 : (List (List UInt8))) (a1_0 : Option Addr) (n1_0 : Nat) (hb1_0 : LC x1.length n1_0) (hs1_0 : SlA tStr F0 a1_0 x1) (r : Bool) (h : ref01_SameTexts N x0 x1 = some r) :
  Calls Tryz.prog 63 ([(.slice a0_0 x0.length n0_0), (.slice a1_0 x1.length n1_0)] : List Value).toArray w0 (FRet w0 F0 fun F' v => v = (.bool r)) := by
 have hs0 := HS.start hF
 refine calls_of (n := 26) (c := bodyOf Tryz.f63) Tryz.func63 (by kernel_rfl) (by kernel_rfl) (by kernel_rfl) ?_
 refine Sq (Rg [0] ?_)
 refine V 4 4 (mc (.bool false) (.bool false)) ?_
 refine Nss ?_
 refine Sq (Rg [0, 1, 2, 3, 4] ?_)
 refine V 6 80 (mv 0 (.slice a0_0 x0.length n0_0)) ?_
 refine V 7 3 (ln 6 80 a0_0 x0.length n0_0 9 1 16) ?_
 refine V 8 80 (mv 1 (.slice a1_0 x1.length n1_0)) ?_
 refine V 9 3 (ln 8 80 a1_0 x1.length n1_0 9 1 16) ?_
 refine V 10 4 (run_neq (t := 3) (t' := 3) (x := (.tmp 7)) (y := (.tmp 9)) (k := .i64) (a := (x0.length : Int)) (b := (x1.length : Int)) rfl rfl) ?_
 refine Nt ?_
 refine CWP.cond (t := ((x0.length : Int) != (x1.length : Int))) (by kernel_rfl) rfl (fun hb1 => ?_) (fun hb1 => ?_)
 ·have h2 := cond_t h hb1
  refine Sq (Rg [0] ?_)
  refine V 4 4 (mc (.bool false) (.bool false)) ?_
  refine Nt ?_
  refine CWP.ret (by kernel_rfl) ?_
  refine thenQ_ret ?_
  have hfin := some_inj h2
  subst hfin
  exact ⟨rfl, (.bool false), res_of (l := [.tmp 4]) (by kernel_rfl) (vs := [(.bool false)]) ⟨rfl, trivial⟩, (.bool false), F0, rfl, hs0.clear, rfl⟩
 ·have h3 := cond_f h hb1
  refine Sc ?_
  refine thenQ_nrm ?_
  refine Sq ?_
  refine Sq (Rg [0] ?_)
  refine V 5 3 (mc (vi 0) (vi 0)) ?_
  refine Nt ?_
  obtain ⟨o4, ho5, h6⟩ := bind_some h3
  refine CWP.cut (fun f w => ∃ (s15 : Int) (F2 : Mem), o4 = .done s15 ∧ HS w0 F0 w F2 [] ∧ Mem.le F0 F2 ∧ f.d = []) ?_ ?_
  ·refine Bk ?_
   refine CWP.loop (by kernel_rfl) (fun m f w => ∃ (s7 : Int) (F1 : Mem), iter (ref01_SameTexts_L0 N x0 x1) m s7 = some o4 ∧ HS w0 F0 w F1 [] ∧ Mem.le F0 F1 ∧ f.d = [] ∧ f 0 = (.slice a0_0 x0.length n0_0) ∧ f 1 = (.slice a1_0 x1.length n1_0) ∧ f 5 = (vi s7)) N ⟨0, F0, ho5, hs0, (Mem.le.refl _), rfl, rfl, rfl, rfl⟩ ?_
   rintro m20 f w8 ⟨s7, F1, hit21, hs9, le10, e11, e12, e13, e14⟩
   obtain ⟨m22, fl23, rfl, hb24, hnx25⟩ := iter_step hit21
   refine Sq ?_
   refine Sq (Rg [0, 1, 2, 3] ?_)
   refine V 11 3 (mv 5 (vi s7) e14) ?_
   refine V 12 80 (mv 0 (.slice a0_0 x0.length n0_0) e12) ?_
   refine V 13 3 (ln 12 80 a0_0 x0.length n0_0 9 1 16) ?_
   refine V 14 4 (run_lss (t := 3) (t' := 3) (x := (.tmp 11)) (y := (.tmp 13)) (k := .i64) (a := s7) (b := (x0.length : Int)) rfl rfl) ?_
   refine Nt ?_
   refine CWP.cond (t := (decide (s7 < (x0.length : Int)))) (by kernel_rfl) rfl (fun hb26 => ?_) (fun hb26 => ?_)
   ·have h27 := cond_t hb24 hb26
    refine Sc ?_
    refine thenQ_nrm ?_
    refine Sq ?_
    refine Bk ?_
    refine Sq ?_
    obtain ⟨j33, hj39, h40⟩ := bind_some h27
    refine CWP.regionD (by kernel_rfl) (by kernel_rfl) (by kernel_rfl) (by kernel_rfl) (z := 9) (F := F1) (Lc := []) (Lz := []) (l := [false, false, false, false, false, false, false, false, false]) (fuel := 9) (by kernel_rfl) (by kernel_rfl) hs9 (by simp) (by simp) (fun f w => ∃ (F3 : Mem), HS w0 F0 w F3 [] ∧ Mem.le F1 F3 ∧ f.d = [] ∧ f 0 = (.slice a0_0 x0.length n0_0) ∧ f 1 = (.slice a1_0 x1.length n1_0) ∧ f 5 = (vi s7) ∧ f 25 = (.bool j33)) (fun wd28 hw29 => ?_) ?_
    ·refine Dt 0 17 80 _ (fun _ hq => mv 0 (.slice a0_0 x0.length n0_0) e12) ?_
     refine Dt 1 18 3 _ (fun _ hq => mv 5 (vi s7) e14) ?_
     obtain ⟨x41, hx42, h44⟩ := bind_some hj39
     obtain ⟨hi43, hx42'⟩ := idx_spec hx42
     obtain ⟨b45, o46, C47, E48, fz49, rfl, hF51, hE52⟩ := SlA.open (SlA.mono hs0_0 le10) hx42'
     have hc54 := hE52 _ _ hx42'
     refine Dt 2 19 0 (.pointer (some ⟨b45, (o46 + (s7 : Int).toNat * 1), none⟩)) (fun _ hq => ix 80 17 18 b45 o46 9 1 16 hi43) ?_
     refine Dt 3 20 9 _ (fun _ hq => lx 9 19 0 1 false 1 (.string ⟨(x41).toArray⟩) (hq.1.1 _ _ hF51) hc54) ?_
     refine Dt 4 21 80 _ (fun _ hq => mv 1 (.slice a1_0 x1.length n1_0) e13) ?_
     refine Dt 5 22 3 _ (fun _ hq => mv 5 (vi s7) e14) ?_
     obtain ⟨x55, hx56, h58⟩ := bind_some h44
     obtain ⟨hi57, hx56'⟩ := idx_spec hx56
     obtain ⟨b59, o60, C61, E62, fz63, rfl, hF65, hE66⟩ := SlA.open (SlA.mono hs1_0 le10) hx56'
     have hc68 := hE66 _ _ hx56'
     refine Dt 6 23 0 (.pointer (some ⟨b59, (o60 + (s7 : Int).toNat * 1), none⟩)) (fun _ hq => ix 80 21 22 b59 o60 9 1 16 hi57) ?_
     refine Dt 7 24 9 _ (fun _ hq => lx 9 23 0 1 false 1 (.string ⟨(x55).toArray⟩) (hq.1.1 _ _ hF65) hc68) ?_
     refine Dt 8 25 4 (.bool (x41 != x55)) (fun _ hq => run_scmp (t := 9) (t' := 9) (x := (.tmp 20)) (y := (.tmp 24)) (op := .neq) (a := x41) (b := x55) (v := (x41 != x55)) rfl rfl rfl) ?_
     obtain rfl := some_inj h58
     exact DWP.done (by kernel_rfl) ⟨F1, hw29, (Mem.le.refl _), e11, e12, e13, e14, rfl⟩
    ·rintro f w30 ⟨F3, hs31, le32, e34, e35, e36, e37, e38⟩
     refine thenQ_nrm ?_
     refine CWP.cond (t := j33) (by kernel_rfl) e38 (fun hb69 => ?_) (fun hb69 => ?_)
     ·have h70 := cond_t h40 hb69
      refine Sq (Rg [0] ?_)
      refine V 4 4 (mc (.bool false) (.bool false)) ?_
      refine Nt ?_
      refine CWP.ret (by kernel_rfl) ?_
      refine blockQ_ret ?_
      refine thenQ_ret ?_
      refine thenQ_ret ?_
      refine blockQ_ret ?_
      have hret := iter_ret h70 hnx25
      subst hret
      refine .inr ?_
      refine thenQ_ret ?_
      have hfin := some_inj h6
      subst hfin
      exact ⟨e34, (.bool false), res_of (l := [.tmp 4]) (by kernel_rfl) (vs := [(.bool false)]) ⟨rfl, trivial⟩, (.bool false), F3, rfl, hs31.clear, rfl⟩
     ·have h71 := cond_f h40 hb69
      refine Sc ?_
      refine blockQ_nrm ?_
      refine thenQ_nrm ?_
      refine Rg [0, 1, 2] ?_
      refine V 15 3 (mv 5 (vi s7) e37) ?_
      refine V 16 3 (run_add (t := 3) (t' := 3) (x := (.tmp 15)) (y := (.const (vi 1))) (k := .i64) (a := s7) (b := 1) rfl rfl) ?_
      refine V 5 3 (ma 16 (vi (W64 (s7 + 1)))) ?_
      refine RWP.nil ?_
      have hn72 := iter_next h71 hnx25
      exact ⟨m22, Nat.lt_succ_self _, (W64 (s7 + 1)), F3, hn72, hs31, (le10.trans le32), e34, e35, e36, rfl⟩
   ·have h73 := cond_f hb24 hb26
    refine CWP.exit (by kernel_rfl) ?_
    refine thenQ_ex ?_
    refine thenQ_ex ?_
    refine blockQ_hit rfl ?_
    have ho74 := iter_done h73 hnx25
    exact .inl ⟨rfl, s7, F1, ho74, hs9, le10, e11⟩
  ·rintro f w16 ⟨s15, F2, rfl, hs17, le18, e19⟩
   have h75 := k_done h6
   refine thenQ_nrm ?_
   refine Sq (Rg [0] ?_)
   refine V 4 4 (mc (.bool true) (.bool true)) ?_
   refine Nt ?_
   refine CWP.ret (by kernel_rfl) ?_
   have hfin := some_inj h75
   subst hfin
   exact ⟨e19, (.bool true), res_of (l := [.tmp 4]) (by kernel_rfl) (vs := [(.bool true)]) ⟨rfl, trivial⟩, (.bool true), F2, rfl, hs17.clear, rfl⟩
end Go.Proofs.YtlddakefmfcblaaGreatDoor
namespace Go.Proofs.YtlddakefmfcblaaGreatDoor
open Go.Proofs
def law01_AirDays (N : Nat) (x0 : (List Prefix)) (x1 : (List UInt8)) (x2 : Int) (x3 : Int) : Option Bool :=
 ((law01_awake N ).bind fun r1 => (bif (bif (decide ((x0.length : Int) > 50)) then ((decide ((x0.length : Int) ≤ 400)) || ((decide ((x0.length : Int) > 500)) || (decide ((x1.length : Int) > 1000)))) else ((decide ((x0.length : Int) > 500)) || (decide ((x1.length : Int) > 1000)))) then some r1 else ((air_Since N x0 x1 x3).bind fun r26 => ((ref01_Since N x0 x1 x3).bind fun r39 => ((air_Texts N x0 x2 x3).bind fun r52 => ((ref01_Texts N x0 x2 x3).bind fun r60 => ((bif r1 then (bif ((r26.1.Lo == r39.1.Lo) && ((r26.1.Hi == r39.1.Hi) && true)) then (bif (r26.2 == r39.2) then (bif (r52.2 == r60.2) then ((ref01_SameTexts N r52.1 r60.1).bind fun r84 => some r84) else some false) else some false) else some false) else some false).bind fun j71 => some j71)))))))
set_option maxHeartbeats 4000000 in
set_option maxRecDepth 100000 in
theorem c_law01_AirDays (N : Nat) (w0 : World) (F0 : Mem) (hF : ∀ b o, F0 b = some o → w0.heap[b]? = some o) (hG : Glob F0) (x0 : (List Prefix)) (a0_0 : Option Addr) (n0_0 : Nat) (hb0_0 : LC x0.length n0_0) (hs0_0 : SlA tPrefix F0 a0_0 x0) (x1 : (List UInt8)) (x2 : Int) (x3 : Int) (r : Bool) (h : law01_AirDays N x0 x1 x2 x3 = some r) :
  Calls Tryz.prog 16 ([(.slice a0_0 x0.length n0_0), (.string ⟨(x1).toArray⟩), (vi x2), (vi x3)] : List Value).toArray w0 (FRet w0 F0 fun F' v => v = (.bool r)) := by
 have hs0 := HS.start hF
 refine calls_of (n := 87) (c := bodyOf Tryz.f16) Tryz.func16 (by kernel_rfl) (by kernel_rfl) (by kernel_rfl) ?_
 refine Sq (Rg [0] ?_)
 refine V 8 4 (mc (.bool false) (.bool false)) ?_
 refine Nss (Rg [0, 1] ?_)
 obtain ⟨r1, hr2, h3⟩ := bind_some h
 refine Cl 18 4 17 #[] #[] co_law01_awake hs0 (c_law01_awake N w0 F0 hs0.pers hG  _ hr2) ?_
 intro v4 F1 w5 hs6 le7 hp8
 obtain rfl := hp8
 refine V 9 4 (ma 18 (.bool r1)) ?_
 refine Nss ?_
 refine Sq (Rg [0, 1, 2, 3, 4, 5, 6, 7, 8, 9, 10, 11, 12, 13, 14, 15, 16, 17] ?_)
 refine RWP.cut (fun f w => ∃ (F2 : Mem), HS w0 F0 w F2 [] ∧ Mem.le F1 F2 ∧ f.d = [] ∧ f 0 = (.slice a0_0 x0.length n0_0) ∧ f 1 = (.string ⟨(x1).toArray⟩) ∧ f 2 = (vi x2) ∧ f 3 = (vi x3) ∧ f 9 = (.bool r1) ∧ f 36 = (.bool (bif (decide ((x0.length : Int) > 50)) then ((decide ((x0.length : Int) ≤ 400)) || ((decide ((x0.length : Int) > 500)) || (decide ((x1.length : Int) > 1000)))) else ((decide ((x0.length : Int) > 500)) || (decide ((x1.length : Int) > 1000)))))) ?_ ?_
 ·refine V 19 61 (mv 0 (.slice a0_0 x0.length n0_0)) ?_
  refine V 20 3 (ln 19 61 a0_0 x0.length n0_0 71 7 64) ?_
  refine V 21 4 (run_gtr (t := 3) (t' := 3) (x := (.tmp 20)) (y := (.const (vi 50))) (k := .i64) (a := (x0.length : Int)) (b := 50) rfl rfl) ?_
  refine V 22 4 (mv 21 (.bool (decide ((x0.length : Int) > 50)))) ?_
  refine RWP.split (decide ((x0.length : Int) > 50)) (fun hb19 => ?_) (fun hb19 => ?_)
  ·refine Vg 23 61 3 true 22 hb19 (mv 0 (.slice a0_0 x0.length n0_0)) ?_
   refine Vg 24 3 3 true 22 hb19 (ln 23 61 a0_0 x0.length n0_0 71 7 64) ?_
   refine Vg 25 4 3 true 22 hb19 (run_leq (t := 3) (t' := 3) (x := (.tmp 24)) (y := (.const (vi 400))) (k := .i64) (a := (x0.length : Int)) (b := 400) rfl rfl) ?_
   refine V 26 4 (p1 22 (.tmp 25) (.const (.bool false)) (.bool (decide ((x0.length : Int) ≤ 400))) hb19) ?_
   refine V 27 4 (mv 26 (.bool (decide ((x0.length : Int) ≤ 400)))) ?_
   refine RWP.split (decide ((x0.length : Int) ≤ 400)) (fun hb20 => ?_) (fun hb20 => ?_)
   ·refine Sk [28, 29, 30] 8 false 27 hb20 ?_
    refine V 31 4 (p1 27 (.const (.bool true)) (.tmp 30) (.bool true) hb20) ?_
    refine V 32 4 (mv 31 (.bool true)) ?_
    refine Sk [33, 34, 35] 13 false 32 rfl ?_
    refine V 36 4 (p1 32 (.const (.bool true)) (.tmp 35) (.bool true) rfl) ?_
    exact RWP.nil ⟨rfl, F1, hs6, (Mem.le.refl _), rfl, rfl, rfl, rfl, rfl, rfl, (congrArg Value.bool (bif_t hb19 (or_t hb20 (rfl))))⟩
   ·refine Vg 28 61 8 false 27 hb20 (mv 0 (.slice a0_0 x0.length n0_0)) ?_
    refine Vg 29 3 8 false 27 hb20 (ln 28 61 a0_0 x0.length n0_0 71 7 64) ?_
    refine Vg 30 4 8 false 27 hb20 (run_gtr (t := 3) (t' := 3) (x := (.tmp 29)) (y := (.const (vi 500))) (k := .i64) (a := (x0.length : Int)) (b := 500) rfl rfl) ?_
    refine V 31 4 (p0 27 (.const (.bool true)) (.tmp 30) (.bool (decide ((x0.length : Int) > 500))) hb20) ?_
    refine V 32 4 (mv 31 (.bool (decide ((x0.length : Int) > 500)))) ?_
    refine RWP.split (decide ((x0.length : Int) > 500)) (fun hb21 => ?_) (fun hb21 => ?_)
    ·refine Sk [33, 34, 35] 13 false 32 hb21 ?_
     refine V 36 4 (p1 32 (.const (.bool true)) (.tmp 35) (.bool true) hb21) ?_
     exact RWP.nil ⟨rfl, F1, hs6, (Mem.le.refl _), rfl, rfl, rfl, rfl, rfl, rfl, (congrArg Value.bool (bif_t hb19 (or_f hb20 (or_t hb21 (rfl)))))⟩
    ·refine Vg 33 9 13 false 32 hb21 (mv 1 (.string ⟨(x1).toArray⟩)) ?_
     refine Vg 34 3 13 false 32 hb21 (run_slen (x := (.tmp 33)) (ats := #[9]) (t := 9) (a := x1) rfl rfl (by kernel_rfl)) ?_
     refine Vg 35 4 13 false 32 hb21 (run_gtr (t := 3) (t' := 3) (x := (.tmp 34)) (y := (.const (vi 1000))) (k := .i64) (a := (x1.length : Int)) (b := 1000) rfl rfl) ?_
     refine V 36 4 (p0 32 (.const (.bool true)) (.tmp 35) (.bool (decide ((x1.length : Int) > 1000))) hb21) ?_
     exact RWP.nil ⟨rfl, F1, hs6, (Mem.le.refl _), rfl, rfl, rfl, rfl, rfl, rfl, (congrArg Value.bool (bif_t hb19 (or_f hb20 (or_f hb21 (rfl)))))⟩
  ·refine Sk [23, 24, 25] 3 true 22 hb19 ?_
   refine V 26 4 (p0 22 (.tmp 25) (.const (.bool false)) (.bool false) hb19) ?_
   refine V 27 4 (mv 26 (.bool false)) ?_
   refine Vg 28 61 8 false 27 rfl (mv 0 (.slice a0_0 x0.length n0_0)) ?_
   refine Vg 29 3 8 false 27 rfl (ln 28 61 a0_0 x0.length n0_0 71 7 64) ?_
   refine Vg 30 4 8 false 27 rfl (run_gtr (t := 3) (t' := 3) (x := (.tmp 29)) (y := (.const (vi 500))) (k := .i64) (a := (x0.length : Int)) (b := 500) rfl rfl) ?_
   refine V 31 4 (p0 27 (.const (.bool true)) (.tmp 30) (.bool (decide ((x0.length : Int) > 500))) rfl) ?_
   refine V 32 4 (mv 31 (.bool (decide ((x0.length : Int) > 500)))) ?_
   refine RWP.split (decide ((x0.length : Int) > 500)) (fun hb22 => ?_) (fun hb22 => ?_)
   ·refine Sk [33, 34, 35] 13 false 32 hb22 ?_
    refine V 36 4 (p1 32 (.const (.bool true)) (.tmp 35) (.bool true) hb22) ?_
    exact RWP.nil ⟨rfl, F1, hs6, (Mem.le.refl _), rfl, rfl, rfl, rfl, rfl, rfl, (congrArg Value.bool (bif_f hb19 (or_t hb22 (rfl))))⟩
   ·refine Vg 33 9 13 false 32 hb22 (mv 1 (.string ⟨(x1).toArray⟩)) ?_
    refine Vg 34 3 13 false 32 hb22 (run_slen (x := (.tmp 33)) (ats := #[9]) (t := 9) (a := x1) rfl rfl (by kernel_rfl)) ?_
    refine Vg 35 4 13 false 32 hb22 (run_gtr (t := 3) (t' := 3) (x := (.tmp 34)) (y := (.const (vi 1000))) (k := .i64) (a := (x1.length : Int)) (b := 1000) rfl rfl) ?_
    refine V 36 4 (p0 32 (.const (.bool true)) (.tmp 35) (.bool (decide ((x1.length : Int) > 1000))) hb22) ?_
    exact RWP.nil ⟨rfl, F1, hs6, (Mem.le.refl _), rfl, rfl, rfl, rfl, rfl, rfl, (congrArg Value.bool (bif_f hb19 (or_f hb22 (rfl))))⟩
 ·rintro f w9 ⟨F2, hs10, le11, e12, e13, e14, e15, e16, e17, e18⟩
  refine thenQ_nrm ?_
  refine CWP.cond (t := (bif (decide ((x0.length : Int) > 50)) then ((decide ((x0.length : Int) ≤ 400)) || ((decide ((x0.length : Int) > 500)) || (decide ((x1.length : Int) > 1000)))) else ((decide ((x0.length : Int) > 500)) || (decide ((x1.length : Int) > 1000))))) (by kernel_rfl) e18 (fun hb23 => ?_) (fun hb23 => ?_)
  ·have h24 := cond_t h3 hb23
   refine Sq (Rg [0, 1] ?_)
   refine V 37 4 (mv 9 (.bool r1) e17) ?_
   refine V 8 4 (ma 37 (.bool r1)) ?_
   refine Nt ?_
   refine CWP.ret (by kernel_rfl) ?_
   refine thenQ_ret ?_
   have hfin := some_inj h24
   subst hfin
   exact ⟨e12, (.bool r1), res_of (l := [.tmp 8]) (by kernel_rfl) (vs := [(.bool r1)]) ⟨rfl, trivial⟩, (.bool r1), F2, rfl, hs10.clear, rfl⟩
  ·have h25 := cond_f h3 hb23
   refine Sc ?_
   refine thenQ_nrm ?_
   refine Sq (Rg [0, 1, 2, 3, 4, 5, 6, 7, 8, 9] ?_)
   refine V 39 61 (mv 0 (.slice a0_0 x0.length n0_0) e13) ?_
   refine V 40 9 (mv 1 (.string ⟨(x1).toArray⟩) e14) ?_
   refine V 41 3 (mv 3 (vi x3) e16) ?_
   obtain ⟨r26, hr27, h28⟩ := bind_some h25
   refine Cl 42 75 59 #[(.tmp 39), (.tmp 40), (.tmp 41)] #[61, 9, 3] co_air_Since hs10 (c_air_Since N w9 F2 hs10.pers (hG.mono (le7.trans le11)) (x0) a0_0 n0_0 hb0_0 (SlA.mono hs0_0 (le7.trans le11)) (x1) (x3) _ hr27) ?_
   intro v29 F3 w30 hs31 le32 hp33
   obtain rfl := hp33
   refine V 38 75 (mv 42 (.tuple #[(.agg #[(vi r26.1.Lo), (vi r26.1.Hi)]), (vi r26.2)])) ?_
   refine V 43 74 (ex 38 0 (.agg #[(vi r26.1.Lo), (vi r26.1.Hi)]) (vs := #[(.agg #[(vi r26.1.Lo), (vi r26.1.Hi)]), (vi r26.2)])) ?_
   refine V 44 23 (ex 38 1 (vi r26.2) (vs := #[(.agg #[(vi r26.1.Lo), (vi r26.1.Hi)]), (vi r26.2)])) ?_
   refine Al 10 0 74 #[(vi 0), (vi 0)] hs31 (fun b34 w35 (hs36 : HS w0 F0 w35 F3 [(sb b34 #[(vi 0), (vi 0)] 74)]) => ?_)
   refine RWP.store (ty := 0) (g := none) (by kernel_rfl) rfl (x := (.tmp 10)) (y := (.tmp 43)) (t := 74) (gg := true) (s := 2) (v := (.agg #[(vi r26.1.Lo), (vi r26.1.Hi)])) (b := b34) (o := 0) (C := #[(vi 0), (vi 0)]) rfl rfl (by kernel_rfl) hs36 (k := 0) rfl rfl rfl rfl (C' := #[(vi r26.1.Lo), (vi r26.1.Hi)]) rfl (fun w37 (hs38 : HS w0 F0 w37 F3 [(sb b34 #[(vi r26.1.Lo), (vi r26.1.Hi)] 74)]) => ?_)
   refine V 11 23 (ma 44 (vi r26.2)) ?_
   refine Nss (Rg [0, 1, 2, 3, 4, 5, 6, 7, 8, 9] ?_)
   refine V 46 61 (mv 0 (.slice a0_0 x0.length n0_0) e13) ?_
   refine V 47 9 (mv 1 (.string ⟨(x1).toArray⟩) e14) ?_
   refine V 48 3 (mv 3 (vi x3) e16) ?_
   obtain ⟨r39, hr40, h41⟩ := bind_some h28
   refine Cl 49 75 60 #[(.tmp 46), (.tmp 47), (.tmp 48)] #[61, 9, 3] co_ref01_Since hs38 (c_ref01_Since N w37 F3 hs38.pers (x0) a0_0 n0_0 hb0_0 (SlA.mono hs0_0 ((le7.trans le11).trans le32)) (x1) (x3) _ hr40) ?_
   intro v42 F4 w43 hs44 le45 hp46
   obtain rfl := hp46
   refine V 45 75 (mv 49 (.tuple #[(.agg #[(vi r39.1.Lo), (vi r39.1.Hi)]), (vi r39.2)])) ?_
   refine V 50 74 (ex 45 0 (.agg #[(vi r39.1.Lo), (vi r39.1.Hi)]) (vs := #[(.agg #[(vi r39.1.Lo), (vi r39.1.Hi)]), (vi r39.2)])) ?_
   refine V 51 23 (ex 45 1 (vi r39.2) (vs := #[(.agg #[(vi r39.1.Lo), (vi r39.1.Hi)]), (vi r39.2)])) ?_
   refine Al 12 0 74 #[(vi 0), (vi 0)] hs44 (fun b47 w48 (hs49 : HS w0 F0 w48 F4 [(sb b47 #[(vi 0), (vi 0)] 74), (sb b34 #[(vi r26.1.Lo), (vi r26.1.Hi)] 74)]) => ?_)
   refine RWP.store (ty := 0) (g := none) (by kernel_rfl) rfl (x := (.tmp 12)) (y := (.tmp 50)) (t := 74) (gg := true) (s := 2) (v := (.agg #[(vi r39.1.Lo), (vi r39.1.Hi)])) (b := b47) (o := 0) (C := #[(vi 0), (vi 0)]) rfl rfl (by kernel_rfl) hs49 (k := 0) rfl rfl rfl rfl (C' := #[(vi r39.1.Lo), (vi r39.1.Hi)]) rfl (fun w50 (hs51 : HS w0 F0 w50 F4 [(sb b47 #[(vi r39.1.Lo), (vi r39.1.Hi)] 74), (sb b34 #[(vi r26.1.Lo), (vi r26.1.Hi)] 74)]) => ?_)
   refine V 13 23 (ma 51 (vi r39.2)) ?_
   refine Nss (Rg [0, 1, 2, 3, 4, 5, 6, 7, 8] ?_)
   refine V 53 61 (mv 0 (.slice a0_0 x0.length n0_0) e13) ?_
   refine V 54 3 (mv 2 (vi x2) e15) ?_
   refine V 55 3 (mv 3 (vi x3) e16) ?_
   obtain ⟨r52, hr53, h54⟩ := bind_some h41
   refine Cl 56 81 61 #[(.tmp 53), (.tmp 54), (.tmp 55)] #[61, 3, 3] co_air_Texts hs51 (c_air_Texts N w50 F4 hs51.pers (x0) a0_0 n0_0 hb0_0 (SlA.mono hs0_0 (((le7.trans le11).trans le32).trans le45)) (x2) (x3) _ hr53) ?_
   intro v55 F5 w56 hs57 le58 hp59
   obtain ⟨ar52_0_0, nr52_0_0, rfl, hbr52_0_0, hsr52_0_0⟩ := hp59
   refine V 52 81 (mv 56 (.tuple #[(.slice ar52_0_0 r52.1.length nr52_0_0), (vi r52.2)])) ?_
   refine V 57 80 (ex 52 0 (.slice ar52_0_0 r52.1.length nr52_0_0) (vs := #[(.slice ar52_0_0 r52.1.length nr52_0_0), (vi r52.2)])) ?_
   refine V 58 23 (ex 52 1 (vi r52.2) (vs := #[(.slice ar52_0_0 r52.1.length nr52_0_0), (vi r52.2)])) ?_
   refine V 14 80 (ma 57 (.slice ar52_0_0 r52.1.length nr52_0_0)) ?_
   refine V 15 23 (ma 58 (vi r52.2)) ?_
   refine Nss (Rg [0, 1, 2, 3, 4, 5, 6, 7, 8] ?_)
   refine V 60 61 (mv 0 (.slice a0_0 x0.length n0_0) e13) ?_
   refine V 61 3 (mv 2 (vi x2) e15) ?_
   refine V 62 3 (mv 3 (vi x3) e16) ?_
   obtain ⟨r60, hr61, h62⟩ := bind_some h54
   refine Cl 63 81 62 #[(.tmp 60), (.tmp 61), (.tmp 62)] #[61, 3, 3] co_ref01_Texts hs57 (c_ref01_Texts N w56 F5 hs57.pers (x0) a0_0 n0_0 hb0_0 (SlA.mono hs0_0 ((((le7.trans le11).trans le32).trans le45).trans le58)) (x2) (x3) _ hr61) ?_
   intro v63 F6 w64 hs65 le66 hp67
   obtain ⟨ar60_0_0, nr60_0_0, rfl, hbr60_0_0, hsr60_0_0⟩ := hp67
   refine V 59 81 (mv 63 (.tuple #[(.slice ar60_0_0 r60.1.length nr60_0_0), (vi r60.2)])) ?_
   refine V 64 80 (ex 59 0 (.slice ar60_0_0 r60.1.length nr60_0_0) (vs := #[(.slice ar60_0_0 r60.1.length nr60_0_0), (vi r60.2)])) ?_
   refine V 65 23 (ex 59 1 (vi r60.2) (vs := #[(.slice ar60_0_0 r60.1.length nr60_0_0), (vi r60.2)])) ?_
   refine V 16 80 (ma 64 (.slice ar60_0_0 r60.1.length nr60_0_0)) ?_
   refine V 17 23 (ma 65 (vi r60.2)) ?_
   refine Nss (Rg [0, 1, 2, 3, 4, 5, 6, 7, 8, 9, 10, 11, 12, 13, 14, 15, 16, 17, 18, 19, 20, 21] ?_)
   obtain ⟨j71, hj74, h75⟩ := bind_some h62
   refine RWP.cut (fun f w => ∃ (F7 : Mem), HS w0 F0 w F7 [] ∧ Mem.le F6 F7 ∧ f.d = [] ∧ f 8 = (.bool j71)) ?_ ?_
   ·refine V 66 4 (mv 9 (.bool r1) e17) ?_
    refine V 67 4 (mv 66 (.bool r1)) ?_
    refine RWP.split r1 (fun hb76 => ?_) (fun hb76 => ?_)
    ·have h77 := cond_t hj74 hb76
     refine Vg 68 74 1 true 67 hb76 (ld 74 10 b34 0 true 2 (.agg #[(vi r26.1.Lo), (vi r26.1.Hi)]) (hs65.ownAt (k := 1) rfl)) ?_
     refine Vg 69 74 1 true 67 hb76 (ld 74 12 b47 0 true 2 (.agg #[(vi r39.1.Lo), (vi r39.1.Hi)]) (hs65.ownAt (k := 0) rfl)) ?_
     refine Vg 70 4 1 true 67 hb76 (run_eqs (t := 74) (t' := 74) (x := (.tmp 68)) (y := (.tmp 69)) (xs := #[(vi r26.1.Lo), (vi r26.1.Hi)]) (ys := #[(vi r39.1.Lo), (vi r39.1.Hi)]) (b := ((r26.1.Lo == r39.1.Lo) && ((r26.1.Hi == r39.1.Hi) && true))) rfl rfl (by kernel_rfl) (by kernel_rfl)) ?_
     refine V 71 4 (p1 67 (.tmp 70) (.const (.bool false)) (.bool ((r26.1.Lo == r39.1.Lo) && ((r26.1.Hi == r39.1.Hi) && true))) hb76) ?_
     refine V 72 4 (mv 71 (.bool ((r26.1.Lo == r39.1.Lo) && ((r26.1.Hi == r39.1.Hi) && true)))) ?_
     refine RWP.split ((r26.1.Lo == r39.1.Lo) && ((r26.1.Hi == r39.1.Hi) && true)) (fun hb78 => ?_) (fun hb78 => ?_)
     ·have h79 := cond_t h77 hb78
      refine Vg 73 23 6 true 72 hb78 (mv 11 (vi r26.2)) ?_
      refine Vg 74 23 6 true 72 hb78 (mv 13 (vi r39.2)) ?_
      refine Vg 75 4 6 true 72 hb78 (run_eql (t := 23) (t' := 23) (x := (.tmp 73)) (y := (.tmp 74)) (k := .i64) (a := r26.2) (b := r39.2) rfl rfl) ?_
      refine V 76 4 (p1 72 (.tmp 75) (.const (.bool false)) (.bool (r26.2 == r39.2)) hb78) ?_
      refine V 77 4 (mv 76 (.bool (r26.2 == r39.2))) ?_
      refine RWP.split (r26.2 == r39.2) (fun hb80 => ?_) (fun hb80 => ?_)
      ·have h81 := cond_t h79 hb80
       refine Vg 78 23 11 true 77 hb80 (mv 15 (vi r52.2)) ?_
       refine Vg 79 23 11 true 77 hb80 (mv 17 (vi r60.2)) ?_
       refine Vg 80 4 11 true 77 hb80 (run_eql (t := 23) (t' := 23) (x := (.tmp 78)) (y := (.tmp 79)) (k := .i64) (a := r52.2) (b := r60.2) rfl rfl) ?_
       refine V 81 4 (p1 77 (.tmp 80) (.const (.bool false)) (.bool (r52.2 == r60.2)) hb80) ?_
       refine V 82 4 (mv 81 (.bool (r52.2 == r60.2))) ?_
       refine RWP.split (r52.2 == r60.2) (fun hb82 => ?_) (fun hb82 => ?_)
       ·have h83 := cond_t h81 hb82
        refine Vg 83 80 16 true 82 hb82 (mv 14 (.slice ar52_0_0 r52.1.length nr52_0_0)) ?_
        refine Vg 84 80 16 true 82 hb82 (mv 16 (.slice ar60_0_0 r60.1.length nr60_0_0)) ?_
        obtain ⟨r84, hr85, h86⟩ := bind_some h83
        refine RWP.call (dst := (some 85)) (ty := 4) (g := (some (16, true))) (by kernel_rfl) (gd_y (d := 82) (by kernel_rfl) rfl hb82) (f0 := (.func 63)) (aos := #[(.tmp 83), (.tmp 84)]) (ats := #[80, 80]) (fid := 63) (first := #[]) (cap := #[]) (args := [(.slice ar52_0_0 r52.1.length nr52_0_0), (.slice ar60_0_0 r60.1.length nr60_0_0)]) rfl co_ref01_SameTexts (rfl) hs65 (c_ref01_SameTexts N w64 F6 hs65.pers (r52.1) ar52_0_0 nr52_0_0 hbr52_0_0 (SlA.mono hsr52_0_0 le66) (r60.1) ar60_0_0 nr60_0_0 hbr60_0_0 hsr60_0_0 _ hr85) ?_
        intro v87 F8 w88 hs89 le90 hp91
        obtain rfl := hp91
        refine V 86 4 (p1 82 (.tmp 85) (.const (.bool false)) (.bool r84) hb82) ?_
        refine V 8 4 (ma 86 (.bool r84)) ?_
        obtain rfl := some_inj h86
        have hs92 : HS w0 F0 w88 F8 [(sb b34 #[(vi r26.1.Lo), (vi r26.1.Hi)] 74)] := hs89.drop 0
        have hs93 : HS w0 F0 w88 F8 [] := hs92.drop 0
        exact RWP.nil ⟨rfl, F8, hs93, le90, e12, rfl⟩
       ·have h94 := cond_f h81 hb82
        refine Sk [83, 84, 85] 16 true 82 hb82 ?_
        refine V 86 4 (p0 82 (.tmp 85) (.const (.bool false)) (.bool false) hb82) ?_
        refine V 8 4 (ma 86 (.bool false)) ?_
        obtain rfl := some_inj h94
        have hs95 : HS w0 F0 w64 F6 [(sb b34 #[(vi r26.1.Lo), (vi r26.1.Hi)] 74)] := hs65.drop 0
        have hs96 : HS w0 F0 w64 F6 [] := hs95.drop 0
        exact RWP.nil ⟨rfl, F6, hs96, (Mem.le.refl _), e12, rfl⟩
      ·have h97 := cond_f h79 hb80
       refine Sk [78, 79, 80] 11 true 77 hb80 ?_
       refine V 81 4 (p0 77 (.tmp 80) (.const (.bool false)) (.bool false) hb80) ?_
       refine V 82 4 (mv 81 (.bool false)) ?_
       refine Sk [83, 84, 85] 16 true 82 rfl ?_
       refine V 86 4 (p0 82 (.tmp 85) (.const (.bool false)) (.bool false) rfl) ?_
       refine V 8 4 (ma 86 (.bool false)) ?_
       obtain rfl := some_inj h97
       have hs98 : HS w0 F0 w64 F6 [(sb b34 #[(vi r26.1.Lo), (vi r26.1.Hi)] 74)] := hs65.drop 0
       have hs99 : HS w0 F0 w64 F6 [] := hs98.drop 0
       exact RWP.nil ⟨rfl, F6, hs99, (Mem.le.refl _), e12, rfl⟩
     ·have h100 := cond_f h77 hb78
      refine Sk [73, 74, 75] 6 true 72 hb78 ?_
      refine V 76 4 (p0 72 (.tmp 75) (.const (.bool false)) (.bool false) hb78) ?_
      refine V 77 4 (mv 76 (.bool false)) ?_
      refine Sk [78, 79, 80] 11 true 77 rfl ?_
      refine V 81 4 (p0 77 (.tmp 80) (.const (.bool false)) (.bool false) rfl) ?_
      refine V 82 4 (mv 81 (.bool false)) ?_
      refine Sk [83, 84, 85] 16 true 82 rfl ?_
      refine V 86 4 (p0 82 (.tmp 85) (.const (.bool false)) (.bool false) rfl) ?_
      refine V 8 4 (ma 86 (.bool false)) ?_
      obtain rfl := some_inj h100
      have hs101 : HS w0 F0 w64 F6 [(sb b34 #[(vi r26.1.Lo), (vi r26.1.Hi)] 74)] := hs65.drop 0
      have hs102 : HS w0 F0 w64 F6 [] := hs101.drop 0
      exact RWP.nil ⟨rfl, F6, hs102, (Mem.le.refl _), e12, rfl⟩
    ·have h103 := cond_f hj74 hb76
     refine Sk [68, 69, 70] 1 true 67 hb76 ?_
     refine V 71 4 (p0 67 (.tmp 70) (.const (.bool false)) (.bool false) hb76) ?_
     refine V 72 4 (mv 71 (.bool false)) ?_
     refine Sk [73, 74, 75] 6 true 72 rfl ?_
     refine V 76 4 (p0 72 (.tmp 75) (.const (.bool false)) (.bool false) rfl) ?_
     refine V 77 4 (mv 76 (.bool false)) ?_
     refine Sk [78, 79, 80] 11 true 77 rfl ?_
     refine V 81 4 (p0 77 (.tmp 80) (.const (.bool false)) (.bool false) rfl) ?_
     refine V 82 4 (mv 81 (.bool false)) ?_
     refine Sk [83, 84, 85] 16 true 82 rfl ?_
     refine V 86 4 (p0 82 (.tmp 85) (.const (.bool false)) (.bool false) rfl) ?_
     refine V 8 4 (ma 86 (.bool false)) ?_
     obtain rfl := some_inj h103
     have hs104 : HS w0 F0 w64 F6 [(sb b34 #[(vi r26.1.Lo), (vi r26.1.Hi)] 74)] := hs65.drop 0
     have hs105 : HS w0 F0 w64 F6 [] := hs104.drop 0
     exact RWP.nil ⟨rfl, F6, hs105, (Mem.le.refl _), e12, rfl⟩
   ·rintro f w68 ⟨F7, hs69, le70, e72, e73⟩
    refine thenQ_nrm ?_
    refine CWP.ret (by kernel_rfl) ?_
    have hfin := some_inj h75
    subst hfin
    exact ⟨e72, (.bool j71), res_of (l := [.tmp 8]) (by kernel_rfl) (vs := [(.bool j71)]) ⟨e73, trivial⟩, (.bool j71), F7, rfl, hs69.clear, rfl⟩
end Go.Proofs.YtlddakefmfcblaaGreatDoor
