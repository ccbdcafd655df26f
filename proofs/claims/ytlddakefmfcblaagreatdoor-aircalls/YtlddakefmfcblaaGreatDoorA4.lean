/- AirCalls: for every input the law returns true, and each argument reads afterwards as it read before. No condition. -/
import Derived.Test.YtlddakefmfcblaaGreatDoorA3
set_option linter.unusedVariables false
set_option linter.unusedSimpArgs false
set_option linter.unusedSectionVars false
namespace Go.Proofs.YtlddakefmfcblaaGreatDoor
open Go.Proofs
def law01_awake (N : Nat)  : Option Bool :=
 ((air_Split N ([71, 51, 47, 77, 48, 65, 66, 47, 80] : List UInt8)).bind fun r1 => ((air_PrefixOf N ([87, 49, 65, 87, 47, 52] : List UInt8)).bind fun r14 => ((air_PrintTime N 1505).bind fun r22 => ((air_ParseTime N ([50, 32, 48, 49, 48, 53] : List UInt8)).bind fun r30 => ((air_Nearest N ([({ ID := 1, Lo := 1800, Hi := 2000 } : Band), ({ ID := 2, Lo := 3500, Hi := 3800 } : Band)]) 2750).bind fun r47 => ((bif (r1.2 == 0) then (bif ((r1.1.Area == ([71, 51] : List UInt8)) && ((r1.1.Prefix == ([77, 48] : List UInt8)) && ((r1.1.Suffix == ([65, 66] : List UInt8)) && ((r1.1.Stroke == ([80] : List UInt8)) && true)))) then (bif (r14.2 == 0) then (bif (r14.1 == ([87, 52] : List UInt8)) then (bif (r22.2 == 0) then (bif (r22.1 == ([50, 32, 48, 49, 48, 53] : List UInt8)) then (bif (r30.2 == 0) then (bif (r30.1 == 1505) then (bif (r47.2.2 == 0) then (bif (r47.1 == 1) then (bif (r47.2.1 == 750) then ((air_ValidCall N ([68, 76, 49, 65, 47, 87, 49, 65] : List UInt8)).bind fun r85 => some (!r85)) else some false) else some false) else some false) else some false) else some false) else some false) else some false) else some false) else some false) else some false) else some false).bind fun j58 => some j58))))))
theorem co_law01_awake : CallOk Tryz.prog 17 := fun _ _ => by kernel_rfl
set_option maxHeartbeats 4000000 in
set_option maxRecDepth 100000 in
theorem c_law01_awake (N : Nat) (w0 : World) (F0 : Mem) (hF : ∀ b o, F0 b = some o → w0.heap[b]? = some o) (hG : Glob F0)  (r : Bool) (h : law01_awake N  = some r) :
  Calls Tryz.prog 17 ([] : List Value).toArray w0 (FRet w0 F0 fun F' v => v = (.bool r)) := by
 have hs0 := HS.start hF
 refine calls_of (n := 85) (c := bodyOf Tryz.f17) Tryz.func17 (by kernel_rfl) (by kernel_rfl) (by kernel_rfl) ?_
 refine Sq (Rg [0] ?_)
 refine V 0 4 (mc (.bool false) (.bool false)) ?_
 refine Nss (Rg [0, 1, 2, 3, 4, 5, 6] ?_)
 obtain ⟨r1, hr2, h3⟩ := bind_some h
 refine Cl 14 28 19 #[(.const (.string ⟨([71, 51, 47, 77, 48, 65, 66, 47, 80] : List UInt8).toArray⟩))] #[9] co_air_Split hs0 (c_air_Split N w0 F0 hs0.pers hG (([71, 51, 47, 77, 48, 65, 66, 47, 80] : List UInt8)) _ hr2) ?_
 intro v4 F1 w5 hs6 le7 hp8
 obtain rfl := hp8
 refine V 13 28 (mv 14 (.tuple #[(.agg #[(.string ⟨(r1.1.Area).toArray⟩), (.string ⟨(r1.1.Prefix).toArray⟩), (.string ⟨(r1.1.Suffix).toArray⟩), (.string ⟨(r1.1.Stroke).toArray⟩)]), (vi r1.2)])) ?_
 refine V 15 27 (ex 13 0 (.agg #[(.string ⟨(r1.1.Area).toArray⟩), (.string ⟨(r1.1.Prefix).toArray⟩), (.string ⟨(r1.1.Suffix).toArray⟩), (.string ⟨(r1.1.Stroke).toArray⟩)]) (vs := #[(.agg #[(.string ⟨(r1.1.Area).toArray⟩), (.string ⟨(r1.1.Prefix).toArray⟩), (.string ⟨(r1.1.Suffix).toArray⟩), (.string ⟨(r1.1.Stroke).toArray⟩)]), (vi r1.2)])) ?_
 refine V 16 23 (ex 13 1 (vi r1.2) (vs := #[(.agg #[(.string ⟨(r1.1.Area).toArray⟩), (.string ⟨(r1.1.Prefix).toArray⟩), (.string ⟨(r1.1.Suffix).toArray⟩), (.string ⟨(r1.1.Stroke).toArray⟩)]), (vi r1.2)])) ?_
 refine Al 1 0 27 #[(.string ⟨(([] : List UInt8)).toArray⟩), (.string ⟨(([] : List UInt8)).toArray⟩), (.string ⟨(([] : List UInt8)).toArray⟩), (.string ⟨(([] : List UInt8)).toArray⟩)] hs6 (fun b9 w10 (hs11 : HS w0 F0 w10 F1 [(sb b9 #[(.string ⟨(([] : List UInt8)).toArray⟩), (.string ⟨(([] : List UInt8)).toArray⟩), (.string ⟨(([] : List UInt8)).toArray⟩), (.string ⟨(([] : List UInt8)).toArray⟩)] 27)]) => ?_)
 refine RWP.store (ty := 0) (g := none) (by kernel_rfl) rfl (x := (.tmp 1)) (y := (.tmp 15)) (t := 27) (gg := true) (s := 4) (v := (.agg #[(.string ⟨(r1.1.Area).toArray⟩), (.string ⟨(r1.1.Prefix).toArray⟩), (.string ⟨(r1.1.Suffix).toArray⟩), (.string ⟨(r1.1.Stroke).toArray⟩)])) (b := b9) (o := 0) (C := #[(.string ⟨(([] : List UInt8)).toArray⟩), (.string ⟨(([] : List UInt8)).toArray⟩), (.string ⟨(([] : List UInt8)).toArray⟩), (.string ⟨(([] : List UInt8)).toArray⟩)]) rfl rfl (by kernel_rfl) hs11 (k := 0) rfl rfl rfl rfl (C' := #[(.string ⟨(r1.1.Area).toArray⟩), (.string ⟨(r1.1.Prefix).toArray⟩), (.string ⟨(r1.1.Suffix).toArray⟩), (.string ⟨(r1.1.Stroke).toArray⟩)]) rfl (fun w12 (hs13 : HS w0 F0 w12 F1 [(sb b9 #[(.string ⟨(r1.1.Area).toArray⟩), (.string ⟨(r1.1.Prefix).toArray⟩), (.string ⟨(r1.1.Suffix).toArray⟩), (.string ⟨(r1.1.Stroke).toArray⟩)] 27)]) => ?_)
 refine V 2 23 (ma 16 (vi r1.2)) ?_
 refine Nss (Rg [0, 1, 2, 3, 4, 5] ?_)
 obtain ⟨r14, hr15, h16⟩ := bind_some h3
 refine Cl 18 24 18 #[(.const (.string ⟨([87, 49, 65, 87, 47, 52] : List UInt8).toArray⟩))] #[9] co_air_PrefixOf hs13 (c_air_PrefixOf N w12 F1 hs13.pers (hG.mono le7) (([87, 49, 65, 87, 47, 52] : List UInt8)) _ hr15) ?_
 intro v17 F2 w18 hs19 le20 hp21
 obtain rfl := hp21
 refine V 17 24 (mv 18 (.tuple #[(.string ⟨(r14.1).toArray⟩), (vi r14.2)])) ?_
 refine V 19 9 (ex 17 0 (.string ⟨(r14.1).toArray⟩) (vs := #[(.string ⟨(r14.1).toArray⟩), (vi r14.2)])) ?_
 refine V 20 23 (ex 17 1 (vi r14.2) (vs := #[(.string ⟨(r14.1).toArray⟩), (vi r14.2)])) ?_
 refine V 3 9 (ma 19 (.string ⟨(r14.1).toArray⟩)) ?_
 refine V 4 23 (ma 20 (vi r14.2)) ?_
 refine Nss (Rg [0, 1, 2, 3, 4, 5] ?_)
 obtain ⟨r22, hr23, h24⟩ := bind_some h16
 refine Cl 22 24 28 #[(.const (vi 1505))] #[3] co_air_PrintTime hs19 (c_air_PrintTime N w18 F2 hs19.pers (hG.mono (le7.trans le20)) (1505) _ hr23) ?_
 intro v25 F3 w26 hs27 le28 hp29
 obtain rfl := hp29
 refine V 21 24 (mv 22 (.tuple #[(.string ⟨(r22.1).toArray⟩), (vi r22.2)])) ?_
 refine V 23 9 (ex 21 0 (.string ⟨(r22.1).toArray⟩) (vs := #[(.string ⟨(r22.1).toArray⟩), (vi r22.2)])) ?_
 refine V 24 23 (ex 21 1 (vi r22.2) (vs := #[(.string ⟨(r22.1).toArray⟩), (vi r22.2)])) ?_
 refine V 5 9 (ma 23 (.string ⟨(r22.1).toArray⟩)) ?_
 refine V 6 23 (ma 24 (vi r22.2)) ?_
 refine Nss (Rg [0, 1, 2, 3, 4, 5] ?_)
 obtain ⟨r30, hr31, h32⟩ := bind_some h24
 refine Cl 26 33 30 #[(.const (.string ⟨([50, 32, 48, 49, 48, 53] : List UInt8).toArray⟩))] #[9] co_air_ParseTime hs27 (c_air_ParseTime N w26 F3 hs27.pers (hG.mono ((le7.trans le20).trans le28)) (([50, 32, 48, 49, 48, 53] : List UInt8)) _ hr31) ?_
 intro v33 F4 w34 hs35 le36 hp37
 obtain rfl := hp37
 refine V 25 33 (mv 26 (.tuple #[(vi r30.1), (vi r30.2)])) ?_
 refine V 27 3 (ex 25 0 (vi r30.1) (vs := #[(vi r30.1), (vi r30.2)])) ?_
 refine V 28 23 (ex 25 1 (vi r30.2) (vs := #[(vi r30.1), (vi r30.2)])) ?_
 refine V 7 3 (ma 27 (vi r30.1)) ?_
 refine V 8 23 (ma 28 (vi r30.2)) ?_
 refine Nss (Rg [0, 1, 2, 3] ?_)
 refine V 29 40 (run_build2 (t := 40) (parts := #[(0, (.const (vi 1))), (1, (.const (vi 1800))), (2, (.const (vi 2000)))]) (vs := [(0, (vi 1)), (1, (vi 1800)), (2, (vi 2000))]) (rfl) (cs := [(vi 1), (vi 1800), (vi 2000)]) (by kernel_rfl)) ?_
 refine V 30 40 (run_build2 (t := 40) (parts := #[(0, (.const (vi 2))), (1, (.const (vi 3500))), (2, (.const (vi 3800)))]) (vs := [(0, (vi 2)), (1, (vi 3500)), (2, (vi 3800))]) (rfl) (cs := [(vi 2), (vi 3500), (vi 3800)]) (by kernel_rfl)) ?_
 refine RWP.buildSlice (dst := (some 31)) (ty := 32) (g := none) (by kernel_rfl) rfl (t := 32) (len := 2) (parts := #[(0, (.tmp 29)), (1, (.tmp 30))]) (vs := [(0, (.agg #[(vi 1), (vi 1800), (vi 2000)])), (1, (.agg #[(vi 2), (vi 3500), (vi 3800)]))]) (rfl) (E := 40) (cs := [(vi 1), (vi 1800), (vi 2000), (vi 2), (vi 3500), (vi 3800)]) (by kernel_rfl) hs35 (fun b38 w39 (hs40 : HS w0 F0 w39 F4 [(some b38, .cells ([(vi 1), (vi 1800), (vi 2000), (vi 2), (vi 3500), (vi 3800)] : List Value).toArray 40 (0, 0)), (sb b9 #[(.string ⟨(r1.1.Area).toArray⟩), (.string ⟨(r1.1.Prefix).toArray⟩), (.string ⟨(r1.1.Suffix).toArray⟩), (.string ⟨(r1.1.Stroke).toArray⟩)] 27)]) => ?_)
 have hr42 : RowR tBand 40 F4 (some ⟨b38, 0, none⟩) 2 [({ ID := 1, Lo := 1800, Hi := 2000 } : Band), ({ ID := 2, Lo := 3500, Hi := 3800 } : Band)] (some b38, .cells ([(vi 1), (vi 1800), (vi 2000), (vi 2), (vi 3500), (vi 3800)] : List Value).toArray 40 (0, 0)) := RowR.lit ⟨rfl, ⟨rfl, rfl⟩⟩ (by simp)
 refine V 9 32 (ma 31 (.slice (some ⟨b38, 0, none⟩) [({ ID := 1, Lo := 1800, Hi := 2000 } : Band), ({ ID := 2, Lo := 3500, Hi := 3800 } : Band)].length 2)) ?_
 refine Nss (Rg [0, 1, 2, 3, 4, 5, 6, 7, 8] ?_)
 refine V 33 32 (mv 9 (.slice (some ⟨b38, 0, none⟩) [({ ID := 1, Lo := 1800, Hi := 2000 } : Band), ({ ID := 2, Lo := 3500, Hi := 3800 } : Band)].length 2)) ?_
 have hb46 := RowR.bound hr42
 obtain ⟨F5, hs43, le44, hs45⟩ : ∃ Fq, HS w0 F0 w39 Fq [(sb b9 #[(.string ⟨(r1.1.Area).toArray⟩), (.string ⟨(r1.1.Prefix).toArray⟩), (.string ⟨(r1.1.Suffix).toArray⟩), (.string ⟨(r1.1.Stroke).toArray⟩)] 27)] ∧ Mem.le F4 Fq ∧ SlA tBand Fq (some ⟨b38, 0, none⟩) [({ ID := 1, Lo := 1800, Hi := 2000 } : Band), ({ ID := 2, Lo := 3500, Hi := 3800 } : Band)] := HS.freezeRow hs40 (k := 0) rfl hr42
 obtain ⟨r47, hr48, h49⟩ := bind_some h32
 refine Cl 34 35 24 #[(.tmp 33), (.const (vi 2750))] #[32, 3] co_air_Nearest hs43 (c_air_Nearest N w39 F5 hs43.pers ([({ ID := 1, Lo := 1800, Hi := 2000 } : Band), ({ ID := 2, Lo := 3500, Hi := 3800 } : Band)]) (some ⟨b38, 0, none⟩) 2 hb46 hs45 (2750) _ hr48) ?_
 intro v50 F6 w51 hs52 le53 hp54
 obtain rfl := hp54
 refine V 32 35 (mv 34 (.tuple #[(vi r47.1), (vi r47.2.1), (vi r47.2.2)])) ?_
 refine V 35 3 (ex 32 0 (vi r47.1) (vs := #[(vi r47.1), (vi r47.2.1), (vi r47.2.2)])) ?_
 refine V 36 3 (ex 32 1 (vi r47.2.1) (vs := #[(vi r47.1), (vi r47.2.1), (vi r47.2.2)])) ?_
 refine V 37 23 (ex 32 2 (vi r47.2.2) (vs := #[(vi r47.1), (vi r47.2.1), (vi r47.2.2)])) ?_
 refine V 10 3 (ma 35 (vi r47.1)) ?_
 refine V 11 3 (ma 36 (vi r47.2.1)) ?_
 refine V 12 23 (ma 37 (vi r47.2.2)) ?_
 refine Nss (Rg [0, 1, 2, 3, 4, 5, 6, 7, 8, 9, 10, 11, 12, 13, 14, 15, 16, 17, 18, 19, 20, 21, 22, 23, 24, 25, 26, 27, 28, 29, 30, 31, 32, 33, 34, 35, 36, 37, 38, 39, 40, 41, 42, 43, 44, 45, 46, 47] ?_)
 obtain ⟨j58, hj61, h62⟩ := bind_some h49
 refine RWP.cut (fun f w => ∃ (F7 : Mem), HS w0 F0 w F7 [] ∧ Mem.le F6 F7 ∧ f.d = [] ∧ f 0 = (.bool j58)) ?_ ?_
 ·refine V 38 23 (mv 2 (vi r1.2)) ?_
  refine V 39 4 (run_eql (t := 23) (t' := 23) (x := (.tmp 38)) (y := (.const (vi 0))) (k := .i64) (a := r1.2) (b := 0) rfl rfl) ?_
  refine V 40 4 (mv 39 (.bool (r1.2 == 0))) ?_
  refine RWP.split (r1.2 == 0) (fun hb63 => ?_) (fun hb63 => ?_)
  ·have h64 := cond_t hj61 hb63
   refine Vg 41 27 2 true 40 hb63 (ld 27 1 b9 0 true 4 (.agg #[(.string ⟨(r1.1.Area).toArray⟩), (.string ⟨(r1.1.Prefix).toArray⟩), (.string ⟨(r1.1.Suffix).toArray⟩), (.string ⟨(r1.1.Stroke).toArray⟩)]) (hs52.ownAt (k := 0) rfl)) ?_
   refine Vg 42 27 2 true 40 hb63 (run_build2 (t := 27) (parts := #[(0, (.const (.string ⟨([71, 51] : List UInt8).toArray⟩))), (1, (.const (.string ⟨([77, 48] : List UInt8).toArray⟩))), (2, (.const (.string ⟨([65, 66] : List UInt8).toArray⟩))), (3, (.const (.string ⟨([80] : List UInt8).toArray⟩)))]) (vs := [(0, (.string ⟨(([71, 51] : List UInt8)).toArray⟩)), (1, (.string ⟨(([77, 48] : List UInt8)).toArray⟩)), (2, (.string ⟨(([65, 66] : List UInt8)).toArray⟩)), (3, (.string ⟨(([80] : List UInt8)).toArray⟩))]) (rfl) (cs := [(.string ⟨(([71, 51] : List UInt8)).toArray⟩), (.string ⟨(([77, 48] : List UInt8)).toArray⟩), (.string ⟨(([65, 66] : List UInt8)).toArray⟩), (.string ⟨(([80] : List UInt8)).toArray⟩)]) (by kernel_rfl)) ?_
   refine Vg 43 4 2 true 40 hb63 (run_eqs (t := 27) (t' := 27) (x := (.tmp 41)) (y := (.tmp 42)) (xs := #[(.string ⟨(r1.1.Area).toArray⟩), (.string ⟨(r1.1.Prefix).toArray⟩), (.string ⟨(r1.1.Suffix).toArray⟩), (.string ⟨(r1.1.Stroke).toArray⟩)]) (ys := #[(.string ⟨(([71, 51] : List UInt8)).toArray⟩), (.string ⟨(([77, 48] : List UInt8)).toArray⟩), (.string ⟨(([65, 66] : List UInt8)).toArray⟩), (.string ⟨(([80] : List UInt8)).toArray⟩)]) (b := ((r1.1.Area == ([71, 51] : List UInt8)) && ((r1.1.Prefix == ([77, 48] : List UInt8)) && ((r1.1.Suffix == ([65, 66] : List UInt8)) && ((r1.1.Stroke == ([80] : List UInt8)) && true))))) rfl rfl (by kernel_rfl) (by kernel_rfl)) ?_
   refine V 44 4 (p1 40 (.tmp 43) (.const (.bool false)) (.bool ((r1.1.Area == ([71, 51] : List UInt8)) && ((r1.1.Prefix == ([77, 48] : List UInt8)) && ((r1.1.Suffix == ([65, 66] : List UInt8)) && ((r1.1.Stroke == ([80] : List UInt8)) && true))))) hb63) ?_
   refine V 45 4 (mv 44 (.bool ((r1.1.Area == ([71, 51] : List UInt8)) && ((r1.1.Prefix == ([77, 48] : List UInt8)) && ((r1.1.Suffix == ([65, 66] : List UInt8)) && ((r1.1.Stroke == ([80] : List UInt8)) && true)))))) ?_
   refine RWP.split ((r1.1.Area == ([71, 51] : List UInt8)) && ((r1.1.Prefix == ([77, 48] : List UInt8)) && ((r1.1.Suffix == ([65, 66] : List UInt8)) && ((r1.1.Stroke == ([80] : List UInt8)) && true)))) (fun hb65 => ?_) (fun hb65 => ?_)
   ·have h66 := cond_t h64 hb65
    refine Vg 46 23 7 true 45 hb65 (mv 4 (vi r14.2)) ?_
    refine Vg 47 4 7 true 45 hb65 (run_eql (t := 23) (t' := 23) (x := (.tmp 46)) (y := (.const (vi 0))) (k := .i64) (a := r14.2) (b := 0) rfl rfl) ?_
    refine V 48 4 (p1 45 (.tmp 47) (.const (.bool false)) (.bool (r14.2 == 0)) hb65) ?_
    refine V 49 4 (mv 48 (.bool (r14.2 == 0))) ?_
    refine RWP.split (r14.2 == 0) (fun hb67 => ?_) (fun hb67 => ?_)
    ·have h68 := cond_t h66 hb67
     refine Vg 50 9 11 true 49 hb67 (mv 3 (.string ⟨(r14.1).toArray⟩)) ?_
     refine Vg 51 4 11 true 49 hb67 (run_scmp (t := 9) (t' := 9) (x := (.tmp 50)) (y := (.const (.string ⟨([87, 52] : List UInt8).toArray⟩))) (op := .eql) (a := r14.1) (b := ([87, 52] : List UInt8)) (v := (r14.1 == ([87, 52] : List UInt8))) rfl rfl rfl) ?_
     refine V 52 4 (p1 49 (.tmp 51) (.const (.bool false)) (.bool (r14.1 == ([87, 52] : List UInt8))) hb67) ?_
     refine V 53 4 (mv 52 (.bool (r14.1 == ([87, 52] : List UInt8)))) ?_
     refine RWP.split (r14.1 == ([87, 52] : List UInt8)) (fun hb69 => ?_) (fun hb69 => ?_)
     ·have h70 := cond_t h68 hb69
      refine Vg 54 23 15 true 53 hb69 (mv 6 (vi r22.2)) ?_
      refine Vg 55 4 15 true 53 hb69 (run_eql (t := 23) (t' := 23) (x := (.tmp 54)) (y := (.const (vi 0))) (k := .i64) (a := r22.2) (b := 0) rfl rfl) ?_
      refine V 56 4 (p1 53 (.tmp 55) (.const (.bool false)) (.bool (r22.2 == 0)) hb69) ?_
      refine V 57 4 (mv 56 (.bool (r22.2 == 0))) ?_
      refine RWP.split (r22.2 == 0) (fun hb71 => ?_) (fun hb71 => ?_)
      ·have h72 := cond_t h70 hb71
       refine Vg 58 9 19 true 57 hb71 (mv 5 (.string ⟨(r22.1).toArray⟩)) ?_
       refine Vg 59 4 19 true 57 hb71 (run_scmp (t := 9) (t' := 9) (x := (.tmp 58)) (y := (.const (.string ⟨([50, 32, 48, 49, 48, 53] : List UInt8).toArray⟩))) (op := .eql) (a := r22.1) (b := ([50, 32, 48, 49, 48, 53] : List UInt8)) (v := (r22.1 == ([50, 32, 48, 49, 48, 53] : List UInt8))) rfl rfl rfl) ?_
       refine V 60 4 (p1 57 (.tmp 59) (.const (.bool false)) (.bool (r22.1 == ([50, 32, 48, 49, 48, 53] : List UInt8))) hb71) ?_
       refine V 61 4 (mv 60 (.bool (r22.1 == ([50, 32, 48, 49, 48, 53] : List UInt8)))) ?_
       refine RWP.split (r22.1 == ([50, 32, 48, 49, 48, 53] : List UInt8)) (fun hb73 => ?_) (fun hb73 => ?_)
       ·have h74 := cond_t h72 hb73
        refine Vg 62 23 23 true 61 hb73 (mv 8 (vi r30.2)) ?_
        refine Vg 63 4 23 true 61 hb73 (run_eql (t := 23) (t' := 23) (x := (.tmp 62)) (y := (.const (vi 0))) (k := .i64) (a := r30.2) (b := 0) rfl rfl) ?_
        refine V 64 4 (p1 61 (.tmp 63) (.const (.bool false)) (.bool (r30.2 == 0)) hb73) ?_
        refine V 65 4 (mv 64 (.bool (r30.2 == 0))) ?_
        refine RWP.split (r30.2 == 0) (fun hb75 => ?_) (fun hb75 => ?_)
        ·have h76 := cond_t h74 hb75
         refine Vg 66 3 27 true 65 hb75 (mv 7 (vi r30.1)) ?_
         refine Vg 67 4 27 true 65 hb75 (run_eql (t := 3) (t' := 3) (x := (.tmp 66)) (y := (.const (vi 1505))) (k := .i64) (a := r30.1) (b := 1505) rfl rfl) ?_
         refine V 68 4 (p1 65 (.tmp 67) (.const (.bool false)) (.bool (r30.1 == 1505)) hb75) ?_
         refine V 69 4 (mv 68 (.bool (r30.1 == 1505))) ?_
         refine RWP.split (r30.1 == 1505) (fun hb77 => ?_) (fun hb77 => ?_)
         ·have h78 := cond_t h76 hb77
          refine Vg 70 23 31 true 69 hb77 (mv 12 (vi r47.2.2)) ?_
          refine Vg 71 4 31 true 69 hb77 (run_eql (t := 23) (t' := 23) (x := (.tmp 70)) (y := (.const (vi 0))) (k := .i64) (a := r47.2.2) (b := 0) rfl rfl) ?_
          refine V 72 4 (p1 69 (.tmp 71) (.const (.bool false)) (.bool (r47.2.2 == 0)) hb77) ?_
          refine V 73 4 (mv 72 (.bool (r47.2.2 == 0))) ?_
          refine RWP.split (r47.2.2 == 0) (fun hb79 => ?_) (fun hb79 => ?_)
          ·have h80 := cond_t h78 hb79
           refine Vg 74 3 35 true 73 hb79 (mv 10 (vi r47.1)) ?_
           refine Vg 75 4 35 true 73 hb79 (run_eql (t := 3) (t' := 3) (x := (.tmp 74)) (y := (.const (vi 1))) (k := .i64) (a := r47.1) (b := 1) rfl rfl) ?_
           refine V 76 4 (p1 73 (.tmp 75) (.const (.bool false)) (.bool (r47.1 == 1)) hb79) ?_
           refine V 77 4 (mv 76 (.bool (r47.1 == 1))) ?_
           refine RWP.split (r47.1 == 1) (fun hb81 => ?_) (fun hb81 => ?_)
           ·have h82 := cond_t h80 hb81
            refine Vg 78 3 39 true 77 hb81 (mv 11 (vi r47.2.1)) ?_
            refine Vg 79 4 39 true 77 hb81 (run_eql (t := 3) (t' := 3) (x := (.tmp 78)) (y := (.const (vi 750))) (k := .i64) (a := r47.2.1) (b := 750) rfl rfl) ?_
            refine V 80 4 (p1 77 (.tmp 79) (.const (.bool false)) (.bool (r47.2.1 == 750)) hb81) ?_
            refine V 81 4 (mv 80 (.bool (r47.2.1 == 750))) ?_
            refine RWP.split (r47.2.1 == 750) (fun hb83 => ?_) (fun hb83 => ?_)
            ·have h84 := cond_t h82 hb83
             obtain ⟨r85, hr86, h87⟩ := bind_some h84
             refine RWP.call (dst := (some 82)) (ty := 4) (g := (some (43, true))) (by kernel_rfl) (gd_y (d := 81) (by kernel_rfl) rfl hb83) (f0 := (.func 37)) (aos := #[(.const (.string ⟨([68, 76, 49, 65, 47, 87, 49, 65] : List UInt8).toArray⟩))]) (ats := #[9]) (fid := 37) (first := #[]) (cap := #[]) (args := [(.string ⟨(([68, 76, 49, 65, 47, 87, 49, 65] : List UInt8)).toArray⟩)]) rfl co_air_ValidCall (rfl) hs52 (c_air_ValidCall N w51 F6 hs52.pers (hG.mono (((((le7.trans le20).trans le28).trans le36).trans le44).trans le53)) (([68, 76, 49, 65, 47, 87, 49, 65] : List UInt8)) _ hr86) ?_
             intro v88 F8 w89 hs90 le91 hp92
             obtain rfl := hp92
             refine Vg 83 4 43 true 81 hb83 (run_not (t := 4) (x := (.tmp 82)) (a := r85) rfl) ?_
             refine V 84 4 (p1 81 (.tmp 83) (.const (.bool false)) (.bool (!r85)) hb83) ?_
             refine V 0 4 (ma 84 (.bool (!r85))) ?_
             obtain rfl := some_inj h87
             have hs93 : HS w0 F0 w89 F8 [] := hs90.drop 0
             exact RWP.nil ⟨rfl, F8, hs93, le91, rfl, rfl⟩
            ·have h94 := cond_f h82 hb83
             refine Sk [82, 83] 43 true 81 hb83 ?_
             refine V 84 4 (p0 81 (.tmp 83) (.const (.bool false)) (.bool false) hb83) ?_
             refine V 0 4 (ma 84 (.bool false)) ?_
             obtain rfl := some_inj h94
             have hs95 : HS w0 F0 w51 F6 [] := hs52.drop 0
             exact RWP.nil ⟨rfl, F6, hs95, (Mem.le.refl _), rfl, rfl⟩
           ·have h96 := cond_f h80 hb81
            refine Sk [78, 79] 39 true 77 hb81 ?_
            refine V 80 4 (p0 77 (.tmp 79) (.const (.bool false)) (.bool false) hb81) ?_
            refine V 81 4 (mv 80 (.bool false)) ?_
            refine Sk [82, 83] 43 true 81 rfl ?_
            refine V 84 4 (p0 81 (.tmp 83) (.const (.bool false)) (.bool false) rfl) ?_
            refine V 0 4 (ma 84 (.bool false)) ?_
            obtain rfl := some_inj h96
            have hs97 : HS w0 F0 w51 F6 [] := hs52.drop 0
            exact RWP.nil ⟨rfl, F6, hs97, (Mem.le.refl _), rfl, rfl⟩
          ·have h98 := cond_f h78 hb79
           refine Sk [74, 75] 35 true 73 hb79 ?_
           refine V 76 4 (p0 73 (.tmp 75) (.const (.bool false)) (.bool false) hb79) ?_
           refine V 77 4 (mv 76 (.bool false)) ?_
           refine Sk [78, 79] 39 true 77 rfl ?_
           refine V 80 4 (p0 77 (.tmp 79) (.const (.bool false)) (.bool false) rfl) ?_
           refine V 81 4 (mv 80 (.bool false)) ?_
           refine Sk [82, 83] 43 true 81 rfl ?_
           refine V 84 4 (p0 81 (.tmp 83) (.const (.bool false)) (.bool false) rfl) ?_
           refine V 0 4 (ma 84 (.bool false)) ?_
           obtain rfl := some_inj h98
           have hs99 : HS w0 F0 w51 F6 [] := hs52.drop 0
           exact RWP.nil ⟨rfl, F6, hs99, (Mem.le.refl _), rfl, rfl⟩
         ·have h100 := cond_f h76 hb77
          refine Sk [70, 71] 31 true 69 hb77 ?_
          refine V 72 4 (p0 69 (.tmp 71) (.const (.bool false)) (.bool false) hb77) ?_
          refine V 73 4 (mv 72 (.bool false)) ?_
          refine Sk [74, 75] 35 true 73 rfl ?_
          refine V 76 4 (p0 73 (.tmp 75) (.const (.bool false)) (.bool false) rfl) ?_
          refine V 77 4 (mv 76 (.bool false)) ?_
          refine Sk [78, 79] 39 true 77 rfl ?_
          refine V 80 4 (p0 77 (.tmp 79) (.const (.bool false)) (.bool false) rfl) ?_
          refine V 81 4 (mv 80 (.bool false)) ?_
          refine Sk [82, 83] 43 true 81 rfl ?_
          refine V 84 4 (p0 81 (.tmp 83) (.const (.bool false)) (.bool false) rfl) ?_
          refine V 0 4 (ma 84 (.bool false)) ?_
          obtain rfl := some_inj h100
          have hs101 : HS w0 F0 w51 F6 [] := hs52.drop 0
          exact RWP.nil ⟨rfl, F6, hs101, (Mem.le.refl _), rfl, rfl⟩
        ·have h102 := cond_f h74 hb75
         refine Sk [66, 67] 27 true 65 hb75 ?_
         refine V 68 4 (p0 65 (.tmp 67) (.const (.bool false)) (.bool false) hb75) ?_
         refine V 69 4 (mv 68 (.bool false)) ?_
         refine Sk [70, 71] 31 true 69 rfl ?_
         refine V 72 4 (p0 69 (.tmp 71) (.const (.bool false)) (.bool false) rfl) ?_
         refine V 73 4 (mv 72 (.bool false)) ?_
         refine Sk [74, 75] 35 true 73 rfl ?_
         refine V 76 4 (p0 73 (.tmp 75) (.const (.bool false)) (.bool false) rfl) ?_
         refine V 77 4 (mv 76 (.bool false)) ?_
         refine Sk [78, 79] 39 true 77 rfl ?_
         refine V 80 4 (p0 77 (.tmp 79) (.const (.bool false)) (.bool false) rfl) ?_
         refine V 81 4 (mv 80 (.bool false)) ?_
         refine Sk [82, 83] 43 true 81 rfl ?_
         refine V 84 4 (p0 81 (.tmp 83) (.const (.bool false)) (.bool false) rfl) ?_
         refine V 0 4 (ma 84 (.bool false)) ?_
         obtain rfl := some_inj h102
         have hs103 : HS w0 F0 w51 F6 [] := hs52.drop 0
         exact RWP.nil ⟨rfl, F6, hs103, (Mem.le.refl _), rfl, rfl⟩
       ·have h104 := cond_f h72 hb73
        refine Sk [62, 63] 23 true 61 hb73 ?_
        refine V 64 4 (p0 61 (.tmp 63) (.const (.bool false)) (.bool false) hb73) ?_
        refine V 65 4 (mv 64 (.bool false)) ?_
        refine Sk [66, 67] 27 true 65 rfl ?_
        refine V 68 4 (p0 65 (.tmp 67) (.const (.bool false)) (.bool false) rfl) ?_
        refine V 69 4 (mv 68 (.bool false)) ?_
        refine Sk [70, 71] 31 true 69 rfl ?_
        refine V 72 4 (p0 69 (.tmp 71) (.const (.bool false)) (.bool false) rfl) ?_
        refine V 73 4 (mv 72 (.bool false)) ?_
        refine Sk [74, 75] 35 true 73 rfl ?_
        refine V 76 4 (p0 73 (.tmp 75) (.const (.bool false)) (.bool false) rfl) ?_
        refine V 77 4 (mv 76 (.bool false)) ?_
        refine Sk [78, 79] 39 true 77 rfl ?_
        refine V 80 4 (p0 77 (.tmp 79) (.const (.bool false)) (.bool false) rfl) ?_
        refine V 81 4 (mv 80 (.bool false)) ?_
        refine Sk [82, 83] 43 true 81 rfl ?_
        refine V 84 4 (p0 81 (.tmp 83) (.const (.bool false)) (.bool false) rfl) ?_
        refine V 0 4 (ma 84 (.bool false)) ?_
        obtain rfl := some_inj h104
        have hs105 : HS w0 F0 w51 F6 [] := hs52.drop 0
        exact RWP.nil ⟨rfl, F6, hs105, (Mem.le.refl _), rfl, rfl⟩
      ·have h106 := cond_f h70 hb71
       refine Sk [58, 59] 19 true 57 hb71 ?_
       refine V 60 4 (p0 57 (.tmp 59) (.const (.bool false)) (.bool false) hb71) ?_
       refine V 61 4 (mv 60 (.bool false)) ?_
       refine Sk [62, 63] 23 true 61 rfl ?_
       refine V 64 4 (p0 61 (.tmp 63) (.const (.bool false)) (.bool false) rfl) ?_
       refine V 65 4 (mv 64 (.bool false)) ?_
       refine Sk [66, 67] 27 true 65 rfl ?_
       refine V 68 4 (p0 65 (.tmp 67) (.const (.bool false)) (.bool false) rfl) ?_
       refine V 69 4 (mv 68 (.bool false)) ?_
       refine Sk [70, 71] 31 true 69 rfl ?_
       refine V 72 4 (p0 69 (.tmp 71) (.const (.bool false)) (.bool false) rfl) ?_
       refine V 73 4 (mv 72 (.bool false)) ?_
       refine Sk [74, 75] 35 true 73 rfl ?_
       refine V 76 4 (p0 73 (.tmp 75) (.const (.bool false)) (.bool false) rfl) ?_
       refine V 77 4 (mv 76 (.bool false)) ?_
       refine Sk [78, 79] 39 true 77 rfl ?_
       refine V 80 4 (p0 77 (.tmp 79) (.const (.bool false)) (.bool false) rfl) ?_
       refine V 81 4 (mv 80 (.bool false)) ?_
       refine Sk [82, 83] 43 true 81 rfl ?_
       refine V 84 4 (p0 81 (.tmp 83) (.const (.bool false)) (.bool false) rfl) ?_
       refine V 0 4 (ma 84 (.bool false)) ?_
       obtain rfl := some_inj h106
       have hs107 : HS w0 F0 w51 F6 [] := hs52.drop 0
       exact RWP.nil ⟨rfl, F6, hs107, (Mem.le.refl _), rfl, rfl⟩
     ·have h108 := cond_f h68 hb69
      refine Sk [54, 55] 15 true 53 hb69 ?_
      refine V 56 4 (p0 53 (.tmp 55) (.const (.bool false)) (.bool false) hb69) ?_
      refine V 57 4 (mv 56 (.bool false)) ?_
      refine Sk [58, 59] 19 true 57 rfl ?_
      refine V 60 4 (p0 57 (.tmp 59) (.const (.bool false)) (.bool false) rfl) ?_
      refine V 61 4 (mv 60 (.bool false)) ?_
      refine Sk [62, 63] 23 true 61 rfl ?_
      refine V 64 4 (p0 61 (.tmp 63) (.const (.bool false)) (.bool false) rfl) ?_
      refine V 65 4 (mv 64 (.bool false)) ?_
      refine Sk [66, 67] 27 true 65 rfl ?_
      refine V 68 4 (p0 65 (.tmp 67) (.const (.bool false)) (.bool false) rfl) ?_
      refine V 69 4 (mv 68 (.bool false)) ?_
      refine Sk [70, 71] 31 true 69 rfl ?_
      refine V 72 4 (p0 69 (.tmp 71) (.const (.bool false)) (.bool false) rfl) ?_
      refine V 73 4 (mv 72 (.bool false)) ?_
      refine Sk [74, 75] 35 true 73 rfl ?_
      refine V 76 4 (p0 73 (.tmp 75) (.const (.bool false)) (.bool false) rfl) ?_
      refine V 77 4 (mv 76 (.bool false)) ?_
      refine Sk [78, 79] 39 true 77 rfl ?_
      refine V 80 4 (p0 77 (.tmp 79) (.const (.bool false)) (.bool false) rfl) ?_
      refine V 81 4 (mv 80 (.bool false)) ?_
      refine Sk [82, 83] 43 true 81 rfl ?_
      refine V 84 4 (p0 81 (.tmp 83) (.const (.bool false)) (.bool false) rfl) ?_
      refine V 0 4 (ma 84 (.bool false)) ?_
      obtain rfl := some_inj h108
      have hs109 : HS w0 F0 w51 F6 [] := hs52.drop 0
      exact RWP.nil ⟨rfl, F6, hs109, (Mem.le.refl _), rfl, rfl⟩
    ·have h110 := cond_f h66 hb67
     refine Sk [50, 51] 11 true 49 hb67 ?_
     refine V 52 4 (p0 49 (.tmp 51) (.const (.bool false)) (.bool false) hb67) ?_
     refine V 53 4 (mv 52 (.bool false)) ?_
     refine Sk [54, 55] 15 true 53 rfl ?_
     refine V 56 4 (p0 53 (.tmp 55) (.const (.bool false)) (.bool false) rfl) ?_
     refine V 57 4 (mv 56 (.bool false)) ?_
     refine Sk [58, 59] 19 true 57 rfl ?_
     refine V 60 4 (p0 57 (.tmp 59) (.const (.bool false)) (.bool false) rfl) ?_
     refine V 61 4 (mv 60 (.bool false)) ?_
     refine Sk [62, 63] 23 true 61 rfl ?_
     refine V 64 4 (p0 61 (.tmp 63) (.const (.bool false)) (.bool false) rfl) ?_
     refine V 65 4 (mv 64 (.bool false)) ?_
     refine Sk [66, 67] 27 true 65 rfl ?_
     refine V 68 4 (p0 65 (.tmp 67) (.const (.bool false)) (.bool false) rfl) ?_
     refine V 69 4 (mv 68 (.bool false)) ?_
     refine Sk [70, 71] 31 true 69 rfl ?_
     refine V 72 4 (p0 69 (.tmp 71) (.const (.bool false)) (.bool false) rfl) ?_
     refine V 73 4 (mv 72 (.bool false)) ?_
     refine Sk [74, 75] 35 true 73 rfl ?_
     refine V 76 4 (p0 73 (.tmp 75) (.const (.bool false)) (.bool false) rfl) ?_
     refine V 77 4 (mv 76 (.bool false)) ?_
     refine Sk [78, 79] 39 true 77 rfl ?_
     refine V 80 4 (p0 77 (.tmp 79) (.const (.bool false)) (.bool false) rfl) ?_
     refine V 81 4 (mv 80 (.bool false)) ?_
     refine Sk [82, 83] 43 true 81 rfl ?_
     refine V 84 4 (p0 81 (.tmp 83) (.const (.bool false)) (.bool false) rfl) ?_
     refine V 0 4 (ma 84 (.bool false)) ?_
     obtain rfl := some_inj h110
     have hs111 : HS w0 F0 w51 F6 [] := hs52.drop 0
     exact RWP.nil ⟨rfl, F6, hs111, (Mem.le.refl _), rfl, rfl⟩
   ·have h112 := cond_f h64 hb65
    refine Sk [46, 47] 7 true 45 hb65 ?_
    refine V 48 4 (p0 45 (.tmp 47) (.const (.bool false)) (.bool false) hb65) ?_
    refine V 49 4 (mv 48 (.bool false)) ?_
    refine Sk [50, 51] 11 true 49 rfl ?_
    refine V 52 4 (p0 49 (.tmp 51) (.const (.bool false)) (.bool false) rfl) ?_
    refine V 53 4 (mv 52 (.bool false)) ?_
    refine Sk [54, 55] 15 true 53 rfl ?_
    refine V 56 4 (p0 53 (.tmp 55) (.const (.bool false)) (.bool false) rfl) ?_
    refine V 57 4 (mv 56 (.bool false)) ?_
    refine Sk [58, 59] 19 true 57 rfl ?_
    refine V 60 4 (p0 57 (.tmp 59) (.const (.bool false)) (.bool false) rfl) ?_
    refine V 61 4 (mv 60 (.bool false)) ?_
    refine Sk [62, 63] 23 true 61 rfl ?_
    refine V 64 4 (p0 61 (.tmp 63) (.const (.bool false)) (.bool false) rfl) ?_
    refine V 65 4 (mv 64 (.bool false)) ?_
    refine Sk [66, 67] 27 true 65 rfl ?_
    refine V 68 4 (p0 65 (.tmp 67) (.const (.bool false)) (.bool false) rfl) ?_
    refine V 69 4 (mv 68 (.bool false)) ?_
    refine Sk [70, 71] 31 true 69 rfl ?_
    refine V 72 4 (p0 69 (.tmp 71) (.const (.bool false)) (.bool false) rfl) ?_
    refine V 73 4 (mv 72 (.bool false)) ?_
    refine Sk [74, 75] 35 true 73 rfl ?_
    refine V 76 4 (p0 73 (.tmp 75) (.const (.bool false)) (.bool false) rfl) ?_
    refine V 77 4 (mv 76 (.bool false)) ?_
    refine Sk [78, 79] 39 true 77 rfl ?_
    refine V 80 4 (p0 77 (.tmp 79) (.const (.bool false)) (.bool false) rfl) ?_
    refine V 81 4 (mv 80 (.bool false)) ?_
    refine Sk [82, 83] 43 true 81 rfl ?_
    refine V 84 4 (p0 81 (.tmp 83) (.const (.bool false)) (.bool false) rfl) ?_
    refine V 0 4 (ma 84 (.bool false)) ?_
    obtain rfl := some_inj h112
    have hs113 : HS w0 F0 w51 F6 [] := hs52.drop 0
    exact RWP.nil ⟨rfl, F6, hs113, (Mem.le.refl _), rfl, rfl⟩
  ·have h114 := cond_f hj61 hb63
   refine Sk [41, 42, 43] 2 true 40 hb63 ?_
   refine V 44 4 (p0 40 (.tmp 43) (.const (.bool false)) (.bool false) hb63) ?_
   refine V 45 4 (mv 44 (.bool false)) ?_
   refine Sk [46, 47] 7 true 45 rfl ?_
   refine V 48 4 (p0 45 (.tmp 47) (.const (.bool false)) (.bool false) rfl) ?_
   refine V 49 4 (mv 48 (.bool false)) ?_
   refine Sk [50, 51] 11 true 49 rfl ?_
   refine V 52 4 (p0 49 (.tmp 51) (.const (.bool false)) (.bool false) rfl) ?_
   refine V 53 4 (mv 52 (.bool false)) ?_
   refine Sk [54, 55] 15 true 53 rfl ?_
   refine V 56 4 (p0 53 (.tmp 55) (.const (.bool false)) (.bool false) rfl) ?_
   refine V 57 4 (mv 56 (.bool false)) ?_
   refine Sk [58, 59] 19 true 57 rfl ?_
   refine V 60 4 (p0 57 (.tmp 59) (.const (.bool false)) (.bool false) rfl) ?_
   refine V 61 4 (mv 60 (.bool false)) ?_
   refine Sk [62, 63] 23 true 61 rfl ?_
   refine V 64 4 (p0 61 (.tmp 63) (.const (.bool false)) (.bool false) rfl) ?_
   refine V 65 4 (mv 64 (.bool false)) ?_
   refine Sk [66, 67] 27 true 65 rfl ?_
   refine V 68 4 (p0 65 (.tmp 67) (.const (.bool false)) (.bool false) rfl) ?_
   refine V 69 4 (mv 68 (.bool false)) ?_
   refine Sk [70, 71] 31 true 69 rfl ?_
   refine V 72 4 (p0 69 (.tmp 71) (.const (.bool false)) (.bool false) rfl) ?_
   refine V 73 4 (mv 72 (.bool false)) ?_
   refine Sk [74, 75] 35 true 73 rfl ?_
   refine V 76 4 (p0 73 (.tmp 75) (.const (.bool false)) (.bool false) rfl) ?_
   refine V 77 4 (mv 76 (.bool false)) ?_
   refine Sk [78, 79] 39 true 77 rfl ?_
   refine V 80 4 (p0 77 (.tmp 79) (.const (.bool false)) (.bool false) rfl) ?_
   refine V 81 4 (mv 80 (.bool false)) ?_
   refine Sk [82, 83] 43 true 81 rfl ?_
   refine V 84 4 (p0 81 (.tmp 83) (.const (.bool false)) (.bool false) rfl) ?_
   refine V 0 4 (ma 84 (.bool false)) ?_
   obtain rfl := some_inj h114
   have hs115 : HS w0 F0 w51 F6 [] := hs52.drop 0
   exact RWP.nil ⟨rfl, F6, hs115, (Mem.le.refl _), rfl, rfl⟩
 ·rintro f w55 ⟨F7, hs56, le57, e59, e60⟩
  refine thenQ_nrm ?_
  refine CWP.ret (by kernel_rfl) ?_
  have hfin := some_inj h62
  subst hfin
  exact ⟨e59, (.bool j58), res_of (l := [.tmp 0]) (by kernel_rfl) (vs := [(.bool j58)]) ⟨e60, trivial⟩, (.bool j58), F7, rfl, hs56.clear, rfl⟩
end Go.Proofs.YtlddakefmfcblaaGreatDoor
namespace Go.Proofs.YtlddakefmfcblaaGreatDoor
open Go.Lib (decDigits)
theorem aw1 : splitS [71, 51, 47, 77, 48, 65, 66, 47, 80] = ({ Area := [71, 51], Prefix := [77, 48], Suffix := [65, 66], Stroke := [80] }, 0) := by rfl
theorem aw2 : prefixS [87, 49, 65, 87, 47, 52] = ([87, 52], 0) := by rfl
theorem aw3 : tText 1505 = [50, 32, 48, 49, 48, 53] := by
 unfold tText dP
 rw [show 1505 / 1440 + 1 = 2 from rfl, show 1505 / 60 % 24 = 1 from rfl, show 1505 % 60 = 5 from rfl, dd_small (by decide), dd_small (by decide), dd_small (by decide)]
 rfl
theorem aw4 : printT 1505 = ([50, 32, 48, 49, 48, 53], 0) := by
 unfold printT
 rw [if_pos (by decide)]
 show (tText 1505, (0 : Int)) = _
 rw [aw3]
theorem aw5 : parseT [50, 32, 48, 49, 48, 53] = (1505, 0) := by
 rw [← aw3, parse_text (by decide)]; rfl
theorem aw6 : validS [68, 76, 49, 65, 47, 87, 49, 65] = false := by rfl
theorem aw7 : nearestS [{ ID := 1, Lo := 1800, Hi := 2000 }, { ID := 2, Lo := 3500, Hi := 3800 }] 2750 = (1, 750, 0) := by decide
theorem awake_true {N : Nat} (hN : 4294967300 < N) : law01_awake N = some true := by
 unfold law01_awake
 rw [s_Split _ hN, aw1, Option.bind_some, s_PrefixOf _ hN, aw2, Option.bind_some, s_PrintTime, aw4, Option.bind_some, s_ParseTime _ (by simp) hN, aw5, Option.bind_some, s_Nearest (by simp) hN, aw7, Option.bind_some]
 simp only [s_Valid _ hN, aw6]
 rfl
end Go.Proofs.YtlddakefmfcblaaGreatDoor
namespace Go.Proofs.YtlddakefmfcblaaGreatDoor
open Go.Proofs
end Go.Proofs.YtlddakefmfcblaaGreatDoor
namespace Go.Proofs.YtlddakefmfcblaaGreatDoor
open Go.Proofs
end Go.Proofs.YtlddakefmfcblaaGreatDoor
namespace Go.Proofs.YtlddakefmfcblaaGreatDoor
open Go.Proofs
end Go.Proofs.YtlddakefmfcblaaGreatDoor
namespace Go.Proofs.YtlddakefmfcblaaGreatDoor
open Go.Proofs
def law01_AirCalls (N : Nat) (x0 : (List UInt8)) (x1 : (List UInt8)) (x2 : Parts) : Option Bool :=
 ((law01_awake N ).bind fun r4 => (bif ((decide ((x0.length : Int) > 1000)) || ((decide ((x1.length : Int) > 1000)) || (decide ((W64 ((W64 ((W64 ((x2.Area.length : Int) + (x2.Prefix.length : Int))) + (x2.Suffix.length : Int))) + (x2.Stroke.length : Int))) > 1000)))) then some r4 else ((air_Split N x0).bind fun r26 => ((ref01_Split N x0).bind fun r39 => ((air_Join N x2).bind fun r52 => ((ref01_Join N x2).bind fun r60 => (((air_ValidCall N x0).bind fun r79 => ((ref01_ValidCall N x0).bind fun r87 => (bif (!(r79 == r87)) then some true else (bif (!((r26.1.Area == r39.1.Area) && ((r26.1.Prefix == r39.1.Prefix) && ((r26.1.Suffix == r39.1.Suffix) && ((r26.1.Stroke == r39.1.Stroke) && true))))) then some true else (bif (r26.2 != r39.2) then some true else (bif (r52.1 != r60.1) then some true else some (r52.2 != r60.2))))))).bind fun j71 => (bif j71 then some false else ((air_Base N x0).bind fun r125 => ((ref01_Base N x0).bind fun r133 => ((air_Same N x0 x1).bind fun r141 => ((ref01_Same N x0 x1).bind fun r149 => ((air_PrefixOf N x0).bind fun r157 => ((ref01_PrefixOf N x0).bind fun r165 => some (r4 && ((r125.1 == r133.1) && ((r125.2 == r133.2) && ((r141.1 == r149.1) && ((r141.2 == r149.2) && ((r157.1 == r165.1) && (r157.2 == r165.2)))))))))))))))))))))
set_option maxHeartbeats 4000000 in
set_option maxRecDepth 100000 in
theorem c_law01_AirCalls (N : Nat) (w0 : World) (F0 : Mem) (hF : ∀ b o, F0 b = some o → w0.heap[b]? = some o) (hG : Glob F0) (x0 : (List UInt8)) (x1 : (List UInt8)) (x2 : Parts) (r : Bool) (h : law01_AirCalls N x0 x1 x2 = some r) :
  Calls Tryz.prog 7 ([(.string ⟨(x0).toArray⟩), (.string ⟨(x1).toArray⟩), (.agg #[(.string ⟨(x2.Area).toArray⟩), (.string ⟨(x2.Prefix).toArray⟩), (.string ⟨(x2.Suffix).toArray⟩), (.string ⟨(x2.Stroke).toArray⟩)])] : List Value).toArray w0 (FRet w0 F0 fun F' v => v = (.bool r)) := by
 have hs0 := HS.start hF
 refine calls_of (n := 164) (c := bodyOf Tryz.f7) Tryz.func7 (by kernel_rfl) (by kernel_rfl) (by kernel_rfl) ?_
 refine Sq (Rg [0, 1] ?_)
 refine Bx 5 0 2 27 #[(.string ⟨(x2.Area).toArray⟩), (.string ⟨(x2.Prefix).toArray⟩), (.string ⟨(x2.Suffix).toArray⟩), (.string ⟨(x2.Stroke).toArray⟩)] hs0 (fun b1 w2 (hs3 : HS w0 F0 w2 F0 [(sb b1 #[(.string ⟨(x2.Area).toArray⟩), (.string ⟨(x2.Prefix).toArray⟩), (.string ⟨(x2.Suffix).toArray⟩), (.string ⟨(x2.Stroke).toArray⟩)] 27)]) => ?_)
 refine V 6 4 (mc (.bool false) (.bool false)) ?_
 refine Nss (Rg [0, 1] ?_)
 obtain ⟨r4, hr5, h6⟩ := bind_some h
 refine Cl 28 4 17 #[] #[] co_law01_awake hs3 (c_law01_awake N w2 F0 hs3.pers hG  _ hr5) ?_
 intro v7 F1 w8 hs9 le10 hp11
 obtain rfl := hp11
 refine V 7 4 (ma 28 (.bool r4)) ?_
 refine Nss ?_
 refine Sq (Rg [0, 1, 2, 3, 4, 5, 6, 7, 8, 9, 10, 11, 12, 13, 14, 15, 16, 17, 18, 19, 20, 21, 22, 23, 24, 25] ?_)
 refine RWP.cut (fun f w => ∃ (F2 : Mem), HS w0 F0 w F2 [(sb b1 #[(.string ⟨(x2.Area).toArray⟩), (.string ⟨(x2.Prefix).toArray⟩), (.string ⟨(x2.Suffix).toArray⟩), (.string ⟨(x2.Stroke).toArray⟩)] 27)] ∧ Mem.le F1 F2 ∧ f.d = [] ∧ f 0 = (.string ⟨(x0).toArray⟩) ∧ f 1 = (.string ⟨(x1).toArray⟩) ∧ f 5 = (.pointer (some ⟨b1, 0, none⟩)) ∧ f 7 = (.bool r4) ∧ f 54 = (.bool ((decide ((x0.length : Int) > 1000)) || ((decide ((x1.length : Int) > 1000)) || (decide ((W64 ((W64 ((W64 ((x2.Area.length : Int) + (x2.Prefix.length : Int))) + (x2.Suffix.length : Int))) + (x2.Stroke.length : Int))) > 1000)))))) ?_ ?_
 ·refine V 29 9 (mv 0 (.string ⟨(x0).toArray⟩)) ?_
  refine V 30 3 (run_slen (x := (.tmp 29)) (ats := #[9]) (t := 9) (a := x0) rfl rfl (by kernel_rfl)) ?_
  refine V 31 4 (run_gtr (t := 3) (t' := 3) (x := (.tmp 30)) (y := (.const (vi 1000))) (k := .i64) (a := (x0.length : Int)) (b := 1000) rfl rfl) ?_
  refine V 32 4 (mv 31 (.bool (decide ((x0.length : Int) > 1000)))) ?_
  refine RWP.split (decide ((x0.length : Int) > 1000)) (fun hb21 => ?_) (fun hb21 => ?_)
  ·refine Sk [33, 34, 35] 3 false 32 hb21 ?_
   refine V 36 4 (p1 32 (.const (.bool true)) (.tmp 35) (.bool true) hb21) ?_
   refine V 37 4 (mv 36 (.bool true)) ?_
   refine Sk [38, 39, 40, 41, 42, 43, 44, 45, 46, 47, 48, 49, 50, 51, 52, 53] 8 false 37 rfl ?_
   refine V 54 4 (p1 37 (.const (.bool true)) (.tmp 53) (.bool true) rfl) ?_
   exact RWP.nil ⟨rfl, F1, hs9, (Mem.le.refl _), rfl, rfl, rfl, rfl, rfl, (congrArg Value.bool (or_t hb21 (rfl)))⟩
  ·refine Vg 33 9 3 false 32 hb21 (mv 1 (.string ⟨(x1).toArray⟩)) ?_
   refine Vg 34 3 3 false 32 hb21 (run_slen (x := (.tmp 33)) (ats := #[9]) (t := 9) (a := x1) rfl rfl (by kernel_rfl)) ?_
   refine Vg 35 4 3 false 32 hb21 (run_gtr (t := 3) (t' := 3) (x := (.tmp 34)) (y := (.const (vi 1000))) (k := .i64) (a := (x1.length : Int)) (b := 1000) rfl rfl) ?_
   refine V 36 4 (p0 32 (.const (.bool true)) (.tmp 35) (.bool (decide ((x1.length : Int) > 1000))) hb21) ?_
   refine V 37 4 (mv 36 (.bool (decide ((x1.length : Int) > 1000)))) ?_
   refine RWP.split (decide ((x1.length : Int) > 1000)) (fun hb22 => ?_) (fun hb22 => ?_)
   ·refine Sk [38, 39, 40, 41, 42, 43, 44, 45, 46, 47, 48, 49, 50, 51, 52, 53] 8 false 37 hb22 ?_
    refine V 54 4 (p1 37 (.const (.bool true)) (.tmp 53) (.bool true) hb22) ?_
    exact RWP.nil ⟨rfl, F1, hs9, (Mem.le.refl _), rfl, rfl, rfl, rfl, rfl, (congrArg Value.bool (or_f hb21 (or_t hb22 (rfl))))⟩
   ·refine Vg 38 0 8 false 37 hb22 (fa 27 5 0 0 1 b1 0 0) ?_
    refine Vg 39 9 8 false 37 hb22 (ld 9 38 b1 0 false 1 (.string ⟨(x2.Area).toArray⟩) (hs9.ownAt (k := 0) rfl)) ?_
    refine Vg 40 3 8 false 37 hb22 (run_slen (x := (.tmp 39)) (ats := #[9]) (t := 9) (a := x2.Area) rfl rfl (by kernel_rfl)) ?_
    refine Vg 41 0 8 false 37 hb22 (fa 27 5 1 1 1 b1 0 1) ?_
    refine Vg 42 9 8 false 37 hb22 (ld 9 41 b1 1 false 1 (.string ⟨(x2.Prefix).toArray⟩) (hs9.ownAt (k := 0) rfl)) ?_
    refine Vg 43 3 8 false 37 hb22 (run_slen (x := (.tmp 42)) (ats := #[9]) (t := 9) (a := x2.Prefix) rfl rfl (by kernel_rfl)) ?_
    refine Vg 44 3 8 false 37 hb22 (run_add (t := 3) (t' := 3) (x := (.tmp 40)) (y := (.tmp 43)) (k := .i64) (a := (x2.Area.length : Int)) (b := (x2.Prefix.length : Int)) rfl rfl) ?_
    refine Vg 45 0 8 false 37 hb22 (fa 27 5 2 2 1 b1 0 2) ?_
    refine Vg 46 9 8 false 37 hb22 (ld 9 45 b1 2 false 1 (.string ⟨(x2.Suffix).toArray⟩) (hs9.ownAt (k := 0) rfl)) ?_
    refine Vg 47 3 8 false 37 hb22 (run_slen (x := (.tmp 46)) (ats := #[9]) (t := 9) (a := x2.Suffix) rfl rfl (by kernel_rfl)) ?_
    refine Vg 48 3 8 false 37 hb22 (run_add (t := 3) (t' := 3) (x := (.tmp 44)) (y := (.tmp 47)) (k := .i64) (a := (W64 ((x2.Area.length : Int) + (x2.Prefix.length : Int)))) (b := (x2.Suffix.length : Int)) rfl rfl) ?_
    refine Vg 49 0 8 false 37 hb22 (fa 27 5 3 3 1 b1 0 3) ?_
    refine Vg 50 9 8 false 37 hb22 (ld 9 49 b1 3 false 1 (.string ⟨(x2.Stroke).toArray⟩) (hs9.ownAt (k := 0) rfl)) ?_
    refine Vg 51 3 8 false 37 hb22 (run_slen (x := (.tmp 50)) (ats := #[9]) (t := 9) (a := x2.Stroke) rfl rfl (by kernel_rfl)) ?_
    refine Vg 52 3 8 false 37 hb22 (run_add (t := 3) (t' := 3) (x := (.tmp 48)) (y := (.tmp 51)) (k := .i64) (a := (W64 ((W64 ((x2.Area.length : Int) + (x2.Prefix.length : Int))) + (x2.Suffix.length : Int)))) (b := (x2.Stroke.length : Int)) rfl rfl) ?_
    refine Vg 53 4 8 false 37 hb22 (run_gtr (t := 3) (t' := 3) (x := (.tmp 52)) (y := (.const (vi 1000))) (k := .i64) (a := (W64 ((W64 ((W64 ((x2.Area.length : Int) + (x2.Prefix.length : Int))) + (x2.Suffix.length : Int))) + (x2.Stroke.length : Int)))) (b := 1000) rfl rfl) ?_
    refine V 54 4 (p0 37 (.const (.bool true)) (.tmp 53) (.bool (decide ((W64 ((W64 ((W64 ((x2.Area.length : Int) + (x2.Prefix.length : Int))) + (x2.Suffix.length : Int))) + (x2.Stroke.length : Int))) > 1000))) hb22) ?_
    exact RWP.nil ⟨rfl, F1, hs9, (Mem.le.refl _), rfl, rfl, rfl, rfl, rfl, (congrArg Value.bool (or_f hb21 (or_f hb22 (rfl))))⟩
 ·rintro f w12 ⟨F2, hs13, le14, e15, e16, e17, e18, e19, e20⟩
  refine thenQ_nrm ?_
  refine CWP.cond (t := ((decide ((x0.length : Int) > 1000)) || ((decide ((x1.length : Int) > 1000)) || (decide ((W64 ((W64 ((W64 ((x2.Area.length : Int) + (x2.Prefix.length : Int))) + (x2.Suffix.length : Int))) + (x2.Stroke.length : Int))) > 1000))))) (by kernel_rfl) e20 (fun hb23 => ?_) (fun hb23 => ?_)
  ·have h24 := cond_t h6 hb23
   refine Sq (Rg [0, 1] ?_)
   refine V 55 4 (mv 7 (.bool r4) e19) ?_
   refine V 6 4 (ma 55 (.bool r4)) ?_
   refine Nt ?_
   refine CWP.ret (by kernel_rfl) ?_
   refine thenQ_ret ?_
   have hfin := some_inj h24
   subst hfin
   exact ⟨e15, (.bool r4), res_of (l := [.tmp 6]) (by kernel_rfl) (vs := [(.bool r4)]) ⟨rfl, trivial⟩, (.bool r4), F2, rfl, hs13.clear, rfl⟩
  ·have h25 := cond_f h6 hb23
   refine Sc ?_
   refine thenQ_nrm ?_
   refine Sq (Rg [0, 1, 2, 3, 4, 5, 6, 7] ?_)
   refine V 57 9 (mv 0 (.string ⟨(x0).toArray⟩) e16) ?_
   obtain ⟨r26, hr27, h28⟩ := bind_some h25
   refine Cl 58 28 19 #[(.tmp 57)] #[9] co_air_Split hs13 (c_air_Split N w12 F2 hs13.pers (hG.mono (le10.trans le14)) (x0) _ hr27) ?_
   intro v29 F3 w30 hs31 le32 hp33
   obtain rfl := hp33
   refine V 56 28 (mv 58 (.tuple #[(.agg #[(.string ⟨(r26.1.Area).toArray⟩), (.string ⟨(r26.1.Prefix).toArray⟩), (.string ⟨(r26.1.Suffix).toArray⟩), (.string ⟨(r26.1.Stroke).toArray⟩)]), (vi r26.2)])) ?_
   refine V 59 27 (ex 56 0 (.agg #[(.string ⟨(r26.1.Area).toArray⟩), (.string ⟨(r26.1.Prefix).toArray⟩), (.string ⟨(r26.1.Suffix).toArray⟩), (.string ⟨(r26.1.Stroke).toArray⟩)]) (vs := #[(.agg #[(.string ⟨(r26.1.Area).toArray⟩), (.string ⟨(r26.1.Prefix).toArray⟩), (.string ⟨(r26.1.Suffix).toArray⟩), (.string ⟨(r26.1.Stroke).toArray⟩)]), (vi r26.2)])) ?_
   refine V 60 23 (ex 56 1 (vi r26.2) (vs := #[(.agg #[(.string ⟨(r26.1.Area).toArray⟩), (.string ⟨(r26.1.Prefix).toArray⟩), (.string ⟨(r26.1.Suffix).toArray⟩), (.string ⟨(r26.1.Stroke).toArray⟩)]), (vi r26.2)])) ?_
   refine Al 8 0 27 #[(.string ⟨(([] : List UInt8)).toArray⟩), (.string ⟨(([] : List UInt8)).toArray⟩), (.string ⟨(([] : List UInt8)).toArray⟩), (.string ⟨(([] : List UInt8)).toArray⟩)] hs31 (fun b34 w35 (hs36 : HS w0 F0 w35 F3 [(sb b34 #[(.string ⟨(([] : List UInt8)).toArray⟩), (.string ⟨(([] : List UInt8)).toArray⟩), (.string ⟨(([] : List UInt8)).toArray⟩), (.string ⟨(([] : List UInt8)).toArray⟩)] 27), (sb b1 #[(.string ⟨(x2.Area).toArray⟩), (.string ⟨(x2.Prefix).toArray⟩), (.string ⟨(x2.Suffix).toArray⟩), (.string ⟨(x2.Stroke).toArray⟩)] 27)]) => ?_)
   refine RWP.store (ty := 0) (g := none) (by kernel_rfl) rfl (x := (.tmp 8)) (y := (.tmp 59)) (t := 27) (gg := true) (s := 4) (v := (.agg #[(.string ⟨(r26.1.Area).toArray⟩), (.string ⟨(r26.1.Prefix).toArray⟩), (.string ⟨(r26.1.Suffix).toArray⟩), (.string ⟨(r26.1.Stroke).toArray⟩)])) (b := b34) (o := 0) (C := #[(.string ⟨(([] : List UInt8)).toArray⟩), (.string ⟨(([] : List UInt8)).toArray⟩), (.string ⟨(([] : List UInt8)).toArray⟩), (.string ⟨(([] : List UInt8)).toArray⟩)]) rfl rfl (by kernel_rfl) hs36 (k := 0) rfl rfl rfl rfl (C' := #[(.string ⟨(r26.1.Area).toArray⟩), (.string ⟨(r26.1.Prefix).toArray⟩), (.string ⟨(r26.1.Suffix).toArray⟩), (.string ⟨(r26.1.Stroke).toArray⟩)]) rfl (fun w37 (hs38 : HS w0 F0 w37 F3 [(sb b34 #[(.string ⟨(r26.1.Area).toArray⟩), (.string ⟨(r26.1.Prefix).toArray⟩), (.string ⟨(r26.1.Suffix).toArray⟩), (.string ⟨(r26.1.Stroke).toArray⟩)] 27), (sb b1 #[(.string ⟨(x2.Area).toArray⟩), (.string ⟨(x2.Prefix).toArray⟩), (.string ⟨(x2.Suffix).toArray⟩), (.string ⟨(x2.Stroke).toArray⟩)] 27)]) => ?_)
   refine V 9 23 (ma 60 (vi r26.2)) ?_
   refine Nss (Rg [0, 1, 2, 3, 4, 5, 6, 7] ?_)
   refine V 62 9 (mv 0 (.string ⟨(x0).toArray⟩) e16) ?_
   obtain ⟨r39, hr40, h41⟩ := bind_some h28
   refine Cl 63 28 34 #[(.tmp 62)] #[9] co_ref01_Split hs38 (c_ref01_Split N w37 F3 hs38.pers (x0) _ hr40) ?_
   intro v42 F4 w43 hs44 le45 hp46
   obtain rfl := hp46
   refine V 61 28 (mv 63 (.tuple #[(.agg #[(.string ⟨(r39.1.Area).toArray⟩), (.string ⟨(r39.1.Prefix).toArray⟩), (.string ⟨(r39.1.Suffix).toArray⟩), (.string ⟨(r39.1.Stroke).toArray⟩)]), (vi r39.2)])) ?_
   refine V 64 27 (ex 61 0 (.agg #[(.string ⟨(r39.1.Area).toArray⟩), (.string ⟨(r39.1.Prefix).toArray⟩), (.string ⟨(r39.1.Suffix).toArray⟩), (.string ⟨(r39.1.Stroke).toArray⟩)]) (vs := #[(.agg #[(.string ⟨(r39.1.Area).toArray⟩), (.string ⟨(r39.1.Prefix).toArray⟩), (.string ⟨(r39.1.Suffix).toArray⟩), (.string ⟨(r39.1.Stroke).toArray⟩)]), (vi r39.2)])) ?_
   refine V 65 23 (ex 61 1 (vi r39.2) (vs := #[(.agg #[(.string ⟨(r39.1.Area).toArray⟩), (.string ⟨(r39.1.Prefix).toArray⟩), (.string ⟨(r39.1.Suffix).toArray⟩), (.string ⟨(r39.1.Stroke).toArray⟩)]), (vi r39.2)])) ?_
   refine Al 10 0 27 #[(.string ⟨(([] : List UInt8)).toArray⟩), (.string ⟨(([] : List UInt8)).toArray⟩), (.string ⟨(([] : List UInt8)).toArray⟩), (.string ⟨(([] : List UInt8)).toArray⟩)] hs44 (fun b47 w48 (hs49 : HS w0 F0 w48 F4 [(sb b47 #[(.string ⟨(([] : List UInt8)).toArray⟩), (.string ⟨(([] : List UInt8)).toArray⟩), (.string ⟨(([] : List UInt8)).toArray⟩), (.string ⟨(([] : List UInt8)).toArray⟩)] 27), (sb b34 #[(.string ⟨(r26.1.Area).toArray⟩), (.string ⟨(r26.1.Prefix).toArray⟩), (.string ⟨(r26.1.Suffix).toArray⟩), (.string ⟨(r26.1.Stroke).toArray⟩)] 27), (sb b1 #[(.string ⟨(x2.Area).toArray⟩), (.string ⟨(x2.Prefix).toArray⟩), (.string ⟨(x2.Suffix).toArray⟩), (.string ⟨(x2.Stroke).toArray⟩)] 27)]) => ?_)
   refine RWP.store (ty := 0) (g := none) (by kernel_rfl) rfl (x := (.tmp 10)) (y := (.tmp 64)) (t := 27) (gg := true) (s := 4) (v := (.agg #[(.string ⟨(r39.1.Area).toArray⟩), (.string ⟨(r39.1.Prefix).toArray⟩), (.string ⟨(r39.1.Suffix).toArray⟩), (.string ⟨(r39.1.Stroke).toArray⟩)])) (b := b47) (o := 0) (C := #[(.string ⟨(([] : List UInt8)).toArray⟩), (.string ⟨(([] : List UInt8)).toArray⟩), (.string ⟨(([] : List UInt8)).toArray⟩), (.string ⟨(([] : List UInt8)).toArray⟩)]) rfl rfl (by kernel_rfl) hs49 (k := 0) rfl rfl rfl rfl (C' := #[(.string ⟨(r39.1.Area).toArray⟩), (.string ⟨(r39.1.Prefix).toArray⟩), (.string ⟨(r39.1.Suffix).toArray⟩), (.string ⟨(r39.1.Stroke).toArray⟩)]) rfl (fun w50 (hs51 : HS w0 F0 w50 F4 [(sb b47 #[(.string ⟨(r39.1.Area).toArray⟩), (.string ⟨(r39.1.Prefix).toArray⟩), (.string ⟨(r39.1.Suffix).toArray⟩), (.string ⟨(r39.1.Stroke).toArray⟩)] 27), (sb b34 #[(.string ⟨(r26.1.Area).toArray⟩), (.string ⟨(r26.1.Prefix).toArray⟩), (.string ⟨(r26.1.Suffix).toArray⟩), (.string ⟨(r26.1.Stroke).toArray⟩)] 27), (sb b1 #[(.string ⟨(x2.Area).toArray⟩), (.string ⟨(x2.Prefix).toArray⟩), (.string ⟨(x2.Suffix).toArray⟩), (.string ⟨(x2.Stroke).toArray⟩)] 27)]) => ?_)
   refine V 11 23 (ma 65 (vi r39.2)) ?_
   refine Nss (Rg [0, 1, 2, 3, 4, 5, 6] ?_)
   refine V 67 27 (ld 27 5 b1 0 true 4 (.agg #[(.string ⟨(x2.Area).toArray⟩), (.string ⟨(x2.Prefix).toArray⟩), (.string ⟨(x2.Suffix).toArray⟩), (.string ⟨(x2.Stroke).toArray⟩)]) (hs51.ownAt (k := 2) rfl) e18) ?_
   obtain ⟨r52, hr53, h54⟩ := bind_some h41
   refine Cl 68 24 35 #[(.tmp 67)] #[27] co_air_Join hs51 (c_air_Join N w50 F4 hs51.pers (hG.mono (((le10.trans le14).trans le32).trans le45)) (x2) _ hr53) ?_
   intro v55 F5 w56 hs57 le58 hp59
   obtain rfl := hp59
   refine V 66 24 (mv 68 (.tuple #[(.string ⟨(r52.1).toArray⟩), (vi r52.2)])) ?_
   refine V 69 9 (ex 66 0 (.string ⟨(r52.1).toArray⟩) (vs := #[(.string ⟨(r52.1).toArray⟩), (vi r52.2)])) ?_
   refine V 70 23 (ex 66 1 (vi r52.2) (vs := #[(.string ⟨(r52.1).toArray⟩), (vi r52.2)])) ?_
   refine V 12 9 (ma 69 (.string ⟨(r52.1).toArray⟩)) ?_
   refine V 13 23 (ma 70 (vi r52.2)) ?_
   refine Nss (Rg [0, 1, 2, 3, 4, 5, 6] ?_)
   refine V 72 27 (ld 27 5 b1 0 true 4 (.agg #[(.string ⟨(x2.Area).toArray⟩), (.string ⟨(x2.Prefix).toArray⟩), (.string ⟨(x2.Suffix).toArray⟩), (.string ⟨(x2.Stroke).toArray⟩)]) (hs57.ownAt (k := 2) rfl) e18) ?_
   obtain ⟨r60, hr61, h62⟩ := bind_some h54
   refine Cl 73 24 36 #[(.tmp 72)] #[27] co_ref01_Join hs57 (c_ref01_Join N w56 F5 hs57.pers (x2) _ hr61) ?_
   intro v63 F6 w64 hs65 le66 hp67
   obtain rfl := hp67
   refine V 71 24 (mv 73 (.tuple #[(.string ⟨(r60.1).toArray⟩), (vi r60.2)])) ?_
   refine V 74 9 (ex 71 0 (.string ⟨(r60.1).toArray⟩) (vs := #[(.string ⟨(r60.1).toArray⟩), (vi r60.2)])) ?_
   refine V 75 23 (ex 71 1 (vi r60.2) (vs := #[(.string ⟨(r60.1).toArray⟩), (vi r60.2)])) ?_
   refine V 14 9 (ma 74 (.string ⟨(r60.1).toArray⟩)) ?_
   refine V 15 23 (ma 75 (vi r60.2)) ?_
   refine Nss ?_
   refine Sq (Rg [0, 1, 2, 3, 4, 5, 6, 7, 8, 9, 10, 11, 12, 13, 14, 15, 16, 17, 18, 19, 20, 21, 22, 23, 24] ?_)
   obtain ⟨j71, hj77, h78⟩ := bind_some h62
   refine RWP.cut (fun f w => ∃ (F7 : Mem), HS w0 F0 w F7 [] ∧ Mem.le F6 F7 ∧ f.d = [] ∧ f 0 = (.string ⟨(x0).toArray⟩) ∧ f 1 = (.string ⟨(x1).toArray⟩) ∧ f 7 = (.bool r4) ∧ f 100 = (.bool j71)) ?_ ?_
   ·refine V 76 9 (mv 0 (.string ⟨(x0).toArray⟩) e16) ?_
    obtain ⟨r79, hr80, h81⟩ := bind_some hj77
    refine Cl 77 4 37 #[(.tmp 76)] #[9] co_air_ValidCall hs65 (c_air_ValidCall N w64 F6 hs65.pers (hG.mono (((((le10.trans le14).trans le32).trans le45).trans le58).trans le66)) (x0) _ hr80) ?_
    intro v82 F8 w83 hs84 le85 hp86
    obtain rfl := hp86
    refine V 78 9 (mv 0 (.string ⟨(x0).toArray⟩) e16) ?_
    obtain ⟨r87, hr88, h89⟩ := bind_some h81
    refine Cl 79 4 38 #[(.tmp 78)] #[9] co_ref01_ValidCall hs84 (c_ref01_ValidCall N w83 F8 hs84.pers (x0) _ hr88) ?_
    intro v90 F9 w91 hs92 le93 hp94
    obtain rfl := hp94
    refine V 80 4 (run_neb (t := 4) (t' := 4) (x := (.tmp 77)) (y := (.tmp 79)) (a := r79) (b := r87) rfl rfl (by kernel_rfl)) ?_
    refine V 81 4 (mv 80 (.bool (!(r79 == r87)))) ?_
    refine RWP.split (!(r79 == r87)) (fun hb95 => ?_) (fun hb95 => ?_)
    ·have h96 := cond_t h89 hb95
     refine Sk [82, 83, 84] 5 false 81 hb95 ?_
     refine V 85 4 (p1 81 (.const (.bool true)) (.tmp 84) (.bool true) hb95) ?_
     refine V 86 4 (mv 85 (.bool true)) ?_
     refine Sk [87, 88, 89] 10 false 86 rfl ?_
     refine V 90 4 (p1 86 (.const (.bool true)) (.tmp 89) (.bool true) rfl) ?_
     refine V 91 4 (mv 90 (.bool true)) ?_
     refine Sk [92, 93, 94] 15 false 91 rfl ?_
     refine V 95 4 (p1 91 (.const (.bool true)) (.tmp 94) (.bool true) rfl) ?_
     refine V 96 4 (mv 95 (.bool true)) ?_
     refine Sk [97, 98, 99] 20 false 96 rfl ?_
     refine V 100 4 (p1 96 (.const (.bool true)) (.tmp 99) (.bool true) rfl) ?_
     obtain rfl := some_inj h96
     have hs97 : HS w0 F0 w91 F9 [(sb b34 #[(.string ⟨(r26.1.Area).toArray⟩), (.string ⟨(r26.1.Prefix).toArray⟩), (.string ⟨(r26.1.Suffix).toArray⟩), (.string ⟨(r26.1.Stroke).toArray⟩)] 27), (sb b1 #[(.string ⟨(x2.Area).toArray⟩), (.string ⟨(x2.Prefix).toArray⟩), (.string ⟨(x2.Suffix).toArray⟩), (.string ⟨(x2.Stroke).toArray⟩)] 27)] := hs92.drop 0
     have hs98 : HS w0 F0 w91 F9 [(sb b1 #[(.string ⟨(x2.Area).toArray⟩), (.string ⟨(x2.Prefix).toArray⟩), (.string ⟨(x2.Suffix).toArray⟩), (.string ⟨(x2.Stroke).toArray⟩)] 27)] := hs97.drop 0
     have hs99 : HS w0 F0 w91 F9 [] := hs98.drop 0
     exact RWP.nil ⟨rfl, F9, hs99, (le85.trans le93), e15, e16, e17, e19, rfl⟩
    ·have h100 := cond_f h89 hb95
     refine Vg 82 27 5 false 81 hb95 (ld 27 8 b34 0 true 4 (.agg #[(.string ⟨(r26.1.Area).toArray⟩), (.string ⟨(r26.1.Prefix).toArray⟩), (.string ⟨(r26.1.Suffix).toArray⟩), (.string ⟨(r26.1.Stroke).toArray⟩)]) (hs92.ownAt (k := 1) rfl)) ?_
     refine Vg 83 27 5 false 81 hb95 (ld 27 10 b47 0 true 4 (.agg #[(.string ⟨(r39.1.Area).toArray⟩), (.string ⟨(r39.1.Prefix).toArray⟩), (.string ⟨(r39.1.Suffix).toArray⟩), (.string ⟨(r39.1.Stroke).toArray⟩)]) (hs92.ownAt (k := 0) rfl)) ?_
     refine Vg 84 4 5 false 81 hb95 (run_nes (t := 27) (t' := 27) (x := (.tmp 82)) (y := (.tmp 83)) (xs := #[(.string ⟨(r26.1.Area).toArray⟩), (.string ⟨(r26.1.Prefix).toArray⟩), (.string ⟨(r26.1.Suffix).toArray⟩), (.string ⟨(r26.1.Stroke).toArray⟩)]) (ys := #[(.string ⟨(r39.1.Area).toArray⟩), (.string ⟨(r39.1.Prefix).toArray⟩), (.string ⟨(r39.1.Suffix).toArray⟩), (.string ⟨(r39.1.Stroke).toArray⟩)]) (b := ((r26.1.Area == r39.1.Area) && ((r26.1.Prefix == r39.1.Prefix) && ((r26.1.Suffix == r39.1.Suffix) && ((r26.1.Stroke == r39.1.Stroke) && true))))) rfl rfl (by kernel_rfl) (by kernel_rfl)) ?_
     refine V 85 4 (p0 81 (.const (.bool true)) (.tmp 84) (.bool (!((r26.1.Area == r39.1.Area) && ((r26.1.Prefix == r39.1.Prefix) && ((r26.1.Suffix == r39.1.Suffix) && ((r26.1.Stroke == r39.1.Stroke) && true)))))) hb95) ?_
     refine V 86 4 (mv 85 (.bool (!((r26.1.Area == r39.1.Area) && ((r26.1.Prefix == r39.1.Prefix) && ((r26.1.Suffix == r39.1.Suffix) && ((r26.1.Stroke == r39.1.Stroke) && true))))))) ?_
     refine RWP.split (!((r26.1.Area == r39.1.Area) && ((r26.1.Prefix == r39.1.Prefix) && ((r26.1.Suffix == r39.1.Suffix) && ((r26.1.Stroke == r39.1.Stroke) && true))))) (fun hb101 => ?_) (fun hb101 => ?_)
     ·have h102 := cond_t h100 hb101
      refine Sk [87, 88, 89] 10 false 86 hb101 ?_
      refine V 90 4 (p1 86 (.const (.bool true)) (.tmp 89) (.bool true) hb101) ?_
      refine V 91 4 (mv 90 (.bool true)) ?_
      refine Sk [92, 93, 94] 15 false 91 rfl ?_
      refine V 95 4 (p1 91 (.const (.bool true)) (.tmp 94) (.bool true) rfl) ?_
      refine V 96 4 (mv 95 (.bool true)) ?_
      refine Sk [97, 98, 99] 20 false 96 rfl ?_
      refine V 100 4 (p1 96 (.const (.bool true)) (.tmp 99) (.bool true) rfl) ?_
      obtain rfl := some_inj h102
      have hs103 : HS w0 F0 w91 F9 [(sb b34 #[(.string ⟨(r26.1.Area).toArray⟩), (.string ⟨(r26.1.Prefix).toArray⟩), (.string ⟨(r26.1.Suffix).toArray⟩), (.string ⟨(r26.1.Stroke).toArray⟩)] 27), (sb b1 #[(.string ⟨(x2.Area).toArray⟩), (.string ⟨(x2.Prefix).toArray⟩), (.string ⟨(x2.Suffix).toArray⟩), (.string ⟨(x2.Stroke).toArray⟩)] 27)] := hs92.drop 0
      have hs104 : HS w0 F0 w91 F9 [(sb b1 #[(.string ⟨(x2.Area).toArray⟩), (.string ⟨(x2.Prefix).toArray⟩), (.string ⟨(x2.Suffix).toArray⟩), (.string ⟨(x2.Stroke).toArray⟩)] 27)] := hs103.drop 0
      have hs105 : HS w0 F0 w91 F9 [] := hs104.drop 0
      exact RWP.nil ⟨rfl, F9, hs105, (le85.trans le93), e15, e16, e17, e19, rfl⟩
     ·have h106 := cond_f h100 hb101
      refine Vg 87 23 10 false 86 hb101 (mv 9 (vi r26.2)) ?_
      refine Vg 88 23 10 false 86 hb101 (mv 11 (vi r39.2)) ?_
      refine Vg 89 4 10 false 86 hb101 (run_neq (t := 23) (t' := 23) (x := (.tmp 87)) (y := (.tmp 88)) (k := .i64) (a := r26.2) (b := r39.2) rfl rfl) ?_
      refine V 90 4 (p0 86 (.const (.bool true)) (.tmp 89) (.bool (r26.2 != r39.2)) hb101) ?_
      refine V 91 4 (mv 90 (.bool (r26.2 != r39.2))) ?_
      refine RWP.split (r26.2 != r39.2) (fun hb107 => ?_) (fun hb107 => ?_)
      ·have h108 := cond_t h106 hb107
       refine Sk [92, 93, 94] 15 false 91 hb107 ?_
       refine V 95 4 (p1 91 (.const (.bool true)) (.tmp 94) (.bool true) hb107) ?_
       refine V 96 4 (mv 95 (.bool true)) ?_
       refine Sk [97, 98, 99] 20 false 96 rfl ?_
       refine V 100 4 (p1 96 (.const (.bool true)) (.tmp 99) (.bool true) rfl) ?_
       obtain rfl := some_inj h108
       have hs109 : HS w0 F0 w91 F9 [(sb b34 #[(.string ⟨(r26.1.Area).toArray⟩), (.string ⟨(r26.1.Prefix).toArray⟩), (.string ⟨(r26.1.Suffix).toArray⟩), (.string ⟨(r26.1.Stroke).toArray⟩)] 27), (sb b1 #[(.string ⟨(x2.Area).toArray⟩), (.string ⟨(x2.Prefix).toArray⟩), (.string ⟨(x2.Suffix).toArray⟩), (.string ⟨(x2.Stroke).toArray⟩)] 27)] := hs92.drop 0
       have hs110 : HS w0 F0 w91 F9 [(sb b1 #[(.string ⟨(x2.Area).toArray⟩), (.string ⟨(x2.Prefix).toArray⟩), (.string ⟨(x2.Suffix).toArray⟩), (.string ⟨(x2.Stroke).toArray⟩)] 27)] := hs109.drop 0
       have hs111 : HS w0 F0 w91 F9 [] := hs110.drop 0
       exact RWP.nil ⟨rfl, F9, hs111, (le85.trans le93), e15, e16, e17, e19, rfl⟩
      ·have h112 := cond_f h106 hb107
       refine Vg 92 9 15 false 91 hb107 (mv 12 (.string ⟨(r52.1).toArray⟩)) ?_
       refine Vg 93 9 15 false 91 hb107 (mv 14 (.string ⟨(r60.1).toArray⟩)) ?_
       refine Vg 94 4 15 false 91 hb107 (run_scmp (t := 9) (t' := 9) (x := (.tmp 92)) (y := (.tmp 93)) (op := .neq) (a := r52.1) (b := r60.1) (v := (r52.1 != r60.1)) rfl rfl rfl) ?_
       refine V 95 4 (p0 91 (.const (.bool true)) (.tmp 94) (.bool (r52.1 != r60.1)) hb107) ?_
       refine V 96 4 (mv 95 (.bool (r52.1 != r60.1))) ?_
       refine RWP.split (r52.1 != r60.1) (fun hb113 => ?_) (fun hb113 => ?_)
       ·have h114 := cond_t h112 hb113
        refine Sk [97, 98, 99] 20 false 96 hb113 ?_
        refine V 100 4 (p1 96 (.const (.bool true)) (.tmp 99) (.bool true) hb113) ?_
        obtain rfl := some_inj h114
        have hs115 : HS w0 F0 w91 F9 [(sb b34 #[(.string ⟨(r26.1.Area).toArray⟩), (.string ⟨(r26.1.Prefix).toArray⟩), (.string ⟨(r26.1.Suffix).toArray⟩), (.string ⟨(r26.1.Stroke).toArray⟩)] 27), (sb b1 #[(.string ⟨(x2.Area).toArray⟩), (.string ⟨(x2.Prefix).toArray⟩), (.string ⟨(x2.Suffix).toArray⟩), (.string ⟨(x2.Stroke).toArray⟩)] 27)] := hs92.drop 0
        have hs116 : HS w0 F0 w91 F9 [(sb b1 #[(.string ⟨(x2.Area).toArray⟩), (.string ⟨(x2.Prefix).toArray⟩), (.string ⟨(x2.Suffix).toArray⟩), (.string ⟨(x2.Stroke).toArray⟩)] 27)] := hs115.drop 0
        have hs117 : HS w0 F0 w91 F9 [] := hs116.drop 0
        exact RWP.nil ⟨rfl, F9, hs117, (le85.trans le93), e15, e16, e17, e19, rfl⟩
       ·have h118 := cond_f h112 hb113
        refine Vg 97 23 20 false 96 hb113 (mv 13 (vi r52.2)) ?_
        refine Vg 98 23 20 false 96 hb113 (mv 15 (vi r60.2)) ?_
        refine Vg 99 4 20 false 96 hb113 (run_neq (t := 23) (t' := 23) (x := (.tmp 97)) (y := (.tmp 98)) (k := .i64) (a := r52.2) (b := r60.2) rfl rfl) ?_
        refine V 100 4 (p0 96 (.const (.bool true)) (.tmp 99) (.bool (r52.2 != r60.2)) hb113) ?_
        obtain rfl := some_inj h118
        have hs119 : HS w0 F0 w91 F9 [(sb b34 #[(.string ⟨(r26.1.Area).toArray⟩), (.string ⟨(r26.1.Prefix).toArray⟩), (.string ⟨(r26.1.Suffix).toArray⟩), (.string ⟨(r26.1.Stroke).toArray⟩)] 27), (sb b1 #[(.string ⟨(x2.Area).toArray⟩), (.string ⟨(x2.Prefix).toArray⟩), (.string ⟨(x2.Suffix).toArray⟩), (.string ⟨(x2.Stroke).toArray⟩)] 27)] := hs92.drop 0
        have hs120 : HS w0 F0 w91 F9 [(sb b1 #[(.string ⟨(x2.Area).toArray⟩), (.string ⟨(x2.Prefix).toArray⟩), (.string ⟨(x2.Suffix).toArray⟩), (.string ⟨(x2.Stroke).toArray⟩)] 27)] := hs119.drop 0
        have hs121 : HS w0 F0 w91 F9 [] := hs120.drop 0
        exact RWP.nil ⟨rfl, F9, hs121, (le85.trans le93), e15, e16, e17, e19, rfl⟩
   ·rintro f w68 ⟨F7, hs69, le70, e72, e73, e74, e75, e76⟩
    refine thenQ_nrm ?_
    refine CWP.cond (t := j71) (by kernel_rfl) e76 (fun hb122 => ?_) (fun hb122 => ?_)
    ·have h123 := cond_t h78 hb122
     refine Sq (Rg [0] ?_)
     refine V 6 4 (mc (.bool false) (.bool false)) ?_
     refine Nt ?_
     refine CWP.ret (by kernel_rfl) ?_
     refine thenQ_ret ?_
     have hfin := some_inj h123
     subst hfin
     exact ⟨e72, (.bool false), res_of (l := [.tmp 6]) (by kernel_rfl) (vs := [(.bool false)]) ⟨rfl, trivial⟩, (.bool false), F7, rfl, hs69.clear, rfl⟩
    ·have h124 := cond_f h78 hb122
     refine Sc ?_
     refine thenQ_nrm ?_
     refine Sq (Rg [0, 1, 2, 3, 4, 5, 6] ?_)
     refine V 102 9 (mv 0 (.string ⟨(x0).toArray⟩) e73) ?_
     obtain ⟨r125, hr126, h127⟩ := bind_some h124
     refine Cl 103 24 39 #[(.tmp 102)] #[9] co_air_Base hs69 (c_air_Base N w68 F7 hs69.pers (hG.mono ((((((le10.trans le14).trans le32).trans le45).trans le58).trans le66).trans le70)) (x0) _ hr126) ?_
     intro v128 F10 w129 hs130 le131 hp132
     obtain rfl := hp132
     refine V 101 24 (mv 103 (.tuple #[(.string ⟨(r125.1).toArray⟩), (vi r125.2)])) ?_
     refine V 104 9 (ex 101 0 (.string ⟨(r125.1).toArray⟩) (vs := #[(.string ⟨(r125.1).toArray⟩), (vi r125.2)])) ?_
     refine V 105 23 (ex 101 1 (vi r125.2) (vs := #[(.string ⟨(r125.1).toArray⟩), (vi r125.2)])) ?_
     refine V 16 9 (ma 104 (.string ⟨(r125.1).toArray⟩)) ?_
     refine V 17 23 (ma 105 (vi r125.2)) ?_
     refine Nss (Rg [0, 1, 2, 3, 4, 5, 6] ?_)
     refine V 107 9 (mv 0 (.string ⟨(x0).toArray⟩) e73) ?_
     obtain ⟨r133, hr134, h135⟩ := bind_some h127
     refine Cl 108 24 40 #[(.tmp 107)] #[9] co_ref01_Base hs130 (c_ref01_Base N w129 F10 hs130.pers (x0) _ hr134) ?_
     intro v136 F11 w137 hs138 le139 hp140
     obtain rfl := hp140
     refine V 106 24 (mv 108 (.tuple #[(.string ⟨(r133.1).toArray⟩), (vi r133.2)])) ?_
     refine V 109 9 (ex 106 0 (.string ⟨(r133.1).toArray⟩) (vs := #[(.string ⟨(r133.1).toArray⟩), (vi r133.2)])) ?_
     refine V 110 23 (ex 106 1 (vi r133.2) (vs := #[(.string ⟨(r133.1).toArray⟩), (vi r133.2)])) ?_
     refine V 18 9 (ma 109 (.string ⟨(r133.1).toArray⟩)) ?_
     refine V 19 23 (ma 110 (vi r133.2)) ?_
     refine Nss (Rg [0, 1, 2, 3, 4, 5, 6, 7] ?_)
     refine V 112 9 (mv 0 (.string ⟨(x0).toArray⟩) e73) ?_
     refine V 113 9 (mv 1 (.string ⟨(x1).toArray⟩) e74) ?_
     obtain ⟨r141, hr142, h143⟩ := bind_some h135
     refine Cl 114 46 41 #[(.tmp 112), (.tmp 113)] #[9, 9] co_air_Same hs138 (c_air_Same N w137 F11 hs138.pers (hG.mono ((((((((le10.trans le14).trans le32).trans le45).trans le58).trans le66).trans le70).trans le131).trans le139)) (x0) (x1) _ hr142) ?_
     intro v144 F12 w145 hs146 le147 hp148
     obtain rfl := hp148
     refine V 111 46 (mv 114 (.tuple #[(.bool r141.1), (vi r141.2)])) ?_
     refine V 115 4 (ex 111 0 (.bool r141.1) (vs := #[(.bool r141.1), (vi r141.2)])) ?_
     refine V 116 23 (ex 111 1 (vi r141.2) (vs := #[(.bool r141.1), (vi r141.2)])) ?_
     refine V 20 4 (ma 115 (.bool r141.1)) ?_
     refine V 21 23 (ma 116 (vi r141.2)) ?_
     refine Nss (Rg [0, 1, 2, 3, 4, 5, 6, 7] ?_)
     refine V 118 9 (mv 0 (.string ⟨(x0).toArray⟩) e73) ?_
     refine V 119 9 (mv 1 (.string ⟨(x1).toArray⟩) e74) ?_
     obtain ⟨r149, hr150, h151⟩ := bind_some h143
     refine Cl 120 46 42 #[(.tmp 118), (.tmp 119)] #[9, 9] co_ref01_Same hs146 (c_ref01_Same N w145 F12 hs146.pers (x0) (x1) _ hr150) ?_
     intro v152 F13 w153 hs154 le155 hp156
     obtain rfl := hp156
     refine V 117 46 (mv 120 (.tuple #[(.bool r149.1), (vi r149.2)])) ?_
     refine V 121 4 (ex 117 0 (.bool r149.1) (vs := #[(.bool r149.1), (vi r149.2)])) ?_
     refine V 122 23 (ex 117 1 (vi r149.2) (vs := #[(.bool r149.1), (vi r149.2)])) ?_
     refine V 22 4 (ma 121 (.bool r149.1)) ?_
     refine V 23 23 (ma 122 (vi r149.2)) ?_
     refine Nss (Rg [0, 1, 2, 3, 4, 5, 6] ?_)
     refine V 124 9 (mv 0 (.string ⟨(x0).toArray⟩) e73) ?_
     obtain ⟨r157, hr158, h159⟩ := bind_some h151
     refine Cl 125 24 18 #[(.tmp 124)] #[9] co_air_PrefixOf hs154 (c_air_PrefixOf N w153 F13 hs154.pers (hG.mono ((((((((((le10.trans le14).trans le32).trans le45).trans le58).trans le66).trans le70).trans le131).trans le139).trans le147).trans le155)) (x0) _ hr158) ?_
     intro v160 F14 w161 hs162 le163 hp164
     obtain rfl := hp164
     refine V 123 24 (mv 125 (.tuple #[(.string ⟨(r157.1).toArray⟩), (vi r157.2)])) ?_
     refine V 126 9 (ex 123 0 (.string ⟨(r157.1).toArray⟩) (vs := #[(.string ⟨(r157.1).toArray⟩), (vi r157.2)])) ?_
     refine V 127 23 (ex 123 1 (vi r157.2) (vs := #[(.string ⟨(r157.1).toArray⟩), (vi r157.2)])) ?_
     refine V 24 9 (ma 126 (.string ⟨(r157.1).toArray⟩)) ?_
     refine V 25 23 (ma 127 (vi r157.2)) ?_
     refine Nss (Rg [0, 1, 2, 3, 4, 5, 6] ?_)
     refine V 129 9 (mv 0 (.string ⟨(x0).toArray⟩) e73) ?_
     obtain ⟨r165, hr166, h167⟩ := bind_some h159
     refine Cl 130 24 43 #[(.tmp 129)] #[9] co_ref01_PrefixOf hs162 (c_ref01_PrefixOf N w161 F14 hs162.pers (x0) _ hr166) ?_
     intro v168 F15 w169 hs170 le171 hp172
     obtain rfl := hp172
     refine V 128 24 (mv 130 (.tuple #[(.string ⟨(r165.1).toArray⟩), (vi r165.2)])) ?_
     refine V 131 9 (ex 128 0 (.string ⟨(r165.1).toArray⟩) (vs := #[(.string ⟨(r165.1).toArray⟩), (vi r165.2)])) ?_
     refine V 132 23 (ex 128 1 (vi r165.2) (vs := #[(.string ⟨(r165.1).toArray⟩), (vi r165.2)])) ?_
     refine V 26 9 (ma 131 (.string ⟨(r165.1).toArray⟩)) ?_
     refine V 27 23 (ma 132 (vi r165.2)) ?_
     refine Nss (Rg [0, 1, 2, 3, 4, 5, 6, 7, 8, 9, 10, 11, 12, 13, 14, 15, 16, 17, 18, 19, 20, 21, 22, 23, 24, 25, 26, 27, 28, 29, 30, 31] ?_)
     refine RWP.cut (fun f w => ∃ (F16 : Mem), HS w0 F0 w F16 [] ∧ Mem.le F15 F16 ∧ f.d = [] ∧ f 6 = (.bool (r4 && ((r125.1 == r133.1) && ((r125.2 == r133.2) && ((r141.1 == r149.1) && ((r141.2 == r149.2) && ((r157.1 == r165.1) && (r157.2 == r165.2))))))))) ?_ ?_
     ·refine V 133 4 (mv 7 (.bool r4) e75) ?_
      refine V 134 4 (mv 133 (.bool r4)) ?_
      refine RWP.split r4 (fun hb178 => ?_) (fun hb178 => ?_)
      ·refine Vg 135 9 1 true 134 hb178 (mv 16 (.string ⟨(r125.1).toArray⟩)) ?_
       refine Vg 136 9 1 true 134 hb178 (mv 18 (.string ⟨(r133.1).toArray⟩)) ?_
       refine Vg 137 4 1 true 134 hb178 (run_scmp (t := 9) (t' := 9) (x := (.tmp 135)) (y := (.tmp 136)) (op := .eql) (a := r125.1) (b := r133.1) (v := (r125.1 == r133.1)) rfl rfl rfl) ?_
       refine V 138 4 (p1 134 (.tmp 137) (.const (.bool false)) (.bool (r125.1 == r133.1)) hb178) ?_
       refine V 139 4 (mv 138 (.bool (r125.1 == r133.1))) ?_
       refine RWP.split (r125.1 == r133.1) (fun hb179 => ?_) (fun hb179 => ?_)
       ·refine Vg 140 23 6 true 139 hb179 (mv 17 (vi r125.2)) ?_
        refine Vg 141 23 6 true 139 hb179 (mv 19 (vi r133.2)) ?_
        refine Vg 142 4 6 true 139 hb179 (run_eql (t := 23) (t' := 23) (x := (.tmp 140)) (y := (.tmp 141)) (k := .i64) (a := r125.2) (b := r133.2) rfl rfl) ?_
        refine V 143 4 (p1 139 (.tmp 142) (.const (.bool false)) (.bool (r125.2 == r133.2)) hb179) ?_
        refine V 144 4 (mv 143 (.bool (r125.2 == r133.2))) ?_
        refine RWP.split (r125.2 == r133.2) (fun hb180 => ?_) (fun hb180 => ?_)
        ·refine Vg 145 4 11 true 144 hb180 (mv 20 (.bool r141.1)) ?_
         refine Vg 146 4 11 true 144 hb180 (mv 22 (.bool r149.1)) ?_
         refine Vg 147 4 11 true 144 hb180 (run_eqb (t := 4) (t' := 4) (x := (.tmp 145)) (y := (.tmp 146)) (a := r141.1) (b := r149.1) rfl rfl (by kernel_rfl)) ?_
         refine V 148 4 (p1 144 (.tmp 147) (.const (.bool false)) (.bool (r141.1 == r149.1)) hb180) ?_
         refine V 149 4 (mv 148 (.bool (r141.1 == r149.1))) ?_
         refine RWP.split (r141.1 == r149.1) (fun hb181 => ?_) (fun hb181 => ?_)
         ·refine Vg 150 23 16 true 149 hb181 (mv 21 (vi r141.2)) ?_
          refine Vg 151 23 16 true 149 hb181 (mv 23 (vi r149.2)) ?_
          refine Vg 152 4 16 true 149 hb181 (run_eql (t := 23) (t' := 23) (x := (.tmp 150)) (y := (.tmp 151)) (k := .i64) (a := r141.2) (b := r149.2) rfl rfl) ?_
          refine V 153 4 (p1 149 (.tmp 152) (.const (.bool false)) (.bool (r141.2 == r149.2)) hb181) ?_
          refine V 154 4 (mv 153 (.bool (r141.2 == r149.2))) ?_
          refine RWP.split (r141.2 == r149.2) (fun hb182 => ?_) (fun hb182 => ?_)
          ·refine Vg 155 9 21 true 154 hb182 (mv 24 (.string ⟨(r157.1).toArray⟩)) ?_
           refine Vg 156 9 21 true 154 hb182 (mv 26 (.string ⟨(r165.1).toArray⟩)) ?_
           refine Vg 157 4 21 true 154 hb182 (run_scmp (t := 9) (t' := 9) (x := (.tmp 155)) (y := (.tmp 156)) (op := .eql) (a := r157.1) (b := r165.1) (v := (r157.1 == r165.1)) rfl rfl rfl) ?_
           refine V 158 4 (p1 154 (.tmp 157) (.const (.bool false)) (.bool (r157.1 == r165.1)) hb182) ?_
           refine V 159 4 (mv 158 (.bool (r157.1 == r165.1))) ?_
           refine RWP.split (r157.1 == r165.1) (fun hb183 => ?_) (fun hb183 => ?_)
           ·refine Vg 160 23 26 true 159 hb183 (mv 25 (vi r157.2)) ?_
            refine Vg 161 23 26 true 159 hb183 (mv 27 (vi r165.2)) ?_
            refine Vg 162 4 26 true 159 hb183 (run_eql (t := 23) (t' := 23) (x := (.tmp 160)) (y := (.tmp 161)) (k := .i64) (a := r157.2) (b := r165.2) rfl rfl) ?_
            refine V 163 4 (p1 159 (.tmp 162) (.const (.bool false)) (.bool (r157.2 == r165.2)) hb183) ?_
            refine V 6 4 (ma 163 (.bool (r157.2 == r165.2))) ?_
            exact RWP.nil ⟨rfl, F15, hs170, (Mem.le.refl _), e72, (congrArg Value.bool (and_t hb178 (and_t hb179 (and_t hb180 (and_t hb181 (and_t hb182 (and_t hb183 (rfl))))))))⟩
           ·refine Sk [160, 161, 162] 26 true 159 hb183 ?_
            refine V 163 4 (p0 159 (.tmp 162) (.const (.bool false)) (.bool false) hb183) ?_
            refine V 6 4 (ma 163 (.bool false)) ?_
            exact RWP.nil ⟨rfl, F15, hs170, (Mem.le.refl _), e72, (congrArg Value.bool (and_t hb178 (and_t hb179 (and_t hb180 (and_t hb181 (and_t hb182 (and_f hb183 (rfl))))))))⟩
          ·refine Sk [155, 156, 157] 21 true 154 hb182 ?_
           refine V 158 4 (p0 154 (.tmp 157) (.const (.bool false)) (.bool false) hb182) ?_
           refine V 159 4 (mv 158 (.bool false)) ?_
           refine Sk [160, 161, 162] 26 true 159 rfl ?_
           refine V 163 4 (p0 159 (.tmp 162) (.const (.bool false)) (.bool false) rfl) ?_
           refine V 6 4 (ma 163 (.bool false)) ?_
           exact RWP.nil ⟨rfl, F15, hs170, (Mem.le.refl _), e72, (congrArg Value.bool (and_t hb178 (and_t hb179 (and_t hb180 (and_t hb181 (and_f hb182 (rfl)))))))⟩
         ·refine Sk [150, 151, 152] 16 true 149 hb181 ?_
          refine V 153 4 (p0 149 (.tmp 152) (.const (.bool false)) (.bool false) hb181) ?_
          refine V 154 4 (mv 153 (.bool false)) ?_
          refine Sk [155, 156, 157] 21 true 154 rfl ?_
          refine V 158 4 (p0 154 (.tmp 157) (.const (.bool false)) (.bool false) rfl) ?_
          refine V 159 4 (mv 158 (.bool false)) ?_
          refine Sk [160, 161, 162] 26 true 159 rfl ?_
          refine V 163 4 (p0 159 (.tmp 162) (.const (.bool false)) (.bool false) rfl) ?_
          refine V 6 4 (ma 163 (.bool false)) ?_
          exact RWP.nil ⟨rfl, F15, hs170, (Mem.le.refl _), e72, (congrArg Value.bool (and_t hb178 (and_t hb179 (and_t hb180 (and_f hb181 (rfl))))))⟩
        ·refine Sk [145, 146, 147] 11 true 144 hb180 ?_
         refine V 148 4 (p0 144 (.tmp 147) (.const (.bool false)) (.bool false) hb180) ?_
         refine V 149 4 (mv 148 (.bool false)) ?_
         refine Sk [150, 151, 152] 16 true 149 rfl ?_
         refine V 153 4 (p0 149 (.tmp 152) (.const (.bool false)) (.bool false) rfl) ?_
         refine V 154 4 (mv 153 (.bool false)) ?_
         refine Sk [155, 156, 157] 21 true 154 rfl ?_
         refine V 158 4 (p0 154 (.tmp 157) (.const (.bool false)) (.bool false) rfl) ?_
         refine V 159 4 (mv 158 (.bool false)) ?_
         refine Sk [160, 161, 162] 26 true 159 rfl ?_
         refine V 163 4 (p0 159 (.tmp 162) (.const (.bool false)) (.bool false) rfl) ?_
         refine V 6 4 (ma 163 (.bool false)) ?_
         exact RWP.nil ⟨rfl, F15, hs170, (Mem.le.refl _), e72, (congrArg Value.bool (and_t hb178 (and_t hb179 (and_f hb180 (rfl)))))⟩
       ·refine Sk [140, 141, 142] 6 true 139 hb179 ?_
        refine V 143 4 (p0 139 (.tmp 142) (.const (.bool false)) (.bool false) hb179) ?_
        refine V 144 4 (mv 143 (.bool false)) ?_
        refine Sk [145, 146, 147] 11 true 144 rfl ?_
        refine V 148 4 (p0 144 (.tmp 147) (.const (.bool false)) (.bool false) rfl) ?_
        refine V 149 4 (mv 148 (.bool false)) ?_
        refine Sk [150, 151, 152] 16 true 149 rfl ?_
        refine V 153 4 (p0 149 (.tmp 152) (.const (.bool false)) (.bool false) rfl) ?_
        refine V 154 4 (mv 153 (.bool false)) ?_
        refine Sk [155, 156, 157] 21 true 154 rfl ?_
        refine V 158 4 (p0 154 (.tmp 157) (.const (.bool false)) (.bool false) rfl) ?_
        refine V 159 4 (mv 158 (.bool false)) ?_
        refine Sk [160, 161, 162] 26 true 159 rfl ?_
        refine V 163 4 (p0 159 (.tmp 162) (.const (.bool false)) (.bool false) rfl) ?_
        refine V 6 4 (ma 163 (.bool false)) ?_
        exact RWP.nil ⟨rfl, F15, hs170, (Mem.le.refl _), e72, (congrArg Value.bool (and_t hb178 (and_f hb179 (rfl))))⟩
      ·refine Sk [135, 136, 137] 1 true 134 hb178 ?_
       refine V 138 4 (p0 134 (.tmp 137) (.const (.bool false)) (.bool false) hb178) ?_
       refine V 139 4 (mv 138 (.bool false)) ?_
       refine Sk [140, 141, 142] 6 true 139 rfl ?_
       refine V 143 4 (p0 139 (.tmp 142) (.const (.bool false)) (.bool false) rfl) ?_
       refine V 144 4 (mv 143 (.bool false)) ?_
       refine Sk [145, 146, 147] 11 true 144 rfl ?_
       refine V 148 4 (p0 144 (.tmp 147) (.const (.bool false)) (.bool false) rfl) ?_
       refine V 149 4 (mv 148 (.bool false)) ?_
       refine Sk [150, 151, 152] 16 true 149 rfl ?_
       refine V 153 4 (p0 149 (.tmp 152) (.const (.bool false)) (.bool false) rfl) ?_
       refine V 154 4 (mv 153 (.bool false)) ?_
       refine Sk [155, 156, 157] 21 true 154 rfl ?_
       refine V 158 4 (p0 154 (.tmp 157) (.const (.bool false)) (.bool false) rfl) ?_
       refine V 159 4 (mv 158 (.bool false)) ?_
       refine Sk [160, 161, 162] 26 true 159 rfl ?_
       refine V 163 4 (p0 159 (.tmp 162) (.const (.bool false)) (.bool false) rfl) ?_
       refine V 6 4 (ma 163 (.bool false)) ?_
       exact RWP.nil ⟨rfl, F15, hs170, (Mem.le.refl _), e72, (congrArg Value.bool (and_f hb178 (rfl)))⟩
     ·rintro f w173 ⟨F16, hs174, le175, e176, e177⟩
      refine thenQ_nrm ?_
      refine CWP.ret (by kernel_rfl) ?_
      have hfin := some_inj h167
      subst hfin
      exact ⟨e176, (.bool (r4 && ((r125.1 == r133.1) && ((r125.2 == r133.2) && ((r141.1 == r149.1) && ((r141.2 == r149.2) && ((r157.1 == r165.1) && (r157.2 == r165.2)))))))), res_of (l := [.tmp 6]) (by kernel_rfl) (vs := [(.bool (r4 && ((r125.1 == r133.1) && ((r125.2 == r133.2) && ((r141.1 == r149.1) && ((r141.2 == r149.2) && ((r157.1 == r165.1) && (r157.2 == r165.2))))))))]) ⟨e177, trivial⟩, (.bool (r4 && ((r125.1 == r133.1) && ((r125.2 == r133.2) && ((r141.1 == r149.1) && ((r141.2 == r149.2) && ((r157.1 == r165.1) && (r157.2 == r165.2)))))))), F16, rfl, hs174.clear, rfl⟩
end Go.Proofs.YtlddakefmfcblaaGreatDoor
namespace Go.Proofs.YtlddakefmfcblaaGreatDoor
open Go.Proofs
end Go.Proofs.YtlddakefmfcblaaGreatDoor
namespace Go.Proofs.YtlddakefmfcblaaGreatDoor
open Go.Proofs
end Go.Proofs.YtlddakefmfcblaaGreatDoor
namespace Go.Proofs.YtlddakefmfcblaaGreatDoor
section
variable {N : Nat}
theorem calls_eqs (s u : List UInt8) (p : Parts) (hp : rS p.Area ∧ rS p.Prefix ∧ rS p.Suffix ∧ rS p.Stroke) (hN : 4294967300 < N) : law01_AirCalls N s u p = some true := by
 unfold law01_AirCalls
 rw [awake_true hN, Option.bind_some]
 obtain ⟨q1, q2, q3, q4⟩ := hp
 unfold rS at q1 q2 q3 q4
 rw [W64_id (n := (p.Area.length : Int) + (p.Prefix.length : Int)) (by omega) (by omega), W64_id (n := (p.Area.length : Int) + (p.Prefix.length : Int) + (p.Suffix.length : Int)) (by omega) (by omega), W64_id (by omega) (by omega)]
 cases hg : ((decide ((s.length : Int) > 1000)) || ((decide ((u.length : Int) > 1000)) || (decide ((p.Area.length : Int) + (p.Prefix.length : Int) + (p.Suffix.length : Int) + (p.Stroke.length : Int) > 1000)))) with
 | true => rfl
 | false =>
  simp only [Bool.or_eq_false_iff, decide_eq_false_iff_not] at hg
  have hsp : shortP p := ⟨by omega, by omega, by omega, by omega⟩
  rw [cond_false]
  simp only [s_Split _ hN, s_rSplit _ hN, s_Join p hsp hN, s_rJoin p hsp hN, s_Valid _ hN, s_rValid _ hN, s_Base _ hN, s_rBase _ hN, s_Same _ _ hN, s_rSame _ _ hN, s_PrefixOf _ hN, s_rPrefixOf _ hN, Option.bind_some]
  simp
structure GoodP (p : List UInt8) : Prop where
 all : p.all isE = true
 letter : p.any isL = true
 last : lastD p = true
theorem GoodP.len {p : List UInt8} (h : GoodP p) : 2 ≤ p.length := by
 match p, h with
 | [], h => have := h.letter; cases this
 | [b], h =>
  have h1 := h.letter
  have h2 := h.last
  simp at h1
  have h3 : lastD [b] = isD b := rfl
  rw [h3, isLD h1] at h2; cases h2
 | _ :: _ :: _, _ => simp
end
theorem airCalls_row (x0 x1 : List UInt8) (x2 : Parts) (_ : rS x0) (_ : rS x1) (q : qParts x2) : law01_AirCalls 9223372036854775808 x0 x1 x2 = some true := calls_eqs x0 x1 x2 q (by omega)
end Go.Proofs.YtlddakefmfcblaaGreatDoor
namespace Go.Proofs.YtlddakefmfcblaaGreatDoor
open Go.ChangeShapes Go.WideShapes Go.ChangeAt Go.RowKit
set_option maxRecDepth 100000 in
theorem lifted_airCalls (os : Os) (started : os.Started) (H : Type) (enc : TypeId × Value → H) :
  ReturnsInHanded {} Tryz.checked os 7 .any (fun w args => (Rows.airCallsSpec.pre enc Tryz.prog Tryz.f7 Rows.airCallsRow.domain false w args ∧ laidMetH Tryz.prog Rows.airCallsRow.laid w) ∧ sizedMet enc Tryz.prog Tryz.f7 (OpenSpec.ofChange Rows.airCallsSpec) false w args) (Rows.airCallsSpec.post enc Tryz.prog Tryz.f7 false true false false) := by
 refine handed_laid (C := Tryz.checked) (X := fun w _ => laidMetH Tryz.prog laid7 w) (fun _ _ _ hh h => h.of_heap hh) own_knob started (by kernel_rfl) Tryz.func7
  (ChangeSpec.witness_shaped (enc := enc) (C := Tryz.checked) (os := os) (X := fun w _ => laidMetH Tryz.prog laid7 w) false (World.laidAll Tryz.prog os laid7) #[.string ByteArray.empty, .string ByteArray.empty, .agg #[.string ByteArray.empty, .string ByteArray.empty, .string ByteArray.empty, .string ByteArray.empty]] 8 (World.laidAll_os _ _ _)
   (World.shaped_of_ZipB (by kernel_rfl) (by kernel_rfl)) (by kernel_rfl) (by kernel_rfl) (by kernel_rfl) (door_met7 os _)) ?_
 intro W base args ds gs before hval0 hW hsz hL hsh
 have hval : ∀ (j : Nat) t v, Tryz.f7.params[j]? = some t → args[j]? = some v → Value.okWide Tryz.prog W .any base t v := hval0
 have hW' := hW
 obtain ⟨p, q, hA0, hV, rfl, hfz, hnd⟩ := hW
 have hA : DataW.TrodAll enc Tryz.prog W 0 (fun _ => true) true Tryz.f7.params.toList args.toList ds p := hA0
 rw [Tryz.params7] at hA hval
 obtain ⟨v0, vs0, d0, ds0, p0, q0, hargs, rfl, rfl, h0, r0⟩ := trodAll_cons hA
 obtain ⟨v1, vs1, d1, ds1, p1, q1, rfl, rfl, rfl, h1, r1⟩ := trodAll_cons r0
 obtain ⟨v2, vs2, d2, ds2, p2, q2, rfl, rfl, rfl, h2, r2⟩ := trodAll_cons r1
 obtain ⟨rfl, rfl, rfl⟩ := trodAll_nil r2
 obtain rfl : args = #[v0, v1, v2] := by cases args; simp_all
 have z0 : SzW Tryz.prog 9 d0 := SzW.each hsz (j := 0) (by kernel_rfl) rfl
 obtain ⟨x0, R0, Q0⟩ := Opens.one (opens_str (t := 9) (by kernel_rfl) (by kernel_rfl) : Opens Tryz.prog 9 tStr rS) (by kernel_rfl) (hval 0 9 v0 rfl rfl) h0 z0
 have e0 : [v0] = [.string ⟨x0.toArray⟩] := R0
 cases e0
 have z1 : SzW Tryz.prog 9 d1 := SzW.each hsz (j := 1) (by kernel_rfl) rfl
 obtain ⟨x1, R1, Q1⟩ := Opens.one (opens_str (t := 9) (by kernel_rfl) (by kernel_rfl) : Opens Tryz.prog 9 tStr rS) (by kernel_rfl) (hval 1 9 v1 rfl rfl) h1 z1
 have e1 : [v1] = [.string ⟨x1.toArray⟩] := R1
 cases e1
 have z2 : SzW Tryz.prog 27 d2 := SzW.each hsz (j := 2) (by kernel_rfl) rfl
 obtain ⟨cs2, x2, rfl, R2, Q2⟩ := Opens.agg opens_Parts_27 (by kernel_rfl) (hval 2 27 v2 rfl rfl) h2 z2
 have e2 := R2
 obtain rfl : cs2 = #[.string ⟨(x2.Area).toArray⟩, .string ⟨(x2.Prefix).toArray⟩, .string ⟨(x2.Suffix).toArray⟩, .string ⟨(x2.Stroke).toArray⟩] := Array.ext' (by exact e2)
 refine (c_law01_AirCalls 9223372036854775808 W (memOf W) (fun _ _ h => h) (glob_of hL hsh) x0 x1 x2 true (airCalls_row x0 x1 x2 Q0 Q1 Q2)).mono fun e W' he => ?_
 obtain ⟨r, F', rfl, hs, rfl⟩ := he
 refine ⟨_, rfl, post_grown (by kernel_rfl) (tb := 4) ?_ rfl hW' (by kernel_rfl) (by kernel_rfl) ?_ hs⟩
 ·intro t ht
  rw [Tryz.params7] at ht
  simp only [List.mem_cons, List.not_mem_nil, or_false] at ht
  rcases ht with rfl | rfl | rfl <;> exact ⟨by kernel_rfl, by decide +kernel⟩
 ·intro _; rfl
theorem airCalls_row_holds : Rows.AirCallsSaid :=
 OpenClaim.holds_of_wide 7 Tryz.f7 rfl rfl rfl rfl rfl rfl rfl ⟨rfl, rfl, rfl, rfl, rfl⟩ rfl rfl rfl rfl rfl (by kernel_rfl) Tryz.func7 (by kernel_rfl)
  (of_decide_eq_true (by kernel_rfl)) (by unfold Func.isWrapper; first | (rw [if_pos (by decide +kernel)]; kernel_rfl) | (rw [if_neg (by decide +kernel)]; exact ⟨rfl, rfl⟩))
  (fun os started H enc _ => lifted_airCalls os started H enc)
theorem airCalls_proved : Rows.AirCallsCardSaid :=
 Claim7.holds_tied_plain_at .later [] [.data, .data, .data, .data, .sentinel, .sentinel, .pinned] true (true, "e13dca8d4619a64a69fa99222db8f18b16b74485258a6a257541940742401f67") true airCalls_row_holds (fun _ h => by cases h) (by kernel_rfl) (fun _ h => by cases h) airCalls_row_tie rfl ⟨rfl, rfl⟩ (by kernel_rfl) rfl
  (fun f fn hf hfn => by
   obtain rfl : f = 7 := Option.some.inj ((show Tryz.prog.funcNamed Tryz.f7.name = some 7 by kernel_rfl).symm.trans hf) |>.symm
   obtain rfl : fn = Tryz.f7 := (Option.some.inj (Tryz.func7.symm.trans hfn)).symm
   exact ⟨by kernel_rfl, fun j t ht => by
    rw [Tryz.params7] at ht
    have hm : t ∈ [9, 9, 27] := by simpa using Array.mem_of_getElem? ht
    have hall : ([9, 9, 27].all fun u => !Tryz.prog.wantsStandIn u) = true := by kernel_rfl
    exact (show Tryz.prog.wantsStandIn t = false by simpa using List.all_eq_true.1 hall t hm)⟩)
  (by kernel_rfl)
end Go.Proofs.YtlddakefmfcblaaGreatDoor
